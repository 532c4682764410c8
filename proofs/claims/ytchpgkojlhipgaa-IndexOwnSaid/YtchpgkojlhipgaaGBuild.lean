/- index.Build: its closure, the sort, and itself. -/
import Derived.Test.YtchpgkojlhipgaaPKey
import Derived.Test.YtchpgkojlhipgaaPCmp
import Derived.Test.YtchpgkojlhipgaaGIns
import Derived.Test.YtchpgkojlhipgaaGShelf
import Derived.Test.YtchpgkojlhipgaaGDrawn
import Derived.Test.YtchpgkojlhipgaaGMap
import Derived.Test.YtchpgkojlhipgaaWLast
import Derived.Maps.AppendAt
import Derived.Laws.AppendOwnNone
import Derived.Deep.RegionWith
namespace Go.Proofs.Ytchpgkojlhipgaa.X
open Go.RowKit Go.Maps Go.Sort Go.Proofs.YtchpgkojlhipgaaW.PrintWords Go.Proofs.YtchpgkojlhipgaaW.PrintLast Go.Proofs.YtchpgkojlhipgaaW.PrintMore
set_option linter.unusedVariables false

theorem key_calls (A0 : Option Addr) (c0 : Nat) (hd : List ByteArray) (A1 : Option Addr) (c1 : Nat) (rows : List (List ByteArray)) (r : Int) (A2 : Option Addr) (c2 : Nat) (cols : List Int) (w : World)
    (hr0 : Kd.C Kd.string w A0 hd.length hd) (hc0 : hd.length ≤ c0) (hr1 : Kd.C (Kd.slice 9 Kd.string) w A1 rows.length rows) (hc1 : rows.length ≤ c1) (hr2 : Kd.C (Kd.int .i64) w A2 cols.length cols) (hc2 : cols.length ≤ c2) (hl : cols.length ≤ 1000000) :
    Calls Try.prog 26 #[.agg #[.slice A0 hd.length c0, .slice A1 rows.length c1], .int .i64 r, .slice A2 cols.length c2] w fun e w' => ∃ v : Value, e = .returned v ∧ Kd.R Kd.string 9 w' w.heap.size (fun _ => True) v (keyR rows r cols) ∧ Below w.heap.size w w' :=
  index_Key.calls 1000001 A0 c0 hd A1 c1 rows r A2 c2 cols (keyR rows r cols) w hr0 hc0 hr1 hc1 hr2 hc2 (key_some hl (by decide))
theorem rows_calls (A0 : Option Addr) (c0 : Nat) (a : List ByteArray) (A1 : Option Addr) (c1 : Nat) (b : List ByteArray) (w : World) (hr0 : Kd.C Kd.string w A0 a.length a) (hc0 : a.length ≤ c0) (hr1 : Kd.C Kd.string w A1 b.length b) (hc1 : b.length ≤ c1) (ha : a.length ≤ 1000000) (hb : b.length ≤ 1000000) :
    Calls Try.prog 44 #[.slice A0 a.length c0, .slice A1 b.length c1] w fun e w' => e = .returned (.int .i64 (cmpS a b)) ∧ Below w.heap.size w w' :=
  index_rows_string.calls 1000001 A0 c0 a A1 c1 b (cmpS a b) w hr0 hc0 hr1 hc1 (rows_some ha hb (by decide))
theorem lay_stepN {P : Program} {ops : Array Oper} {o : Oper} {a : Act} {Kc : Act → World → Prop} {Q : Exit → Act → World → Prop} {W : World} {n : Nat} {cs : Array Value} {e : TypeId} (hw : Region.wanted o (yielded ops a.tmps) = true) {N : Option Tmp} (hN : o.dst = N)
    (hrun : (execOp a.eval o).run P W = .ok (.value (.slice (some ⟨W.heap.size, 0, none⟩) n n)) (W.alloc (.cells cs e)))
    (h : Kc (a.put N (.slice (some ⟨W.heap.size, 0, none⟩) n n)) (W.alloc (.cells cs e))) : if Region.wanted o (yielded ops a.tmps) = true then Oper.wp P o a W Kc Q else Kc (a.put N undef) W := by
  subst hN
  rw [if_pos hw]
  unfold Oper.wp
  rw [hrun]
  exact h
theorem C_two (W : World) (a b : Int) (e : TypeId) : Kd.C (Kd.int .i64) (W.alloc (.cells #[.int .i64 a, .int .i64 b] e)) (some ⟨W.heap.size, 0, none⟩) 2 [a, b] := by
  refine ⟨rfl, by decide, fun _ => ⟨_, rfl, fun j p hj => ?_⟩⟩
  refine ⟨[.int .i64 p], rfl, rfl, fun i u hu => ?_⟩
  have hi : i = 0 := by
    rcases i with _ | i
    · rfl
    · simp at hu
  subst hi
  simp at hu
  subst hu
  have hb := blk_new W (.cells #[.int .i64 a, .int .i64 b] e)
  match j, hj with
  | 0, hj => simp at hj; subst hj; exact blk_cell hb 0
  | 1, hj => simp at hj; subst hj; exact blk_cell hb 1
  | j + 2, hj => simp at hj
theorem or_calls (a b : Int) (A : Option Addr) (w : World) (h : Kd.C (Kd.int .i64) w A 2 [a, b]) : Calls Try.prog 43 #[.slice A 2 2] w fun e w' => e = .returned (.int .i64 (orI a b)) ∧ Drawn0 w w' :=
  cmp_Or_int.calls 5 A 2 [a, b] (orI a b) w h (by simp) (or_some a b (by decide))
/-- How two rows stand: by their keys, then by their numbers. -/
def byR (rows : List (List ByteArray)) (cols : List Int) (i k : Int) : Int := orI (cmpS (keyR rows i cols) (keyR rows k cols)) (cmpI i k)

set_option maxRecDepth 100000 in
set_option maxHeartbeats 8000000 in
theorem by_calls (A0 : Option Addr) (c0 : Nat) (hd : List ByteArray) (A1 : Option Addr) (c1 : Nat) (rows : List (List ByteArray)) (A2 : Option Addr) (c2 : Nat) (cols : List Int) (i k : Int) (tb cb : Nat) (W : World)
    (hT : W.heap[tb]? = some (.cells #[.slice A0 hd.length c0, .slice A1 rows.length c1] 41 (0, 0))) (hCb : W.heap[cb]? = some (.cells #[.slice A2 cols.length c2] 42 (0, 0)))
    (hr0_ : Kd.C Kd.string W A0 hd.length hd) (hc0 : hd.length ≤ c0) (hr1_ : Kd.C (Kd.slice 9 Kd.string) W A1 rows.length rows) (hc1 : rows.length ≤ c1) (hr2_ : Kd.C (Kd.int .i64) W A2 cols.length cols) (hc2 : cols.length ≤ c2) (hl : cols.length ≤ 1000000) :
    Calls Try.prog 42 #[.int .i64 i, .int .i64 k, .pointer (some ⟨tb, 0, none⟩), .pointer (some ⟨cb, 0, none⟩)] W fun e w' => e = .returned (.int .i64 (byR rows cols i k)) ∧ Below W.heap.size W w' := by
  have hr0 := Aside0.mk hr0_
  have hr1 := Aside0.mk hr1_
  have hr2 := Aside0.mk hr2_
  have h0 := blk_cell hT 0
  have h1 := blk_cell hT 1
  have h2 := blk_cell hCb 0
  have f0 := blk_frozen hT 0
  have f1 := blk_frozen hT 1
  have f2 := blk_frozen hCb 0
  clear hr0_ hr1_ hr2_ hT hCb
  go_enter Try.func42, Try.ntmps42
  go_wp2
  refine start_ (n := 15) (S := fun w' => w'.cell? ⟨tb, 0, none⟩ = some (.slice A0 hd.length c0) ∧ w'.cell? ⟨tb, 1, none⟩ = some (.slice A1 rows.length c1) ∧ w'.cell? ⟨cb, 0, none⟩ = some (.slice A2 cols.length c2)) (ds := []) #[false, false, false, false, false, false, false, false, false, false, false, false, false, false, false] (by kernel_rfl) rfl rfl ⟨h0, h1, h2⟩ (fun hHeld => ?_)
  have HB : Aside0 (Below W.heap.size W W.drew) := ⟨below_drew1 (Below.refl _ _)⟩
  generalize W.drew = W3 at *
  refine pure_ (i := 1) (N := some 8) (v := ?_) (a' := ?_) #[false, true, false, false, false, false, false, false, false, false, false, false, false, false, false] rfl rfl (by kernel_rfl) (fun _ _ _ h => h) (Or.inl ⟨by rfl, ?_⟩) ?_ ?_
  rotate_left
  · intro w'
    go_simp
    with_reducible rfl
  rotate_left
  · simp only [Act.put, List.setIfInBounds_toArray, List.set_cons_zero, List.set_cons_succ]
    rfl
  refine pure_ (i := 5) (N := some 12) (v := ?_) (a' := ?_) #[false, true, false, false, false, true, false, false, false, false, false, false, false, false, false] rfl rfl (by kernel_rfl) (fun _ _ _ h => h) (Or.inl ⟨by rfl, ?_⟩) ?_ ?_
  rotate_left
  · intro w'
    go_simp
    with_reducible rfl
  rotate_left
  · simp only [Act.put, List.setIfInBounds_toArray, List.set_cons_zero, List.set_cons_succ]
    rfl
  refine pure_ (i := 9) (N := some 16) (v := ?_) (a' := ?_) #[false, true, false, false, false, true, false, false, false, true, false, false, false, false, false] rfl rfl (by kernel_rfl) (fun _ _ _ h => h) (Or.inl ⟨by rfl, ?_⟩) ?_ ?_
  rotate_left
  · intro w'
    go_simp
    with_reducible rfl
  rotate_left
  · simp only [Act.put, List.setIfInBounds_toArray, List.set_cons_zero, List.set_cons_succ]
    rfl
  refine pure_ (i := 10) (N := some 17) (v := ?_) (a' := ?_) #[false, true, false, false, false, true, false, false, false, true, true, false, false, false, false] rfl rfl (by kernel_rfl) (fun _ _ _ h => h) (Or.inl ⟨by rfl, ?_⟩) ?_ ?_
  rotate_left
  · intro w'
    go_simp
    with_reducible rfl
  rotate_left
  · simp only [Act.put, List.setIfInBounds_toArray, List.set_cons_zero, List.set_cons_succ]
    rfl
  refine take_ (i := 0) (N := some 7) (v := ?_) (a' := ?_) #[true, true, false, false, false, true, false, false, false, true, true, false, false, false, false] rfl rfl (by kernel_rfl) (fun _ _ _ h => h) (Or.inl ⟨by rfl, ?_⟩) hHeld ?_ ?_
  rotate_left
  · rintro w' ⟨s0, s1, s2⟩
    go_simp
    with_reducible rfl
  rotate_left
  · simp only [Act.put, List.setIfInBounds_toArray, List.set_cons_zero, List.set_cons_succ]
    rfl
  refine take_ (i := 2) (N := some 9) (v := ?_) (a' := ?_) #[true, true, true, false, false, true, false, false, false, true, true, false, false, false, false] rfl rfl (by kernel_rfl) (fun _ _ _ h => h) (Or.inl ⟨by rfl, ?_⟩) hHeld ?_ ?_
  rotate_left
  · rintro w' ⟨s0, s1, s2⟩
    go_simp
    with_reducible rfl
  rotate_left
  · simp only [Act.put, List.setIfInBounds_toArray, List.set_cons_zero, List.set_cons_succ]
    rfl
  refine take_ (i := 4) (N := some 11) (v := ?_) (a' := ?_) #[true, true, true, false, true, true, false, false, false, true, true, false, false, false, false] rfl rfl (by kernel_rfl) (fun _ _ _ h => h) (Or.inl ⟨by rfl, ?_⟩) hHeld ?_ ?_
  rotate_left
  · rintro w' ⟨s0, s1, s2⟩
    go_simp
    with_reducible rfl
  rotate_left
  · simp only [Act.put, List.setIfInBounds_toArray, List.set_cons_zero, List.set_cons_succ]
    rfl
  refine take_ (i := 6) (N := some 13) (v := ?_) (a' := ?_) #[true, true, true, false, true, true, true, false, false, true, true, false, false, false, false] rfl rfl (by kernel_rfl) (fun _ _ _ h => h) (Or.inl ⟨by rfl, ?_⟩) hHeld ?_ ?_
  rotate_left
  · rintro w' ⟨s0, s1, s2⟩
    go_simp
    with_reducible rfl
  rotate_left
  · simp only [Act.put, List.setIfInBounds_toArray, List.set_cons_zero, List.set_cons_succ]
    rfl
  refine one_ (i := 3) (N := some 10) #[true, true, true, true, true, true, true, false, false, true, true, false, false, false, false] rfl rfl (by kernel_rfl) (by decide) (fun K hK => ?_)
  refine goes_ Try.func26 (by kernel_rfl) rfl #[.agg #[.slice A0 hd.length c0, .slice A1 rows.length c1], .int .i64 i, .slice A2 cols.length c2] (by rfl) rfl rfl (by (try simp only [List.map_toArray, List.map_cons, List.map_nil]); first | done | rfl) ?_
  with_reducible refine (key_calls A0 c0 hd A1 c1 rows i A2 c2 cols _ ?side1 ?side2 ?side3 ?side4 ?side5 ?side6 ?side7).mono ?_
  (case side1 => exact Kd.C_below hr0.out HB.out)
  (case side2 => exact hc0)
  (case side3 => exact Kd.C_below hr1.out HB.out)
  (case side4 => exact hc1)
  (case side5 => exact Kd.C_below hr2.out HB.out)
  (case side6 => exact hc2)
  (case side7 => exact hl)
  rintro e w4 ⟨v4, rfl, ho4, hb⟩
  refine ⟨_, rfl, ?_⟩
  obtain ⟨Ak4, ck4, rfl, hck4, hCk4⟩ := Kd.R_reads ho4
  have HB2 := Aside0.mk (below_step HB.out hb)
  clear HB
  have HB := HB2
  clear HB2 ho4
  refine hK.out _ _ ⟨(hb.cell (World.block_lt_of_cell? _ _ hHeld.1)).trans hHeld.1, (hb.cell (World.block_lt_of_cell? _ _ hHeld.2.1)).trans hHeld.2.1, (hb.cell (World.block_lt_of_cell? _ _ hHeld.2.2)).trans hHeld.2.2⟩ (fun hHeld => ?_)
  clear hK K
  refine norm_ (a' := ?_) ?_ ?_
  rotate_left
  · show Act.put _ (some 10) _ = _
    simp only [Act.put, List.setIfInBounds_toArray, List.set_cons_zero, List.set_cons_succ]
    rfl
  refine one_ (i := 7) (N := some 14) #[true, true, true, true, true, true, true, true, false, true, true, false, false, false, false] rfl rfl (by kernel_rfl) (by decide) (fun K hK => ?_)
  refine goes_ Try.func26 (by kernel_rfl) rfl #[.agg #[.slice A0 hd.length c0, .slice A1 rows.length c1], .int .i64 k, .slice A2 cols.length c2] (by rfl) rfl rfl (by (try simp only [List.map_toArray, List.map_cons, List.map_nil]); first | done | rfl) ?_
  with_reducible refine (key_calls A0 c0 hd A1 c1 rows k A2 c2 cols _ ?side1 ?side2 ?side3 ?side4 ?side5 ?side6 ?side7).mono ?_
  (case side1 => exact Kd.C_below hr0.out HB.out)
  (case side2 => exact hc0)
  (case side3 => exact Kd.C_below hr1.out HB.out)
  (case side4 => exact hc1)
  (case side5 => exact Kd.C_below hr2.out HB.out)
  (case side6 => exact hc2)
  (case side7 => exact hl)
  rintro e w5 ⟨v5, rfl, ho5, hb⟩
  refine ⟨_, rfl, ?_⟩
  obtain ⟨Ak5, ck5, rfl, hck5, hCk5⟩ := Kd.R_reads ho5
  have HB2 := Aside0.mk (below_step HB.out hb)
  clear HB
  have HB := HB2
  clear HB2 ho5
  replace hCk4 := Kd.C_below hCk4 hb
  refine hK.out _ _ ⟨(hb.cell (World.block_lt_of_cell? _ _ hHeld.1)).trans hHeld.1, (hb.cell (World.block_lt_of_cell? _ _ hHeld.2.1)).trans hHeld.2.1, (hb.cell (World.block_lt_of_cell? _ _ hHeld.2.2)).trans hHeld.2.2⟩ (fun hHeld => ?_)
  clear hK K
  refine norm_ (a' := ?_) ?_ ?_
  rotate_left
  · show Act.put _ (some 14) _ = _
    simp only [Act.put, List.setIfInBounds_toArray, List.set_cons_zero, List.set_cons_succ]
    rfl
  refine one_ (i := 8) (N := some 15) #[true, true, true, true, true, true, true, true, true, true, true, false, false, false, false] rfl rfl (by kernel_rfl) (by decide) (fun K hK => ?_)
  refine goes_ Try.func44 (by kernel_rfl) rfl #[.slice Ak4 (keyR rows i cols).length ck4, .slice Ak5 (keyR rows k cols).length ck5] (by rfl) rfl rfl (by (try simp only [List.map_toArray, List.map_cons, List.map_nil]); first | done | rfl) ?_
  with_reducible refine (rows_calls Ak4 ck4 (keyR rows i cols) Ak5 ck5 (keyR rows k cols) _ ?side1 ?side2 ?side3 ?side4 ?side5 ?side6).mono ?_
  (case side1 => exact hCk4)
  (case side2 => exact hck4)
  (case side3 => exact hCk5)
  (case side4 => exact hck5)
  (case side5 => exact (by rw [keyR_len]; exact hl))
  (case side6 => exact (by rw [keyR_len]; exact hl))
  rintro e w6 ⟨rfl, hb⟩
  refine ⟨_, rfl, ?_⟩
  have HB2 := Aside0.mk (below_step HB.out hb)
  clear HB
  have HB := HB2
  clear HB2 hCk4 hCk5
  refine hK.out _ _ ⟨(hb.cell (World.block_lt_of_cell? _ _ hHeld.1)).trans hHeld.1, (hb.cell (World.block_lt_of_cell? _ _ hHeld.2.1)).trans hHeld.2.1, (hb.cell (World.block_lt_of_cell? _ _ hHeld.2.2)).trans hHeld.2.2⟩ (fun hHeld => ?_)
  clear hK K
  refine norm_ (a' := ?_) ?_ ?_
  rotate_left
  · show Act.put _ (some 15) _ = _
    simp only [Act.put, List.setIfInBounds_toArray, List.set_cons_zero, List.set_cons_succ]
    rfl
  refine one_ (i := 11) (N := some 18) #[true, true, true, true, true, true, true, true, true, true, true, true, false, false, false] rfl rfl (by kernel_rfl) (by decide) (fun K hK => ?_)
  refine goes_ Try.func37 (by kernel_rfl) rfl #[.int .i64 i, .int .i64 k] (by rfl) rfl rfl (by (try simp only [List.map_toArray, List.map_cons, List.map_nil]); first | done | rfl) ?_
  with_reducible refine (cmp_Compare_int.calls i k (cmpI i k) _ (cmpI_some i k)).mono ?_
  rintro e w7 ⟨rfl, ⟨nd, rfl⟩⟩
  refine ⟨_, rfl, ?_⟩
  have HB2 := Aside0.mk (pw_below_drewN HB.out nd)
  clear HB
  have HB := HB2
  clear HB2
  refine hK.out _ _ hHeld (fun hHeld => ?_)
  clear hK K
  generalize w6.drewN nd = w7 at *
  refine norm_ (a' := ?_) ?_ ?_
  rotate_left
  · show Act.put _ (some 18) _ = _
    simp only [Act.put, List.setIfInBounds_toArray, List.set_cons_zero, List.set_cons_succ]
    rfl
  refine one_ (i := 12) (N := some 19) #[true, true, true, true, true, true, true, true, true, true, true, true, true, false, false] rfl rfl (by kernel_rfl) (by decide) (fun K hK => ?_)
  refine lay_stepN (n := 2) (cs := #[.int .i64 (cmpS (keyR rows i cols) (keyR rows k cols)), .int .i64 (cmpI i k)]) (e := 3) rfl rfl ?hr ?_
  case hr => first | (go_simp; done) | (go_simp; rfl)
  have hb := below_alloc (Below.refl w7.heap.size w7) (.cells #[.int .i64 (cmpS (keyR rows i cols) (keyR rows k cols)), .int .i64 (cmpI i k)] 3)
  have HB2 := Aside0.mk (below_step HB.out hb)
  clear HB
  have HB := HB2
  clear HB2
  have hCo := C_two w7 (cmpS (keyR rows i cols) (keyR rows k cols)) (cmpI i k) 3
  refine hK.out _ _ ⟨(hb.cell (World.block_lt_of_cell? _ _ hHeld.1)).trans hHeld.1, (hb.cell (World.block_lt_of_cell? _ _ hHeld.2.1)).trans hHeld.2.1, (hb.cell (World.block_lt_of_cell? _ _ hHeld.2.2)).trans hHeld.2.2⟩ (fun hHeld => ?_)
  clear hK K
  refine norm_ (a' := ?_) ?_ ?_
  rotate_left
  · show Act.put _ (some 19) _ = _
    simp only [Act.put, List.setIfInBounds_toArray, List.set_cons_zero, List.set_cons_succ]
    rfl
  refine one_ (i := 13) (N := some 20) #[true, true, true, true, true, true, true, true, true, true, true, true, true, true, false] rfl rfl (by kernel_rfl) (by decide) (fun K hK => ?_)
  refine goes_ Try.func43 (by kernel_rfl) rfl #[.slice (some ⟨w7.heap.size, 0, none⟩) 2 2] (by rfl) rfl rfl (by (try simp only [List.map_toArray, List.map_cons, List.map_nil]); first | done | rfl) ?_
  with_reducible refine (or_calls (cmpS (keyR rows i cols) (keyR rows k cols)) (cmpI i k) (some ⟨w7.heap.size, 0, none⟩) _ hCo).mono ?_
  rintro e w9 ⟨rfl, ⟨nd, rfl⟩⟩
  refine ⟨_, rfl, ?_⟩
  have HB2 := Aside0.mk (pw_below_drewN HB.out nd)
  clear HB
  have HB := HB2
  clear HB2
  refine hK.out _ _ hHeld (fun hHeld => ?_)
  clear hK K
  refine norm_ (a' := ?_) ?_ ?_
  rotate_left
  · show Act.put _ (some 20) _ = _
    simp only [Act.put, List.setIfInBounds_toArray, List.set_cons_zero, List.set_cons_succ]
    rfl
  refine pure_ (i := 14) (N := some 6) (v := ?_) (a' := ?_) #[true, true, true, true, true, true, true, true, true, true, true, true, true, true, true] rfl rfl (by kernel_rfl) (fun _ _ _ h => h) (Or.inl ⟨by rfl, ?_⟩) ?_ ?_
  rotate_left
  · intro w'
    go_simp
    with_reducible rfl
  rotate_left
  · simp only [Act.put, List.setIfInBounds_toArray, List.set_cons_zero, List.set_cons_succ]
    rfl
  refine done_ (by kernel_rfl) ?_
  go_wp2
  go_ret
  exact ⟨rfl, HB.out⟩

/-- Draws and blocks behind a world. -/
theorem grow_of {W w' : World} (h : Below W.heap.size W w') (hd : W.drawn ≤ w'.drawn) : ∃ q os, w' = grow (W.drewN q) os := by
  refine ⟨w'.drawn - W.drawn, w'.heap.extract W.heap.size w'.heap.size, ?_⟩
  have e1 : W.heap ++ w'.heap.extract W.heap.size w'.heap.size = w'.heap := by
    refine Array.ext_getElem? fun i => ?_
    rcases Nat.lt_or_ge i W.heap.size with h1 | h1
    · rw [Array.getElem?_append_left h1, h.block i h1]
    · rw [Array.getElem?_append_right h1, Array.getElem?_extract]
      split
      · congr 1; omega
      · rw [Array.getElem?_eq_none]; omega
  cases w' with
  | mk heap tape drawn os output =>
    have h1 := h.tape
    have h2 := h.os
    have h3 := h.output
    simp only at h1 h2 h3 hd e1
    subst h1 h2 h3
    unfold grow World.drewN
    simp only [World.mk.injEq]
    exact ⟨e1.symm, trivial, by omega, trivial, trivial⟩
def encN (x : Int) : Value := .int .i64 x
theorem one_holds {W : World} {g cap : Nat} {cur : Array Value} {e : TypeId} {l : List Int} (hg : W.heap[g]? = some (.cells cur e (0, 0))) (hc : l.length ≤ cap) (hs : cur.size = cap * 1) (ht : cur.toList.take (l.length * 1) = encs (Value.int .i64) l) : Holds encN W g 0 l.toArray := by
  intro j hj
  have hj' : j < l.length := by simpa using hj
  have h1 : cur[j]? = some (encN (l.toArray[j]!)) := by
    have h2 : (cur.toList.take (l.length * 1))[j]? = (encs (Value.int .i64) l)[j]? := by rw [ht]
    rw [List.getElem?_take_of_lt (by omega), Array.getElem?_toList] at h2
    rw [h2]
    unfold encs encN
    rw [List.getElem?_map, List.getElem?_eq_getElem hj']
    simp [hj']
  refine ⟨?_, by simp [World.frozen?, hg]⟩
  rw [Nat.zero_add]
  simp only [World.cell?, hg]
  simpa using h1
theorem one_sorted {W : World} {base g cap : Nat} {cur : Array Value} {e : TypeId} {l l' : List Int} {n : Nat} {os : Array Obj} (hg : W.heap[g]? = some (.cells cur e (0, 0))) (hbg : base ≤ g) (hc : l.length ≤ cap) (hm : cap ≤ maxLen) (hs : cur.size = cap * 1) (hl : l'.length = l.length) :
    (sortWorld encN W g 0 n l'.toArray os).ownsRow base e 1 (.slice (some ⟨g, 0, none⟩) l.length cap) l'.length (encs (Value.int .i64) l') ∧ (sortWorld encN W g 0 n l'.toArray os).heap[g]? = some (.cells (putCells encN 0 l'.toArray cur) e (0, 0)) := by
  have hlt := blk_lt hg
  have hh : (sortWorld encN W g 0 n l'.toArray os).heap[g]? = some (.cells (putCells encN 0 l'.toArray cur) e (0, 0)) := by
    show ((W.heap.modify g _) ++ os)[g]? = _
    rw [Array.getElem?_append_left (by rw [Array.size_modify]; exact hlt)]
    obtain ⟨h1, h2⟩ := Array.getElem?_eq_some_iff.1 hg
    rw [Array.getElem?_eq_getElem (by rw [Array.size_modify]; exact hlt), Array.getElem_modify_self, h2]
    rfl
  refine ⟨⟨by simp [encs], .inr ⟨g, cap, _, by rw [hl], hbg, hh, by omega, hm, by simp [putCells, hs], ?_⟩⟩, hh⟩
  refine List.ext_getElem? fun t => ?_
  rcases Nat.lt_or_ge t l'.length with h | h
  · rw [List.getElem?_take_of_lt (by omega), Array.getElem?_toList]
    unfold putCells encs encN
    rw [Array.getElem?_mapIdx, Array.getElem?_eq_getElem (by omega), List.getElem?_map, List.getElem?_eq_getElem h]
    simp [h]
  · rw [List.getElem?_eq_none (by rw [List.length_take]; omega), List.getElem?_eq_none (by simpa [encs] using h)]
theorem sort_block {W : World} {g j n : Nat} {dk : Array Int} {os : Array Obj} (hj : j < W.heap.size) (hne : j ≠ g) : (sortWorld encN W g 0 n dk os).heap[j]? = W.heap[j]? := by
  show ((W.heap.modify g _) ++ os)[j]? = _
  rw [Array.getElem?_append_left (by rw [Array.size_modify]; exact hj), Array.getElem?_modify, if_neg (fun e => hne e.symm)]
theorem sort_below {W : World} {base g n : Nat} {dk : Array Int} {os : Array Obj} (hb : base ≤ g) (hB : base ≤ W.heap.size) : Below base W (sortWorld encN W g 0 n dk os) := by
  refine ⟨rfl, rfl, rfl, ?_, fun j hj => sort_block (by omega) (by omega)⟩
  show W.heap.size ≤ ((W.heap.modify g _) ++ os).size
  simp
/-! How two rows stand: one order. -/
theorem cmpI_lt {a b : Int} : cmpI a b < 0 ↔ a < b := by unfold cmpI; split <;> (try split) <;> omega
theorem cmpI_eq {a b : Int} : cmpI a b = 0 ↔ a = b := by unfold cmpI; split <;> (try split) <;> omega
section
variable (rows : List (List ByteArray)) (cols : List Int)
def Bef (i k : Int) : Prop := cmpS (keyR rows i cols) (keyR rows k cols) < 0 ∨ cmpS (keyR rows i cols) (keyR rows k cols) = 0 ∧ i < k
instance (i k : Int) : Decidable (Bef rows cols i k) := by unfold Bef; exact inferInstance
theorem by_lt {i k : Int} : byR rows cols i k < 0 ↔ Bef rows cols i k := by
  unfold byR orI Bef
  by_cases h : cmpS (keyR rows i cols) (keyR rows k cols) = 0
  · rw [if_pos h, cmpI_lt]; omega
  · rw [if_neg h]; omega
theorem lt_by (x y : Int) : Go.Proofs.ltOf (byR rows cols) x y = decide (Bef rows cols x y) := by
  unfold Go.Proofs.ltOf
  rw [Bool.eq_iff_iff, decide_eq_true_eq, decide_eq_true_eq, by_lt]
theorem bef_irr (x : Int) : ¬ Bef rows cols x x := by
  unfold Bef
  have := (cmpS_eq (a := keyR rows x cols) (b := keyR rows x cols)).2 rfl
  omega
theorem bef_trans {x y z : Int} (h1 : Bef rows cols x y) (h2 : Bef rows cols y z) : Bef rows cols x z := by
  unfold Bef at *
  have t1 := cmpS_tr (keyR rows x cols) (keyR rows y cols) (keyR rows z cols)
  have t2 := cmpS_tr' (keyR rows x cols) (keyR rows y cols) (keyR rows z cols)
  rcases h1 with h1 | ⟨e1, h1⟩
  · rcases h2 with h2 | ⟨e2, h2⟩
    · exact .inl (t1 h1 (by omega))
    · exact .inl (t1 h1 (by omega))
  · rcases h2 with h2 | ⟨e2, h2⟩
    · exact .inl (t2 (by omega) h2)
    · refine .inr ⟨?_, by omega⟩
      rw [cmpS_eq.1 e1]; exact e2
theorem bef_tot {x y : Int} (h1 : ¬ Bef rows cols x y) (h2 : ¬ Bef rows cols y x) : x = y := by
  unfold Bef at *
  have := cmpS_neg (keyR rows x cols) (keyR rows y cols)
  omega
theorem bef_or {x y : Int} (h : ¬ Bef rows cols y x) : Bef rows cols x y ∨ x = y := by
  by_cases h2 : Bef rows cols x y
  · exact .inl h2
  · exact .inr (bef_tot rows cols h2 h)
theorem swoB : SWO (Go.Proofs.ltOf (byR rows cols)) where
  irrefl x := by rw [lt_by]; exact decide_eq_false (bef_irr rows cols x)
  trans x y z h1 h2 := by rw [lt_by] at *; exact decide_eq_true (bef_trans rows cols (of_decide_eq_true h1) (of_decide_eq_true h2))
  ntrans x y z h1 h2 := by
    rw [lt_by] at *
    have h1' := of_decide_eq_false h1
    have h2' := of_decide_eq_false h2
    refine decide_eq_false fun h3 => ?_
    rcases bef_or rows cols h1' with h4 | rfl
    · rcases bef_or rows cols h2' with h5 | rfl
      · exact bef_irr rows cols z (bef_trans rows cols h5 (bef_trans rows cols h4 h3))
      · exact h1' h3
    · exact h2' h3
def leB (x y : Int) : Bool := !decide (Bef rows cols y x)
def sortB (l : List Int) : List Int := GIns.isort (leB rows cols) l
theorem leB_tot (a b : Int) : (leB rows cols a b || leB rows cols b a) = true := by
  unfold leB
  by_cases h : Bef rows cols b a
  · have : ¬ Bef rows cols a b := fun h2 => bef_irr rows cols a (bef_trans rows cols h2 h)
    simp [this]
  · simp [h]
theorem leB_trans (a b c : Int) (h1 : leB rows cols a b = true) (h2 : leB rows cols b c = true) : leB rows cols a c = true := by
  unfold leB at *
  simp only [Bool.not_eq_true', decide_eq_false_iff_not] at *
  intro h3
  rcases bef_or rows cols h1 with h4 | rfl
  · exact h2 (bef_trans rows cols h3 h4)
  · exact h2 h3
theorem leB_anti (a b : Int) (h1 : leB rows cols a b = true) (h2 : leB rows cols b a = true) : a = b := by
  unfold leB at *
  simp only [Bool.not_eq_true', decide_eq_false_iff_not] at *
  exact bef_tot rows cols h2 h1
theorem sortB_len (l : List Int) : (sortB rows cols l).length = l.length := (GIns.perm_isort (leB rows cols) l).length_eq
theorem merge_sortB (l : List Int) : (l.mergeSort fun x y => !Go.Proofs.ltOf (byR rows cols) y x) = sortB rows cols l := by
  have e : (fun x y : Int => !Go.Proofs.ltOf (byR rows cols) y x) = leB rows cols := by funext x y; unfold leB; rw [lt_by]
  rw [e]
  exact GIns.merge_isort (leB rows cols) (leB_tot rows cols) (leB_trans rows cols) (leB_anti rows cols) l
end
theorem sortI_calls (A0 : Option Addr) (c0 : Nat) (hd : List ByteArray) (A1 : Option Addr) (c1 : Nat) (rows : List (List ByteArray)) (A2 : Option Addr) (c2 : Nat) (cols : List Int) (tb cb : Nat) (w W : World) (hB : Below w.heap.size w W)
    (hT : W.heap[tb]? = some (.cells #[.slice A0 hd.length c0, .slice A1 rows.length c1] 41 (0, 0))) (hCb : W.heap[cb]? = some (.cells #[.slice A2 cols.length c2] 42 (0, 0)))
    (hr0 : Kd.C Kd.string w A0 hd.length hd) (hc0 : hd.length ≤ c0) (hr1 : Kd.C (Kd.slice 9 Kd.string) w A1 rows.length rows) (hc1 : rows.length ≤ c1) (hr2 : Kd.C (Kd.int .i64) w A2 cols.length cols) (hc2 : cols.length ≤ c2) (hlc : cols.length ≤ 1000000)
    (l : List Int) (v : Value) (ho : W.ownsRow w.heap.size 3 1 v l.length (encs (Value.int .i64) l)) (hl : l.length ≤ 1000000) :
    Calls Try.prog 45 #[v, .func (.func 42) #[] #[.pointer (some ⟨tb, 0, none⟩), .pointer (some ⟨cb, 0, none⟩)]] W fun e w' => e = .returned (.tuple #[]) ∧ w'.ownsRow w.heap.size 3 1 v l.length (encs (Value.int .i64) (sortB rows cols l)) ∧ Below w.heap.size w w' := by
  rcases ho.2 with ⟨rfl, h0⟩ | ⟨g, cap, cur, rfl, hbg, hg, hc, hm, hs, ht⟩
  · have hS := AnyF.slices_SortFunc_none (P := Try.prog) (ρ := Try.sortI_ren) { Try.sortI with } none 0 (.func (.func 42) #[] #[.pointer (some ⟨tb, 0, none⟩), .pointer (some ⟨cb, 0, none⟩)]) W
    refine hS.mono ?_
    rintro e w' ⟨rfl, rfl⟩
    obtain rfl := List.eq_nil_of_length_eq_zero h0
    exact ⟨rfl, ho, hB⟩
  · have eg : ∀ args w, (callFunc 42 args).run Try.prog w = .ok (.enter 42 args) w := enters_of Try.func42 (by kernel_rfl) rfl
    have hH := one_holds hg hc hs ht
    have hnt : tb ≠ g := fun e => by subst e; rw [hg] at hT; simp at hT
    have hnc : cb ≠ g := fun e => by subst e; rw [hg] at hCb; simp at hCb
    have hcmp : CmpLays1 Try.prog 42 #[.pointer (some ⟨tb, 0, none⟩), .pointer (some ⟨cb, 0, none⟩)] encN (byR rows cols) g 0 l.toArray.size W := by
      intro m os dk _ x y
      have hb2 : Below w.heap.size w (sortWorld encN W g 0 m dk os) := hB.trans (sort_below hbg hB.size)
      refine (GDrawn.calls_drawn (by_calls A0 c0 hd A1 c1 rows A2 c2 cols x y tb cb _ ((sort_block (blk_lt hT) hnt).trans hT) ((sort_block (blk_lt hCb) hnc).trans hCb) (Kd.C_below hr0 hb2) hc0 (Kd.C_below hr1 hb2) hc1 (Kd.C_below hr2 hb2) hc2 hlc)).mono ?_
      rintro e w' ⟨⟨he, hb⟩, hd⟩
      exact ⟨he, grow_of hb (hd ⟨_, he⟩)⟩
    have hS := Any.slices_SortFunc_total Try.sortI encN (fun _ => rfl) (byR rows cols) (swoB rows cols) 42 #[.pointer (some ⟨tb, 0, none⟩), .pointer (some ⟨cb, 0, none⟩)] g 0 cap l.toArray W eg hcmp hH (blk_lt hg) (by simp; omega)
      (fun x y h1 h2 => by rw [lt_by] at *; exact bef_tot rows cols (of_decide_eq_false h1) (of_decide_eq_false h2))
    change Calls Try.prog 45 #[.slice (some ⟨g, 0, none⟩) l.length cap, .func (.func 42) #[] #[.pointer (some ⟨tb, 0, none⟩), .pointer (some ⟨cb, 0, none⟩)]] W _ at hS
    refine hS.mono ?_
    rintro e w' ⟨rfl, n, os, rfl⟩
    have hms : l.toArray.toList.mergeSort (fun x y => !Go.Proofs.ltOf (byR rows cols) y x) = sortB rows cols l := merge_sortB rows cols l
    rw [hms]
    have hl' := sortB_len rows cols l
    obtain ⟨q1, q2⟩ := one_sorted (base := w.heap.size) (n := n) (os := os) hg hbg hc hm hs hl'
    rw [hl'] at q1
    exact ⟨rfl, q1, hB.trans (sort_below hbg hB.size)⟩
/-- The numbers of so many rows. -/
def rngI (n : Nat) : List Int := (List.range n).map fun i : Nat => (i : Int)
theorem rngI_succ (n : Nat) : rngI (n + 1) = rngI n ++ [(n : Int)] := by unfold rngI; rw [List.range_succ, List.map_append]; rfl
theorem rngI_len (n : Nat) : (rngI n).length = n := by unfold rngI; simp
def buildR (rows : List (List ByteArray)) (cols : List Int) : List Int := sortB rows cols (rngI rows.length)
def index_Build.f (l0_0 : List ByteArray) (l0_1 : List (List ByteArray)) (l1 : List Int) : Option (List Int) := if l0_1.length ≤ 1000000 ∧ l1.length ≤ 1000000 then some (buildR l0_1 l1) else none
theorem encs_snocI (xs : List Int) (x : Int) : encs (Value.int .i64) (xs ++ [x]) = encs (Value.int .i64) xs ++ [.int .i64 x] := by simp [encs]
theorem R_intI {w' : World} {base : Nat} {v : Value} {xs : List Int} (ho : w'.ownsRow base 3 1 v xs.length (encs (Value.int .i64) xs)) : Kd.R (Kd.int .i64) 3 w' base (fun _ => True) v xs := Kd.R_of_own ho (fun _ _ => trivial)
theorem alloc_old (w : World) (o : Obj) {j : Nat} (h : j < w.heap.size) : (w.alloc o).heap[j]? = w.heap[j]? := by
  show (w.heap.push o)[j]? = _
  rw [Array.getElem?_push, if_neg (by omega)]
/-- Where the loop stands. -/
structure BAt (w : World) (hd : List ByteArray) (rows : List (List ByteArray)) (cols : List Int) (T C : Value × Value × Value) (t : Nat) (vo : Value) (wr : World) : Prop where
  ht : t ≤ rows.length
  o : wr.ownsRow w.heap.size 3 1 vo (rngI t).length (encs (Value.int .i64) (rngI t))
  b : Below w.heap.size w wr
  T : wr.heap[w.heap.size]? = some (.cells #[T.1, T.2.1] 41 (0, 0))
  C : wr.heap[w.heap.size + 1]? = some (.cells #[C.1] 42 (0, 0))
theorem BAt.next {w w1 wr : World} {hd : List ByteArray} {rows : List (List ByteArray)} {cols : List Int} {T C : Value × Value × Value} {t : Nat} {vo v' : Value} {o : Obj} (h : BAt w hd rows cols T C t vo wr) (hlt : t < rows.length)
    (ho : w1.ownsRow w.heap.size 3 1 v' ((rngI t).length + 1) (encs (Value.int .i64) (rngI t) ++ [.int .i64 (t : Int)])) (hg : (wr.alloc o).grownBy w1 vo.ownBlock) : BAt w hd rows cols T C (t + 1) v' w1 := by
  have hsz := h.b.size
  have hk : ∀ j, j < wr.heap.size → vo.ownBlock ≠ some j → w1.heap[j]? = wr.heap[j]? := fun j hj hne => by
    rw [hg.block j (by rw [World.size_alloc]; omega) (fun e => hne e.symm), alloc_old _ _ hj]
  refine ⟨hlt, ?_, (h.b.alloc hsz o).grown hg (by simp; omega) (fun k hk => own_base h.o k hk), ?_, ?_⟩
  · rw [rngI_succ, encs_snocI, List.length_append, List.length_singleton]; exact ho
  · rw [hk _ (lt_of_block h.T) (fun e => by obtain ⟨cells, hc⟩ := own_typed h.o _ e; rw [h.T] at hc; simp at hc)]; exact h.T
  · rw [hk _ (lt_of_block h.C) (fun e => by obtain ⟨cells, hc⟩ := own_typed h.o _ e; rw [h.C] at hc; simp at hc)]; exact h.C

set_option maxRecDepth 100000 in
set_option maxHeartbeats 1600000 in
theorem index_Build.calls (A0_0 : Option Addr) (c0_0 : Nat) (l0_0 : List ByteArray) (A0_1 : Option Addr) (c0_1 : Nat) (l0_1 : List (List ByteArray)) (A1 : Option Addr) (c1 : Nat) (l1 : List Int) (r : List Int) (w : World) (hr0_0 : Kd.C Kd.string w A0_0 l0_0.length l0_0) (hc0_0 : l0_0.length ≤ c0_0) (hr0_1 : Kd.C (Kd.slice 9 Kd.string) w A0_1 l0_1.length l0_1) (hc0_1 : l0_1.length ≤ c0_1) (hr1 : Kd.C (Kd.int .i64) w A1 l1.length l1) (hc1 : l1.length ≤ c1) (h : index_Build.f l0_0 l0_1 l1 = some r) :
    Calls Try.prog 23 #[.agg #[.slice A0_0 l0_0.length c0_0, .slice A0_1 l0_1.length c0_1], .slice A1 l1.length c1] w fun e w' => ∃ v0_ : Value, e = .returned (v0_) ∧ Kd.R (Kd.int .i64) 3 w' w.heap.size (fun _ => True) v0_ r ∧ Below w.heap.size w w' := by
  unfold index_Build.f at h
  split at h
  · rename_i hok
    obtain ⟨i0, hi, hz0, hz1, hz2⟩ := info_parts info3
    have H := Aside0.mk (Option.some.inj h)
    have HR := Aside0.mk (And.intro hr0_0 (And.intro hr0_1 hr1))
    have HL := Aside0.mk hok
    clear h hr0_0 hr0_1 hr1 hok
    have hlr := HL.out.1
    go_enter Try.func23, Try.ntmps23
    go_wp2
    go_loopw [11, 5] (fun vi vo wr => ∃ t : Nat, vi = .int .i64 t ∧ BAt w l0_0 l0_1 l1 (.slice A0_0 l0_0.length c0_0, .slice A0_1 l0_1.length c0_1, undef) (.slice A1 l1.length c1, undef, undef) t vo wr)
      (fun vi _ _ => l0_1.length - (intOf vi).toNat)
    case atStart =>
      have hb1 := below_alloc (Below.refl w.heap.size w) (.cells #[.slice A0_0 l0_0.length c0_0, .slice A0_1 l0_1.length c0_1] 41)
      refine ⟨0, rfl, Nat.zero_le _, by simpa [rngI, encs] using World.ownsRow_nil _ _ _ _, below_alloc hb1 _, ?_, ?_⟩
      · rw [alloc_old _ _ (by simp)]; exact blk_new w _
      · have h2 := blk_new (w.alloc (.cells #[.slice A0_0 l0_0.length c0_0, .slice A0_1 l0_1.length c0_1] 41)) (.cells #[.slice A1 l1.length c1] 42)
        rw [World.size_alloc] at h2
        exact h2
    case round =>
      obtain ⟨t, rfl, hch⟩ := hrel
      by_cases hlt : t < l0_1.length
      · have hml : (rngI t).length + 1 ≤ maxLen := by rw [rngI_len]; unfold maxLen; omega
        have hml2 : ((rngI t).length + 1) * 8 ≤ 140737488355328 := by rw [rngI_len]; omega
        have hsz := hch.b.size
        have HC := Aside0.mk hch
        clear hch
        go_wp2_with (first
          | (at_builtin; refine wpList_append_own _ rfl _ _ 42 rfl w.heap.size 3 i0 (.int .i64 0) 1 8 Try.underlying42 hi hz0 hz1 hz2 rfl (by decide) _ _ _ rfl (HC.out.o.alloc _) ⟨wr.heap.size, 0, none⟩ 1 1 [.int .i64 (t : Int)] rfl rfl (cell_one_new _ _ _) (by simp [Value.oneCell']) hml hml2 (by simp; omega) ?_; intro v' w1 hown' hgrow _))
        have hn := HC.out.next hlt hown' hgrow
        go_roundw
        case rel => exact ⟨t + 1, by go_num, hn⟩
        case measure => simp [intOf]; omega
      · obtain rfl : t = l0_1.length := by have := hch.ht; omega
        have HC := Aside0.mk hch
        clear hch
        go_wp2_with (first
          | (go_at_call 45; refine (sortI_calls A0_0 c0_0 l0_0 A0_1 c0_1 l0_1 A1 c1 l1 w.heap.size (w.heap.size + 1) w wr HC.out.b HC.out.T HC.out.C HR.out.1 hc0_0 HR.out.2.1 hc0_1 HR.out.2.2 hc1 HL.out.2 (rngI l0_1.length) _ HC.out.o (by rw [rngI_len]; exact hlr)).mono ?_; rintro e w5 ⟨rfl, ho5, hb5⟩))
        go_ret
        rw [← H.out]
        refine ⟨_, rfl, R_intI ?_, hb5⟩
        unfold buildR
        rw [sortB_len]
        exact ho5
  · exact nomatch h
end Go.Proofs.Ytchpgkojlhipgaa.X
