/- table.Of. -/
import Derived.Test.YtbcpaojciephmaaGCheck
namespace Go.Proofs.Ytbcpaojciephmaa.X
open Go.RowKit Go.Maps Go.Shelf Go.Proofs.YtbcpaojciephmaaW.PrintWords Go.Proofs.YtbcpaojciephmaaW.PrintLast
set_option linter.unusedVariables false

theorem lay_stepO {P : Program} {ops : Array Oper} {o : Oper} {a : Act} {Kc : Act → World → Prop} {Q : Exit → Act → World → Prop} {W : World} {n : Nat} {cs : Array Value} {e : TypeId} (hw : Region.wanted o (yielded ops a.tmps) = true) {N : Option Tmp} (hN : o.dst = N)
    (hrun : (execOp a.eval o).run P W = .ok (.value (.slice (some ⟨W.heap.size, 0, none⟩) n n)) (W.alloc (.cells cs e)))
    (h : Kc (a.put N (.slice (some ⟨W.heap.size, 0, none⟩) n n)) (W.alloc (.cells cs e))) : if Region.wanted o (yielded ops a.tmps) = true then Oper.wp P o a W Kc Q else Kc (a.put N undef) W := by
  subst hN
  rw [if_pos hw]
  unfold Oper.wp
  rw [hrun]
  exact h
/-- Of's state: the result's cell R, the table T, the rows so far. -/
structure OfAt (w : World) (T : Nat) (hd : List ByteArray) (rows : List (List ByteArray)) (v0 v1 : Value) (W : World) : Prop where
  t : W.heap[T]? = some (.cells #[v0, v1] 25 (0, 0))
  z : W.heap[w.heap.size]? = some (.cells #[.slice none 0 0, .slice none 0 0] 25 (0, 0))
  r0 : Kd.R Kd.string 9 W w.heap.size (fun k => k < T) v0 hd
  r1 : Kd.S (Kd.slice 9 Kd.string) 22 W w.heap.size (fun k => T < k) v1 rows
  lo : Below w.heap.size w W
  gt : w.heap.size < T
theorem OfAt.below {w : World} {T : Nat} {hd : List ByteArray} {rows : List (List ByteArray)} {v0 v1 : Value} {W W' : World} (h : OfAt w T hd rows v0 v1 W) (hb : Below W.heap.size W W') : OfAt w T hd rows v0 v1 W' :=
  ⟨(hb.block _ (lt_of_block h.t)).trans h.t, (hb.block _ (lt_of_block h.z)).trans h.z, Kd.R_below h.r0 hb, Kd.S_below h.r1 hb, h.lo.trans (hb.mono h.lo.size), h.gt⟩
theorem OfAt.step {w : World} {T : Nat} {hd : List ByteArray} {rows : List (List ByteArray)} {v0 v1 v1' : Value} {W w2 : World} {x : List ByteArray} (h : OfAt w T hd rows v0 v1 W) (hS : Kd.S (Kd.slice 9 Kd.string) 22 w2 w.heap.size (fun k => T < k) v1' (rows ++ [x])) (hb : Below w.heap.size w w2) (hg : W.grownBy w2 v1.ownBlock) :
    OfAt w T hd (rows ++ [x]) v0 v1' (w2.setCell ⟨T, 1, none⟩ v1') := by
  have hT := lt_of_block h.t
  have hz := lt_of_block h.z
  have h1 : ∀ k, v1.ownBlock = some k → T < k := (Kd.S_R h.r1).1
  have hgt := h.gt
  have ht2 : w2.heap[T]? = some (.cells #[v0, v1] 25 (0, 0)) := (hg.block _ hT (fun e => by have := h1 T e.symm; omega)).trans h.t
  refine ⟨?_, ?_, ?_, ?_, hb.setCell (by show w.heap.size ≤ T; omega) _, hgt⟩
  · exact heap_setCell_same _ _ _ _ _ _ ht2
  · rw [Below.heap_setCell _ _ _ _ (by show w.heap.size ≠ T; omega)]
    exact (hg.block _ hz (fun e => by have := h1 _ e.symm; omega)).trans h.z
  · exact Kd.R_far (p := ⟨T, 1, none⟩) (Kd.R_grown h.r0 hg (fun k hk e => by have := h1 _ e.symm; omega)) (fun k hk => by show k ≠ T; omega) _
  · exact Kd.S_far (p := ⟨T, 1, none⟩) hS (fun k hk => by show k ≠ T; omega) _
theorem OfAt.clone {w : World} {T : Nat} {hd : List ByteArray} {rows : List (List ByteArray)} {v0 v1 u : Value} {W W1 : World} {x : List ByteArray} (h : OfAt w T hd rows v0 v1 W) (hb : Below W.heap.size W W1) (hu : Kd.R Kd.string 9 W1 W.heap.size (fun _ => True) u x) :
    (Kd.slice 9 Kd.string).M W1 w.heap.size (fun k => W.heap.size ≤ k ∧ k < W1.heap.size) x [u] ∧ (∀ k, W.heap.size ≤ k ∧ k < W1.heap.size → T < k ∧ some k ≠ v1.ownBlock) ∧ (∀ k, W1.heap.size ≤ k → T < k) ∧ Kd.S (Kd.slice 9 Kd.string) 22 W1 w.heap.size (fun k => T < k ∧ ¬ (W.heap.size ≤ k ∧ k < W1.heap.size)) v1 rows := by
  have hT := lt_of_block h.t
  have hs := hb.size
  refine ⟨⟨u, rfl, Kd.R_lower (Kd.R_mono (Kd.R_bound hu) (fun k hk => ⟨hk.2.1, hk.2.2.1⟩)) h.lo.size⟩, fun k hk => ⟨by omega, fun e => ?_⟩, fun k hk => by omega, ?_⟩
  · have := Kd.S_lt h.r1 k e.symm
    omega
  · exact Kd.S_mono (Kd.S_below (Kd.S_bound h.r1) hb) (fun k hk => ⟨hk.1, by have := hk.2.2.1; omega⟩)

theorem OfAt.start {w w1 : World} {hd : List ByteArray} {v0 : Value} (hb1 : Below (w.alloc (.cells #[.slice none 0 0, .slice none 0 0] 25)).heap.size (w.alloc (.cells #[.slice none 0 0, .slice none 0 0] 25)) w1) (hv : Kd.R Kd.string 9 w1 (w.alloc (.cells #[.slice none 0 0, .slice none 0 0] 25)).heap.size (fun _ => True) v0 hd) :
    OfAt w w1.heap.size hd [] v0 (.slice none 0 0) (w1.alloc (.cells #[v0, .slice none 0 0] 25)) := by
  have hs := hb1.size
  rw [World.size_alloc] at hs
  refine ⟨blk_new w1 _, ?_, ?_, Kd.S_nil _ _ _ _ _, ?_, by omega⟩
  · exact ((below_alloc (Below.refl _ w1) _).block _ (by omega)).trans ((hb1.block _ (by simp)).trans (blk_new w _))
  · refine Kd.R_lower (Kd.R_mono (Kd.R_alloc (Kd.R_bound hv) _) (fun k hk => hk.2.2.1)) ?_
    rw [World.size_alloc]; omega
  · exact ((below_alloc (Below.refl w.heap.size w) _).trans (hb1.mono (by simp))).alloc (by omega) _
theorem OfAt.held {w : World} {T : Nat} {hd : List ByteArray} {rows : List (List ByteArray)} {v0 v1 : Value} {W : World} (h : OfAt w T hd rows v0 v1 W) : W.cell? ⟨T, 1, none⟩ = some v1 ∧ W.cell? ⟨T, 0, none⟩ = some v0 := ⟨blk_cell h.t 1, blk_cell h.t 0⟩
theorem OfAt.kept {w : World} {T : Nat} {hd : List ByteArray} {rows : List (List ByteArray)} {v0 v1 : Value} {W w2 : World} (h : OfAt w T hd rows v0 v1 W) (hg : W.grownBy w2 v1.ownBlock) : w2.heap[T]? = some (.cells #[v0, v1] 25 (0, 0)) :=
  (hg.block _ (lt_of_block h.t) (fun e => Nat.lt_irrefl _ ((Kd.S_R h.r1).1 T e.symm))).trans h.t
theorem OfAt.end_ {w : World} {T : Nat} {hd : List ByteArray} {rows : List (List ByteArray)} {v0 v1 : Value} {W : World} (h : OfAt w T hd rows v0 v1 W) (x y : Value) :
    Kd.R Kd.string 9 ((W.setCell ⟨w.heap.size, 0, none⟩ x).setCell ⟨w.heap.size, 1, none⟩ y) w.heap.size (fun _ => True) v0 hd ∧ Kd.S (Kd.slice 9 Kd.string) 22 ((W.setCell ⟨w.heap.size, 0, none⟩ x).setCell ⟨w.heap.size, 1, none⟩ y) w.heap.size (fun k_ => some k_ ≠ v0.ownBlock) v1 rows ∧ Below w.heap.size w ((W.setCell ⟨w.heap.size, 0, none⟩ x).setCell ⟨w.heap.size, 1, none⟩ y) := by
  have hz2 := heap_setCell_same _ _ 0 _ _ x h.z
  refine ⟨Kd.R_mono (Kd.R_set (Kd.R_set h.r0 h.z (by decide) 0 x) hz2 (by decide) 1 y) (fun _ _ => trivial), Kd.S_mono (Kd.S_set (Kd.S_set h.r1 h.z (by decide) 0 x) hz2 (by decide) 1 y) (fun k hk e => ?_), (h.lo.setCell (by simp) _).setCell (by simp) _⟩
  have := h.r0.1 k e.symm
  have hk' : T < k := hk
  have h2 : k < T := this
  omega
theorem take_row {rows : List (List ByteArray)} {i : Nat} (h : i < rows.length) : rows.take (i + 1) = rows.take i ++ [rows.getD i []] := by
  rw [List.take_succ_eq_append_getElem h, List.getD_eq_getElem?_getD, List.getElem?_eq_getElem h]; rfl

def okOf : List (List ByteArray) → Bool
  | [] => true
  | hd :: rows => okT hd rows && decide (hd.length ≤ 1000000) && rows.all fun r => decide (r.length ≤ 1000000)
def ofR : List (List ByteArray) → List ByteArray × List (List ByteArray) × Int
  | [] => ([], [], 8)
  | hd :: rows => if checkT hd rows = 0 then (hd, rows, 0) else ([], [], checkT hd rows)
def table_Of.f (l0 : List (List ByteArray)) : Option (List ByteArray × List (List ByteArray) × Int) := if okOf l0 = true then some (ofR l0) else none
theorem zeros25 (w : World) : (w.alloc (.cells #[.slice none 0 0, .slice none 0 0] 25 (0, 0))).heap[w.heap.size]? = some (.cells #[.slice none 0 0, .slice none 0 0] 25 (0, 0)) := blk_new w _

set_option maxRecDepth 100000 in
set_option maxHeartbeats 8000000 in
theorem of_calls (A0 : Option Addr) (c0 : Nat) (l0 : List (List ByteArray)) (w : World) (hr0 : Kd.C (Kd.slice 9 Kd.string) w A0 l0.length l0) (hc0 : l0.length ≤ c0) (hok : okOf l0 = true) :
    Calls Try.prog 45 #[.slice A0 l0.length c0] w fun e w' => ∃ v0_ v1_, e = .returned (.tuple #[.agg #[v0_, v1_], .int .i64 (ofR l0).2.2]) ∧ Kd.R Kd.string 9 w' w.heap.size (fun _ => True) v0_ (ofR l0).1 ∧ Kd.S (Kd.slice 9 Kd.string) 22 w' w.heap.size (fun k_ => some k_ ≠ v0_.ownBlock) v1_ (ofR l0).2.1 ∧ Below w.heap.size w w' := by
  rcases l0 with _ | ⟨hd, rows⟩
  · clear hr0
    have hz0 : (w.alloc (.cells #[.slice none 0 0, .slice none 0 0] 25)).cell? ⟨w.heap.size, 0, none⟩ = some (.slice none 0 0) := blk_cell (zeros25 w) 0
    have hz1 : (w.alloc (.cells #[.slice none 0 0, .slice none 0 0] 25)).cell? ⟨w.heap.size, 1, none⟩ = some (.slice none 0 0) := blk_cell (zeros25 w) 1
    go_enter Try.func45, Try.ntmps45
    go_wp2
    refine bodyPost_ret (v := .tuple #[.agg #[.slice none 0 0, .slice none 0 0], .int .i64 8]) (by simp [results, Try.results45, go_sem, hz0, hz1]) rfl ?_
    exact ⟨_, _, rfl, Kd.R_nil _ _ _ _ _, Kd.S_nil _ _ _ _ _, below_alloc (Below.refl _ _) _⟩
  have hok2 := hok
  simp only [okOf, Bool.and_eq_true, decide_eq_true_eq, List.all_eq_true] at hok2
  obtain ⟨⟨hT_, hh⟩, hrw⟩ := hok2
  have HT := Aside0.mk hT_
  have HRW := Aside0.mk hrw
  have HR := Aside0.mk hr0
  obtain ⟨ad, A1, c1, eA, hx0, hcx, hC1⟩ := rowAt hr0 (show 0 < (hd :: rows).length by simp)
  cases eA
  have hx : w.cell? ad = some (.slice A1 hd.length c1) := hx0
  have hcx' : hd.length ≤ c1 := hcx
  have HC1 : Aside0 (Kd.C Kd.string w A1 hd.length hd) := ⟨hC1⟩
  obtain ⟨n, hn⟩ : ∃ n, n = rows.length := ⟨_, rfl⟩
  have hrn : rows.length ≤ 100000 := by simp only [okT, Bool.and_eq_true, decide_eq_true_eq] at hT_; exact hT_.1.2
  have hlen : (hd :: rows).length = n + 1 := by rw [hn]; rfl
  have HN := Aside0.mk hn
  have hn1 : n ≤ 100000 := by omega
  have hc0' : n + 1 ≤ c0 := by omega
  rw [hlen]
  obtain ⟨R, hR⟩ : ∃ R, Aside0 (ofR (hd :: rows) = R) := ⟨_, ⟨rfl⟩⟩
  rw [hR.out]
  have hb0 : Below w.heap.size w (w.alloc (.cells #[.slice none 0 0, .slice none 0 0] 25)) := below_alloc (Below.refl _ _) _
  have hx1 : (w.alloc (.cells #[.slice none 0 0, .slice none 0 0] 25)).cell? ad = some (.slice A1 hd.length c1) := pw_cell_below hb0 hx
  have HB0 := Aside0.mk hb0
  clear hok hT_ hrw hr0 hx0 hx hcx hC1 hn hrn hlen hc0 hb0
  go_enter Try.func45, Try.ntmps45
  go_wp2_with (first
    | (go_at_call 56; refine (clone_calls A1 c1 hd _ (Kd.C_below HC1.out HB0.out) hcx' hh).mono ?_; rintro e w1 ⟨v0, rfl, hv0, hb1⟩; obtain ⟨Av, cv, rfl, hcv, hCv⟩ := Kd.R_reads hv0))
  all_goals (
    have HA := Aside0.mk (OfAt.start hb1 hv0)
    rw [show ([] : List (List ByteArray)) = rows.take 0 from rfl] at HA
    clear hv0 hb1 hCv
    go_loopw [20] (fun vi wr => ∃ (i : Nat) (v1 : Value), vi = .int .i64 i ∧ i ≤ n ∧ Aside0 (OfAt w w1.heap.size hd (rows.take i) (.slice Av hd.length cv) v1 wr))
      (fun vi _ => n - (intOf vi).toNat)
    case atStart => exact ⟨0, _, rfl, Nat.zero_le _, HA⟩
    case round =>
      clear HA hx1
      obtain ⟨i, v1, rfl, hi, HA⟩ := hrel
      by_cases hlt : i < n
      · (first | (exfalso; omega) | skip)
        all_goals (
          obtain ⟨ad', Ax, cx, eA, hx, hcx, hCx⟩ := rowAt (Kd.C_below HR.out HA.out.lo) (show i + 1 < (hd :: rows).length by rw [List.length_cons, ← HN.out]; omega)
          cases eA
          have eX : (hd :: rows).getD (i + 1) [] = rows.getD i [] := by simp
          rw [eX] at hx hcx hCx
          clear eX
          obtain ⟨x, hxd⟩ : ∃ x, x = rows.getD i [] := ⟨_, rfl⟩
          rw [← hxd] at hx hcx hCx
          have HTK := Aside0.mk (take_row (rows := rows) (i := i) (by rw [← HN.out]; exact hlt))
          rw [← hxd] at HTK
          have hxl : x.length ≤ 1000000 := HRW.out x (by
            rw [hxd, List.getD_eq_getElem?_getD, List.getElem?_eq_getElem (by rw [← HN.out]; exact hlt)]
            exact List.getElem_mem _)
          have HCx := Aside0.mk hCx
          have HXD := Aside0.mk hxd
          clear hCx hxd
          obtain ⟨Y, hY⟩ : ∃ Y, Y = rows.take i := ⟨_, rfl⟩
          have hYl : Y.length ≤ n := by rw [hY, List.length_take]; omega
          rw [← hY] at HA HTK
          clear hY
          obtain ⟨Ar, cr, rfl, hcr, hCr⟩ := Kd.R_reads (Kd.S_R HA.out.r1)
          clear hCr
          have hx2 : wr.cell? { block := ad.block, off := ad.off + 1 + i } = some (.slice Ax x.length cx) := by
            have h := hx
            unfold Addr.add at h
            rw [show ad.off + (i + 1) = ad.off + 1 + i by omega] at h
            exact h
          clear hx
          have hh0 := HA.out.held
          go_wp2
          refine start_ (n := 8) (S := fun w' => w'.cell? ⟨w1.heap.size, 1, none⟩ = some (.slice Ar Y.length cr) ∧ w'.cell? ⟨w1.heap.size, 0, none⟩ = some (.slice Av hd.length cv)) (ds := [7]) #[false, false, false, false, false, false, false, false] (by kernel_rfl) rfl rfl hh0 (fun hHeld => ?_)
          have HA3 := Aside0.mk (HA.out.below (below_drew (Below.refl _ _)))
          have HCx3 := Aside0.mk (Kd.C_below HCx.out (below_drew (Below.refl _ _)))
          clear HA hh0 hx2 HCx
          generalize wr.drew = W3 at hHeld HA3 HCx3 ⊢
          refine pure_ (i := 0) (N := some 24) (v := ?_) (a' := ?_) #[true, false, false, false, false, false, false, false] rfl rfl (by kernel_rfl) (fun _ _ _ h => h) (Or.inl ⟨by rfl, ?_⟩) ?_ ?_
          rotate_left
          · intro w'
            go_simp
            with_reducible rfl
          rotate_left
          · simp only [Act.put, List.setIfInBounds_toArray, List.set_cons_zero, List.set_cons_succ]
            rfl
          refine take_ (i := 1) (N := some 25) (v := ?_) (a' := ?_) #[true, true, false, false, false, false, false, false] rfl rfl (by kernel_rfl) (fun _ _ _ h => h) (Or.inl ⟨by rfl, ?_⟩) hHeld ?_ ?_
          rotate_left
          · rintro w' ⟨s0, s1⟩
            go_simp
            with_reducible rfl
          rotate_left
          · simp only [Act.put, List.setIfInBounds_toArray, List.set_cons_zero, List.set_cons_succ]
            rfl
          refine pure_ (i := 2) (N := some 26) (v := ?_) (a' := ?_) #[true, true, true, false, false, false, false, false] rfl rfl (by kernel_rfl) (fun _ _ _ h => h) (Or.inl ⟨by rfl, ?_⟩) ?_ ?_
          rotate_left
          · intro w'
            go_simp
            with_reducible rfl
          rotate_left
          · simp only [Act.put, List.setIfInBounds_toArray, List.set_cons_zero, List.set_cons_succ]
            rfl
          refine one_ (i := 3) (N := some 27) #[true, true, true, true, false, false, false, false] rfl rfl (by kernel_rfl) (by decide) (fun K hK => ?_)
          refine goes_ Try.func56 (by kernel_rfl) rfl #[.slice Ax x.length cx] (by rfl) rfl rfl (by (try simp only [List.map_toArray, List.map_cons, List.map_nil]); first | done | rfl) ?_
          refine (clone_calls Ax cx x _ HCx3.out hcx hxl).mono ?_
          rintro e w4 ⟨u, rfl, hu, hb⟩
          obtain ⟨Au, cu, rfl, hcu, hCu⟩ := Kd.R_reads hu
          clear hCu
          refine ⟨_, rfl, ?_⟩
          have HC4 := Aside0.mk (HA3.out.clone hb hu)
          have HA4 := Aside0.mk (HA3.out.below hb)
          clear hu hb HA3
          refine hK.out _ _ HA4.out.held (fun hHeld => ?_)
          clear hK K
          refine norm_ (a' := ?_) ?_ ?_
          rotate_left
          · show Act.put _ (some 27) _ = _
            simp only [Act.put, List.setIfInBounds_toArray, List.set_cons_zero, List.set_cons_succ]
            rfl
          refine one_ (i := 4) (N := some 28) #[true, true, true, true, true, false, false, false] rfl rfl (by kernel_rfl) (by decide) (fun K hK => ?_)
          refine lay_stepO (n := 1) (cs := [Value.slice Au x.length cu].toArray) (e := 22) rfl rfl ?hr ?_
          case hr => first | (go_simp; done) | (go_simp; rfl)
          refine hK.out _ _ ⟨pw_cell_below (below_alloc (Below.refl _ _) _) hHeld.1, pw_cell_below (below_alloc (Below.refl _ _) _) hHeld.2⟩ (fun hHeld => ?_)
          clear hK K
          refine norm_ (a' := ?_) ?_ ?_
          rotate_left
          · show Act.put _ (some 28) _ = _
            simp only [Act.put, List.setIfInBounds_toArray, List.set_cons_zero, List.set_cons_succ]
            rfl
          refine one_ (i := 5) (N := some 29) #[true, true, true, true, true, true, false, false] rfl rfl (by kernel_rfl) (by decide) (fun K hK => ?_)
          refine Kd.S_append_step (Kd.slice 9 Kd.string) (w0 := w) w.heap.size rfl (.tmp 25) (.tmp 28) 23 22 (.slice none 0 0) 24 rfl Try.underlying23 infoSS rfl (by decide) (by decide) (.slice Ar Y.length cr) Y x [.slice Au x.length cu] (fun k => w1.heap.size < k) _ rfl rfl HC4.out.1 HC4.out.2.1 HC4.out.2.2.1 HC4.out.2.2.2 HA4.out.lo HA4.out.lo.size (by omega) ?_
          intro v' w5 hS hb5 hg5 hat
          clear hat
          obtain ⟨Aw, cw, rfl, hcw, hCw⟩ := Kd.R_reads (Kd.S_R hS)
          clear hCw
          have HA5 := Aside0.mk (HA4.out.step hS hb5 hg5)
          have hT5 := HA4.out.kept hg5
          have hc5 := blk_cell hT5 1
          have hf5 := blk_frozen hT5 1
          refine hK.out _ _ ⟨blk_cell hT5 1, blk_cell hT5 0⟩ (fun hHeld => ?_)
          clear hK K hS hb5 hg5 HC4 hT5
          refine norm_ (a' := ?_) ?_ ?_
          rotate_left
          · show Act.put _ (some 29) _ = _
            simp only [Act.put, List.setIfInBounds_toArray, List.set_cons_zero, List.set_cons_succ]
            rfl
          refine pure_ (i := 6) (N := some 30) (v := ?_) (a' := ?_) #[true, true, true, true, true, true, true, false] rfl rfl (by kernel_rfl) (fun _ _ _ h => h) (Or.inl ⟨by rfl, ?_⟩) ?_ ?_
          rotate_left
          · intro w'
            go_simp
            with_reducible rfl
          rotate_left
          · simp only [Act.put, List.setIfInBounds_toArray, List.set_cons_zero, List.set_cons_succ]
            rfl
          refine last_ (i := 7) (N := none) #[true, true, true, true, true, true, true, true] rfl rfl (by kernel_rfl) (by decide) (fun K hK => ?_)
          refine skip_ (w1 := w5.setCell ⟨w1.heap.size, 1, none⟩ (.slice Aw (Y ++ [x]).length cw)) rfl rfl ?hr2 ?_
          case hr2 => first | (go_simp; done) | (go_simp; rfl)
          refine hK.out _ _ ?_
          clear hK K
          refine done_ (by kernel_rfl) ?_
          clear hHeld hc5 hf5
          have HA7 : Aside0 (OfAt w w1.heap.size hd (rows.take (i + 1)) (.slice Av hd.length cv) (.slice Aw (Y.length + 1) cw) (w5.setCell ⟨w1.heap.size, 1, none⟩ (.slice Aw (Y.length + 1) cw))) := ⟨by have h := HA5.out; rw [show (Y ++ [x]).length = Y.length + 1 by simp] at h; rw [← HTK.out] at h; exact h⟩
          clear HA5
          clear HA4
          go_wp2
          go_roundw
          case rel => exact ⟨i + 1, _, by go_num, by omega, HA7⟩
          case measure => simp [intOf]; omega)
      · obtain rfl : i = n := by omega
        have HA2 : Aside0 (OfAt w w1.heap.size hd rows (.slice Av hd.length cv) v1 wr) := ⟨by have := HA.out; rw [HN.out, List.take_length] at this; exact this⟩
        clear HA
        obtain ⟨Ar, cr, rfl, hcr, hCr⟩ := Kd.R_reads (Kd.S_R HA2.out.r1)
        obtain ⟨_, _, hCh⟩ := Kd.R_reads' HA2.out.r0
        have HCK := Aside0.mk (check_calls Av cv hd Ar cr rows wr hCh hcv hCr HT.out)
        have ht0 := blk_cell HA2.out.t 0
        have ht1 := blk_cell HA2.out.t 1
        have hg0 := blk_frozen HA2.out.t 0
        have hg1 := blk_frozen HA2.out.t 1
        obtain ⟨q, hq⟩ : ∃ q, Aside0 (checkT hd rows = q) := ⟨_, ⟨rfl⟩⟩
        have hgt := HA2.out.gt
        clear hCr hCh
        by_cases hz : q = 0
        · subst hz
          have HE : Aside0 (ofR (hd :: rows) = (hd, rows, 0)) := ⟨by rw [ofR, if_pos hq.out]⟩
          go_wp2_with (go_at_call 30; refine HCK.out.mono ?_; rintro e w6 ⟨rfl, hb⟩; rw [hq.out]; have HA6 := Aside0.mk (HA2.out.below hb); have hx0 := blk_cell HA6.out.t 0; have hx1 := blk_cell HA6.out.t 1; have hy0 := blk_cell HA6.out.z 0; have hy1 := blk_cell HA6.out.z 1; have hu0 := blk_frozen HA6.out.z 0; have hu1 := blk_frozen HA6.out.z 1; clear hb)
          have HF := Aside0.mk (HA6.out.end_ (.slice Av hd.length cv) (.slice Ar rows.length cr))
          have hf0 : ((w6.setCell ⟨w.heap.size, 0, none⟩ (.slice Av hd.length cv)).setCell ⟨w.heap.size, 1, none⟩ (.slice Ar rows.length cr)).heap[w.heap.size]? = some (.cells #[.slice Av hd.length cv, .slice Ar rows.length cr] 25 (0, 0)) := heap_setCell_same _ _ 1 _ _ _ (heap_setCell_same _ _ 0 _ _ _ HA6.out.z)
          have hc0 := blk_cell hf0 0
          have hc1 := blk_cell hf0 1
          refine bodyPost_ret (v := .tuple #[.agg #[.slice Av hd.length cv, .slice Ar rows.length cr], .int .i64 0]) (by simp [results, Try.results45, go_sem, hc0, hc1]) rfl ?_
          rw [show R = (hd, rows, 0) from hR.out.symm.trans HE.out]
          exact ⟨_, _, rfl, HF.out.1, HF.out.2.1, HF.out.2.2⟩
        · have HE : Aside0 (ofR (hd :: rows) = ([], [], q)) := ⟨by rw [ofR, if_neg (by rw [hq.out]; exact hz), hq.out]⟩
          go_wp2_with (go_at_call 30; refine HCK.out.mono ?_; rintro e w6 ⟨rfl, hb⟩; rw [hq.out]; have HA6 := Aside0.mk (HA2.out.below hb); have hy0 := blk_cell HA6.out.z 0; have hy1 := blk_cell HA6.out.z 1; have hu0 := blk_frozen HA6.out.z 0; have hu1 := blk_frozen HA6.out.z 1; clear hb)
          have HF := Aside0.mk (HA6.out.end_ (.slice none 0 0) (.slice none 0 0))
          have hf0 : ((w6.setCell ⟨w.heap.size, 0, none⟩ (.slice none 0 0)).setCell ⟨w.heap.size, 1, none⟩ (.slice none 0 0)).heap[w.heap.size]? = some (.cells #[.slice none 0 0, .slice none 0 0] 25 (0, 0)) := heap_setCell_same _ _ 1 _ _ _ (heap_setCell_same _ _ 0 _ _ _ HA6.out.z)
          have hc0 := blk_cell hf0 0
          have hc1 := blk_cell hf0 1
          refine bodyPost_ret (v := .tuple #[.agg #[.slice none 0 0, .slice none 0 0], .int .i64 q]) (by simp [results, Try.results45, go_sem, hc0, hc1]) rfl ?_
          rw [show R = ([], [], q) from hR.out.symm.trans HE.out]
          exact ⟨_, _, rfl, Kd.R_nil _ _ _ _ _, Kd.S_nil _ _ _ _ _, HF.out.2.2⟩)
theorem table_Of.calls (A0 : Option Addr) (c0 : Nat) (l0 : List (List ByteArray)) (r1 : List ByteArray) (r2 : List (List ByteArray)) (r3 : Int) (w : World) (hr0 : Kd.C (Kd.slice 9 Kd.string) w A0 l0.length l0) (hc0 : l0.length ≤ c0) (h : table_Of.f l0 = some (r1, r2, r3)) :
    Calls Try.prog 45 #[.slice A0 l0.length c0] w fun e w' => ∃ v0_ v1_, e = .returned (.tuple #[.agg #[v0_, v1_], .int .i64 r3]) ∧ Kd.R Kd.string 9 w' w.heap.size (fun _ => True) v0_ r1 ∧ Kd.S (Kd.slice 9 Kd.string) 22 w' w.heap.size (fun k_ => some k_ ≠ v0_.ownBlock) v1_ r2 ∧ Below w.heap.size w w' := by
  unfold table_Of.f at h
  split at h
  · rename_i hl
    have h1 := Option.some.inj h
    have h2 := of_calls A0 c0 l0 w hr0 hc0 hl
    rw [h1] at h2
    exact h2
  · exact nomatch h
end Go.Proofs.Ytbcpaojciephmaa.X
