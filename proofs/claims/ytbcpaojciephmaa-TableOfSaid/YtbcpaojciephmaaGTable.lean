/- table.Total. -/
import Derived.Test.YtbcpaojciephmaaGAll
namespace Go.Proofs.Ytbcpaojciephmaa.X
open Go.RowKit Go.Maps Go.Shelf Go.Proofs.YtbcpaojciephmaaW.PrintWords Go.Proofs.YtbcpaojciephmaaW.PrintLast
set_option linter.unusedVariables false

theorem grown_belowT {W W' : World} (hb : Below W.heap.size W W') : W.grownBy W' none := ⟨hb.os, hb.tape, hb.output, hb.size, fun k hk _ => hb.block k hk⟩
set_option maxRecDepth 100000 in
theorem all_calls (T0 T1 : Value) (w : World) :
    Calls Try.prog 66 #[.agg #[T0, T1]] w fun e w' => ∃ Bt, e = .returned (.func (.func 75) #[] #[.pointer (some ⟨Bt, 0, none⟩)]) ∧ w'.heap[Bt]? = some (.cells #[T0, T1] 25 (0, 0)) ∧ w.heap.size ≤ Bt ∧ Below w.heap.size w w' := by
  go_enter Try.func66, Try.ntmps66
  go_wp2
  go_ret
  exact ⟨_, rfl, blk_new w _, Nat.le_refl _, below_alloc (Below.refl _ _) _⟩
theorem all_stops (w : World) (Bn : Nat) (A0 : Option Addr) (c0 : Nat) (hd : List ByteArray) (A1 : Option Addr) (c1 : Nat) (rows : List (List ByteArray)) (Bt n : Nat) (hr0 : Kd.C Kd.string w A0 hd.length hd) (hc0 : hd.length ≤ c0) (hr1 : Kd.C (Kd.slice 9 Kd.string) w A1 rows.length rows) (hl : rows.length ≤ 100000)
    (hn : 1 ≤ n) (w1 : World) (hS : AllS w A0 c0 hd A1 c1 rows Bt w1) (hBt : Bt ≠ Bn) (hBn : Bn < w1.heap.size) :
    SeqStopsK Fence.wide n Try.prog 75 #[.pointer (some ⟨Bt, 0, none⟩)] (fun x : ByteArray => #[.string x]) (KpC w.heap.size Bn) (fun ys => ys = seqR hd rows) (fun pre => pre <+: seqR hd rows) (seqR hd rows).length w1 := fun l J Jx W hW hJ _ hY h0 =>
  callsIn_wide.2 (all1_calls w Bn A0 c0 hd A1 c1 rows Bt n l hr0 hc0 hr1 hl hn J Jx W (fun s A B h hb => hJ s A B none h (grown_belowT hb) (by simp)) hY (hS.below hW) hBt (Nat.lt_of_lt_of_le hBn hW.size) (Nat.le_trans hS.lo.size hW.size) h0)

attribute [local go_sem] Oper.semAt_some
def sumR (l : List ByteArray) : Int := l.foldl (fun n c => wrap64 (n + c.size)) 0
theorem sumR_snoc (l : List ByteArray) (x : ByteArray) : sumR (l ++ [x]) = wrap64 (sumR l + x.size) := by unfold sumR; rw [List.foldl_append]; rfl
def totalR (hd : List ByteArray) (rows : List (List ByteArray)) : Int := sumR (seqR hd rows)

set_option maxRecDepth 100000 in
set_option maxHeartbeats 2000000 in
theorem total_calls (A0 : Option Addr) (c0 : Nat) (hd : List ByteArray) (A1 : Option Addr) (c1 : Nat) (rows : List (List ByteArray)) (w : World) (hr0 : Kd.C Kd.string w A0 hd.length hd) (hc0 : hd.length ≤ c0) (hr1 : Kd.C (Kd.slice 9 Kd.string) w A1 rows.length rows) (hl : rows.length ≤ 100000) :
    Calls Try.prog 32 #[.agg #[.slice A0 hd.length c0, .slice A1 rows.length c1]] w fun e w' => e = .returned (.int .i64 (totalR hd rows)) ∧ Below w.heap.size w w' := by
  refine (callsIn_wide (n := 4)).1 ?_
  have HR := Aside0.mk (And.intro hr0 hr1)
  clear hr0 hr1
  refine callsIn_of_wp_marks Try.func32 rfl trivial ?_ rfl
  simp only [Try.ntmps32, List.size_toArray, List.length_cons, List.length_nil, Nat.reduceAdd, Nat.reduceSub, Array.replicate_succ, Array.replicate_zero, List.push_toArray, List.append_toArray, List.nil_append, List.cons_append]
  gi_wp2_with (refine ⟨trivial, ?_⟩; gi_at_call 66; refine (callsIn_wide.2 (all_calls _ _ _)).mono ?_; rintro e w1 ⟨Bt, rfl, hT, hge, hb⟩)
  rw [World.size_alloc, World.size_alloc] at hge
  have hb0 := below_alloc (below_alloc (Below.refl w.heap.size w) (.cells #[.slice A0 hd.length c0, .slice A1 rows.length c1] 25)) (.cells #[.int .i64 0] 3)
  have hbw : Below w.heap.size w w1 := hb0.trans (hb.mono (by simp; omega))
  have bO : Boxed w1 (w.heap.size + 1) 3 (.int .i64 0) := (hb.block _ (by simp)).trans (by
    have h := blk_new (w.alloc (.cells #[.slice A0 hd.length c0, .slice A1 rows.length c1] 25)) (.cells #[.int .i64 0] 3)
    rw [World.size_alloc] at h
    exact h)
  have lB := bO.lt
  have hS : AllS w A0 c0 hd A1 c1 rows Bt w1 := ⟨hT, hbw⟩
  refine wpIn_rangeFunc_ownG rfl (by omega) (gf := 75) (lb := #[.pointer (some ⟨Bt, 0, none⟩)]) rfl trivial (enters_of Try.func75 (by kernel_rfl) rfl)
    (all_stops w (w.heap.size + 1) A0 c0 hd A1 c1 rows Bt 3 HR.out.1 hc0 HR.out.2 hl (by omega) w1 hS (by omega) lB)
    (fun {A B C} h k => h.trans k)
    (fun W l o o' hl h1 h2 h3 => KpC.put (w := w1) hbw.size W l o o' hl h1 h2 h3)
    (Below.refl _ _) (fun _ => rfl)
    (fun pre W => Boxed W (w.heap.size + 1) 3 (.int .i64 (sumR pre)) ∧ Below w.heap.size w W)
    (fun _ _ _ => False)
    (OwnFrom.and (Own.from (boxed_own (w.heap.size + 1) 3 (fun pre => .int .i64 (sumR pre))) _) (ownFrom_below (Nat.le_refl _) (by omega)))
    (fun _ _ _ _ _ hs _ _ => hs)
    ⟨bO, hbw⟩
    (fun x => { tmps := #[.agg #[.slice A0 hd.length c0, .slice A1 rows.length c1], .pointer (some ⟨w.heap.size, 0, none⟩), .int .i64 0, .pointer (some ⟨w.heap.size + 1, 0, none⟩), .string x, .agg #[.slice A0 hd.length c0, .slice A1 rows.length c1],
      .func (.func 75) #[] #[.pointer (some ⟨Bt, 0, none⟩)], .string x, undef, undef, undef, undef, undef], defers := [] }) ?assign ?body ?done ?stop
  case assign =>
    intro l x W K hK
    gi_wp2
    exact hK
  case body =>
    rintro l pre x W ⟨hv, hB⟩ hlt
    have hc := hv.cell
    have hf := hv.frozen
    gi_wp2
    have hv2 : Boxed (W.setCell ⟨w.heap.size + 1, 0, none⟩ (.int .i64 (sumR (pre ++ [x])))) (w.heap.size + 1) 3 (.int .i64 (sumR (pre ++ [x]))) := hv.set _
    refine ⟨(KeepsOthers.setCell _ _ _).from _, ⟨?_, fun k cs t fr hk hc2 => ?_⟩, ?_, ?_⟩
    · exact (Below.refl _ _).setCell (by simp) _
    · rw [Below.heap_setCell _ _ _ _ (by show k ≠ w.heap.size + 1; exact hk)]; exact hc2
    · rw [sumR_snoc] at hv2 ⊢; exact hv2
    · exact hB.setCell (by simp) _
  case done =>
    rintro D ys W hD rfl ⟨hv, hB⟩ hK
    have hc := hv.cell
    gi_wp2
    refine ⟨by simp, .inl ⟨_, _, rfl, run_takeDeferred hK, ?_⟩⟩
    refine ⟨_, results_tmp rfl _ _ _, rfl, hB.trans (belowK_b (w := w) (Nat.le_refl _) W D _ _ (by omega) hK rfl rfl)⟩
  case stop =>
    rintro D c pre W _ _ h _
    exact h.elim
def table_Total.f (l0_0 : List ByteArray) (l0_1 : List (List ByteArray)) : Option Int := if l0_1.length ≤ 100000 then some (totalR l0_0 l0_1) else none
theorem table_Total.calls (A0_0 : Option Addr) (c0_0 : Nat) (l0_0 : List ByteArray) (A0_1 : Option Addr) (c0_1 : Nat) (l0_1 : List (List ByteArray)) (r : Int) (w : World) (hr0_0 : Kd.C Kd.string w A0_0 l0_0.length l0_0) (hc0_0 : l0_0.length ≤ c0_0) (hr0_1 : Kd.C (Kd.slice 9 Kd.string) w A0_1 l0_1.length l0_1) (hc0_1 : l0_1.length ≤ c0_1) (h : table_Total.f l0_0 l0_1 = some r) :
    Calls Try.prog 32 #[.agg #[.slice A0_0 l0_0.length c0_0, .slice A0_1 l0_1.length c0_1]] w fun e w' => e = .returned (.int .i64 r) ∧ Below w.heap.size w w' := by
  unfold table_Total.f at h
  split at h
  · rename_i hl
    have h1 := Option.some.inj h
    subst h1
    exact total_calls A0_0 c0_0 l0_0 A0_1 c0_1 l0_1 w hr0_0 hc0_0 hr0_1 hl
  · exact nomatch h
end Go.Proofs.Ytbcpaojciephmaa.X
