/- table.Check's fourth closure: no name or cell too long. -/
import Derived.Test.YtbcpaojciephmaaGTwice
namespace Go.Proofs.Ytbcpaojciephmaa.X
open Go.RowKit Go.Maps Go.Shelf Go.Proofs.YtbcpaojciephmaaW.PrintWords Go.Proofs.YtbcpaojciephmaaW.PrintLast
set_option linter.unusedVariables false
attribute [local go_sem] Oper.semAt_some

theorem results_box {fn : Func} {p B : Nat} {t : TypeId} {i : Int} {P : Program} (h : fn.results = #[.cell p t]) (ht : ∀ w, (isAgg t).run P w = .ok false w) (tmps : Array Value) (w : World) (hp : tmps.getD p undef = .pointer (some ⟨B, 0, none⟩)) (hB : Boxed w B t (.int .i64 i)) :
    (results fn tmps).run P w = .ok (.int .i64 i) w := by
  have hc := hB.cell
  have hp' : tmps[p]?.getD undef = .pointer (some ⟨B, 0, none⟩) := by simpa using hp
  simp [results, h, hp', asAddr, loadVar, ht, go_sem, hc]

def largeR (hd : List ByteArray) (rows : List (List ByteArray)) : Int := if 40 < hd.length ∨ 400 < rows.length then 7 else if (seqR hd rows).any (fun c => decide (1000 < c.size)) = true then 7 else if totalR hd rows ≤ 40000 then 0 else 7

theorem fin4 (W : World) (D : Nat) (v : Int) (X : World) (a : Act) (hD : W.heap.size < D) (hK3 : X.heap[D]? = some (.deferred (some []))) (hv3 : Boxed X W.heap.size 42 (.int .i64 v)) (hB3 : Below W.heap.size W X) (r : Int)
    (ha : a.defers = [{ target := .collected D, args := #[] }]) (ht : a.tmps.getD 1 undef = .pointer (some ⟨W.heap.size, 0, none⟩)) (hvr : v = r) :
    bodyPostM Fence.wide 4 Try.prog Try.f65 (fun e w' => e = Ending.returned (Value.int IntKind.i64 r) ∧ Below W.heap.size W w') Exit.ret a X := by
  subst hvr
  obtain ⟨tmps, ds⟩ := a
  simp only at ha ht
  subst ha
  refine ⟨by simp, .inl ⟨_, _, rfl, run_takeDeferred hK3, ?_⟩⟩
  refine ⟨_, results_box (B := W.heap.size) (i := v) rfl (fun _ => by kernel_rfl) _ _ ht (hv3.kept (grownBy_putObj' _ D _) (fun e => by cases e; omega)), rfl, hB3.trans (belowK_b (w := W) (Nat.le_refl _) _ D _ _ (by omega) hK3 rfl rfl)⟩

section
variable (w0 : World) (A0 : Option Addr) (c0 : Nat) (hd : List ByteArray) (A1 : Option Addr) (c1 : Nat) (rows : List (List ByteArray)) (tb : Nat) (W : World)
set_option maxRecDepth 100000 in
set_option maxHeartbeats 2000000 in
theorem check4_calls (h : TAt w0 A0 c0 hd A1 c1 rows tb W) (hl : rows.length ≤ 100000) (hh : hd.length ≤ 100000) :
    Calls Try.prog 65 #[.pointer (some ⟨tb, 0, none⟩)] W fun e w' => e = .returned (.int .i64 (largeR hd rows)) ∧ Below W.heap.size W w' := by
  obtain ⟨r, hr⟩ : ∃ r : Int, Aside0 (largeR hd rows = r) := ⟨_, ⟨rfl⟩⟩
  rw [hr.out]
  have hA : TAt w0 A0 c0 hd A1 c1 rows tb (W.alloc (.cells #[.int .i64 0] 42)) := h.below (below_alloc (Below.refl _ _) _)
  have ha0 := blk_cell hA.t 0
  have ha1 := blk_cell hA.t 1
  have hf0 := blk_frozen hA.t 0
  have hf1 := blk_frozen hA.t 1
  have bO : Boxed (W.alloc (.cells #[.int .i64 0] 42)) W.heap.size 42 (.int .i64 0) := blk_new W _
  have H := Aside0.mk h
  have HA := Aside0.mk hA
  have HO := Aside0.mk bO
  clear h hA bO
  by_cases h40 : 40 < hd.length
  · have h40I : (40 : Int) < (hd.length : Int) := by omega
    go_enter Try.func65, Try.ntmps65
    go_wp2
    refine bodyPost_ret (results_box (B := W.heap.size) (i := 7) rfl (fun _ => by kernel_rfl) _ _ rfl (blk_new W _)) rfl ⟨?_, ?_⟩
    · rw [← hr.out, largeR, if_pos (.inl h40)]
    · exact below_alloc (Below.refl _ _) _
  have h40I : ¬ (40 : Int) < (hd.length : Int) := by omega
  by_cases h400 : 400 < rows.length
  · have h400I : (400 : Int) < (rows.length : Int) := by omega
    go_enter Try.func65, Try.ntmps65
    go_wp2
    refine bodyPost_ret (results_box (B := W.heap.size) (i := 7) rfl (fun _ => by kernel_rfl) _ _ rfl (blk_new W _)) rfl ⟨?_, ?_⟩
    · rw [← hr.out, largeR, if_pos (.inr h400)]
    · exact below_alloc (Below.refl _ _) _
  have h400I : ¬ (400 : Int) < (rows.length : Int) := by omega
  have HRR := Aside0.mk (show (if (seqR hd rows).any (fun c => decide (1000 < c.size)) = true then 7 else if totalR hd rows ≤ 40000 then 0 else 7) = r by rw [← hr.out, largeR, if_neg (show ¬ (40 < hd.length ∨ 400 < rows.length) by omega)])
  have hr0 : Kd.C Kd.string W A0 hd.length hd := Kd.C_below H.out.r0 H.out.lo
  have hr1 : Kd.C (Kd.slice 9 Kd.string) W A1 rows.length rows := Kd.C_below H.out.r1 H.out.lo
  have hc0 := H.out.c0
  have HR := Aside0.mk (And.intro hr0 hr1)
  clear hr0 hr1 hr
  refine (callsIn_wide (n := 4)).1 ?_
  refine callsIn_of_wp_marks Try.func65 rfl trivial ?_ rfl
  simp only [Try.ntmps65, List.size_toArray, List.length_cons, List.length_nil, Nat.reduceAdd, Nat.reduceSub, Array.replicate_succ, Array.replicate_zero, List.push_toArray, List.append_toArray, List.nil_append, List.cons_append]
  gi_wp2_with (refine ⟨trivial, ?_⟩; gi_at_call 66; refine (callsIn_wide.2 (all_calls _ _ _)).mono ?_; rintro e w1 ⟨Bt, rfl, hT, hge, hb⟩)
  rw [World.size_alloc] at hge
  have hb0 := below_alloc (Below.refl W.heap.size W) (.cells #[.int .i64 0] 42)
  have hbw : Below W.heap.size W w1 := hb0.trans (hb.mono (by simp))
  have bO : Boxed w1 W.heap.size 42 (.int .i64 0) := (hb.block _ (by simp)).trans HO.out
  have lB := bO.lt
  have hS : AllS W A0 c0 hd A1 c1 rows Bt w1 := ⟨hT, hbw⟩
  refine wpIn_rangeFunc_ownG rfl (by omega) (gf := 75) (lb := #[.pointer (some ⟨Bt, 0, none⟩)]) rfl trivial (enters_of Try.func75 (by kernel_rfl) rfl)
    (all_stops W W.heap.size A0 c0 hd A1 c1 rows Bt 3 HR.out.1 hc0 HR.out.2 hl (by omega) w1 hS (by omega) lB)
    (fun {A B C} h k => h.trans k)
    (fun W' l o o' hl h1 h2 h3 => KpC.put (w := w1) hbw.size W' l o o' hl h1 h2 h3)
    (Below.refl _ _) (fun _ => rfl)
    (fun pre W' => Boxed W' W.heap.size 42 (.int .i64 0) ∧ Below W.heap.size W W' ∧ ∀ c ∈ pre, ¬ 1000 < c.size)
    (fun c pre W' => c = Code.ret ∧ Boxed W' W.heap.size 42 (.int .i64 7) ∧ Below W.heap.size W W' ∧ ∃ c ∈ pre, 1000 < c.size)
    (OwnFrom.and (Own.from (boxed_own W.heap.size 42 (fun _ => .int .i64 0)) _) (OwnFrom.and (ownFrom_below (Nat.le_refl _) (by omega)) (fun _ _ _ _ hs _ _ => hs)))
    (fun c => OwnFrom.and (fun _ _ _ _ hs _ _ => hs) (OwnFrom.and (Own.from (boxed_own W.heap.size 42 (fun _ => .int .i64 7)) _) (OwnFrom.and (ownFrom_below (Nat.le_refl _) (by omega)) (fun _ _ _ _ hs _ _ => hs))))
    ⟨bO, hbw, by simp⟩
    (fun x => { tmps := #[.pointer (some ⟨tb, 0, none⟩), .pointer (some ⟨W.heap.size, 0, none⟩), .string x, .pointer (some ⟨tb, 0, none⟩), .slice A0 hd.length c0, .int .i64 hd.length, .bool false, .bool false, .pointer (some ⟨tb, 1, none⟩), .slice A1 rows.length c1, .int .i64 rows.length, .bool false, .bool false, .agg #[.slice A0 hd.length c0, .slice A1 rows.length c1],
      .func (.func 75) #[] #[.pointer (some ⟨Bt, 0, none⟩)], .string x, undef, undef, undef, undef, undef, undef, undef], defers := [] }) ?assign ?body ?done ?stop
  case assign =>
    intro l x W' K hK
    gi_wp2
    exact hK
  case body =>
    rintro l pre x W' ⟨hv, hB, hall⟩ hlt
    have hc := hv.cell
    have hf := hv.frozen
    have HB7 := Aside0.mk (hv.set (.int .i64 7))
    have HALL := Aside0.mk hall
    have HV := Aside0.mk hv
    clear hall ha0 ha1 hf0 hf1 hv hT bO
    by_cases hx : 1000 < x.size
    · have hxI : (1000 : Int) < (x.size : Int) := by omega
      gi_wp2
      refine ⟨(KeepsOthers.setCell _ _ _).from _, rfl, HB7.out, hB.setCell (by simp) _, x, by simp, hx⟩
    · have hxI : ¬ (1000 : Int) < (x.size : Int) := by omega
      gi_wp2
      refine ⟨KeepsFrom.refl _ _, KpC.below (Below.refl _ _) (Nat.le_of_lt (lt_of_block HV.out)) , HV.out, hB, ?_⟩
      intro c hc2
      rcases List.mem_append.1 hc2 with h | h
      · exact Nat.le_of_not_lt (HALL.out c h)
      · rw [List.mem_singleton.1 h]; exact Nat.le_of_not_lt hx
  case done =>
    rintro D ys W' hD rfl ⟨hv, hB, hall⟩ hK
    have hTB := H.out.below hB
    have ht0 := blk_cell hTB.t 0
    have ht1 := blk_cell hTB.t 1
    have hg0 := blk_frozen hTB.t 0
    have hg1 := blk_frozen hTB.t 1
    have hc := hv.cell
    have hf := hv.frozen
    have hTr0 := Kd.C_below H.out.r0 hTB.lo
    have hTr1 := Kd.C_below H.out.r1 hTB.lo
    have HT2 := Aside0.mk (And.intro hTr0 hTr1)
    have hany : (seqR hd rows).any (fun c => decide (1000 < c.size)) = false := by
      rw [List.any_eq_false]; intro c hc3; simpa using hall c hc3
    have HRS := Aside0.mk (show (if totalR hd rows ≤ 40000 then 0 else 7) = r by rw [← HRR.out, hany]; rfl)
    have HV := Aside0.mk hv
    have HK := Aside0.mk hK
    have HBB := Aside0.mk hB
    clear HRR hany hall ha0 ha1 hf0 hf1 hT bO hTB hTr0 hTr1 hK hv hB
    obtain ⟨q, hq⟩ : ∃ q, Aside0 (totalR hd rows = q) := ⟨_, ⟨rfl⟩⟩
    rw [hq.out] at HRS
    by_cases h4 : q ≤ 40000
    all_goals (
      gi_wp2_with (first
        | (refine ⟨trivial, ?_⟩; gi_at_call 32; refine (callsIn_wide.2 (total_calls A0 c0 hd A1 c1 rows _ HT2.out.1 hc0 HT2.out.2 hl)).mono ?_; rintro e w2 ⟨rfl, hb2⟩; rw [hq.out]; have hv2 : Boxed w2 W.heap.size 42 (.int .i64 0) := (hb2.block _ HV.out.lt).trans HV.out; have hc2 := hv2.cell; have hf2 := hv2.frozen; have HV2 := Aside0.mk hv2; clear hv2; have HB2 := Aside0.mk hb2; clear hb2)
        | (refine ⟨trivial, ?_⟩; gi_at_call 60; refine (callsIn_wide.2 (unless_calls _ _ _)).mono ?_; rintro e w3 ⟨rfl, ⟨nd, rfl⟩⟩))
      have hK3 : (w2.drewN nd).heap[D]? = some (.deferred (some [])) := (HB2.out.block _ (lt_of_block HK.out)).trans HK.out
      have hv3 : Boxed (w2.drewN nd) W.heap.size 42 (.int .i64 0) := HV2.out
      have hB3 : Below W.heap.size W (w2.drewN nd) := pw_below_drewN (HBB.out.trans (HB2.out.mono HBB.out.size)) nd
      refine fin4 W D _ _ _ (by omega) ((Below.heap_setCell _ _ _ _ (by show D ≠ W.heap.size; omega)).trans hK3) (hv3.set _) (hB3.setCell (by simp) _) _ rfl (by rfl) ?_
      rw [← HRS.out]
      first | rw [if_pos h4] | rw [if_neg (by omega)])
  case stop =>
    rintro D c pre W' hD hpre ⟨rfl, hv, hB, hex⟩ hK
    have HRS := Aside0.mk (show 7 = r by rw [← HRR.out, if_pos]; rw [List.any_eq_true]; obtain ⟨c, h1, h2⟩ := hex; exact ⟨c, hpre.subset h1, by simpa using h2⟩)
    gi_wp2
    exact fin4 W D 7 _ _ (by omega) hK hv hB _ rfl (by rfl) HRS.out
end
end Go.Proofs.Ytbcpaojciephmaa.X
