/- The texts that the law ColsMoved wants, part 6 of 6: what is kept of them. -/
import Derived.KernelRfl
import Derived.Test.YtoefeboikkhdkaaCColsMoved5
section
namespace Go.Proofs.Ytoefeboikkhdkaa.X
open Go.RowKit Go.Proofs.YtoefeboikkhdkaaW.PrintWords Go.Proofs.YtoefeboikkhdkaaW.PrintLast Go.Proofs.YtoefeboikkhdkaaW.PrintMore
attribute [local go_sem] max2_int min2_int max_two min_two max_three min_three max_four min_four   -- for this text's walks alone
set_option linter.unusedVariables false
set_option linter.unusedSimpArgs false
mutual
def tartanlaw13_ColsMoved.j0 : Nat → Int → Int → Bool → List (S37) → Bool → List ByteArray → List (List ByteArray) → List ByteArray → List (List ByteArray) → Option (Bool)
 | 0, _, _, _, _, _, _, _, _, _ => none
 | k + 1, x1, x2, x9, x13, x50, x407000, x407001, x417000, x417001 => if x50 = true then (some false) else (tartanlaw13_ColsMoved.l0 k x1 x2 x9 x13 0 x407000 x407001 x417000 x417001)
def tartanlaw13_ColsMoved.l0 : Nat → Int → Int → Bool → List (S37) → Int → List ByteArray → List (List ByteArray) → List ByteArray → List (List ByteArray) → Option (Bool)
 | 0, _, _, _, _, _, _, _, _, _ => none
 | k + 1, x1, x2, x9, x13, x15, x407000, x407001, x417000, x417001 => if x15 < (x13.length : Int) then (if 0 ≤ x15 then (if ((rd_T37 x13 x15).f1) = x15 then (if ((rd_T37 x13 x15).f0) < 0 then (some false) else (if ((rd_T37 x13 x15).f0) ≥ (x407000.length : Int) then (some false) else (if 0 ≤ ((rd_T37 x13 x15).f0) then (if ((rd_T37 x13 x15).f0) < (x407000.length : Int) then (if x15 < (x417000.length : Int) then (if (rdOf ByteArray.empty x407000 ((rd_T37 x13 x15).f0)).toList = (rdOf ByteArray.empty x417000 x15).toList then (tartanlaw13_ColsMoved.l0 k x1 x2 x9 x13 (wrap64 (x15 + 1)) x407000 x407001 x417000 x417001) else (some false)) else (none)) else (none)) else (none)))) else (some false)) else (none)) else (if x9 = true then (if 0 ≤ x2 then (if x2 < (x13.length : Int) then (some (((rd_T37 x13 x2).f0) == x1)) else (none)) else (none)) else (some false))
end
def tartanlaw13_ColsMoved.f (k : Nat) (l0_0 : List ByteArray) (l0_1 : List (List ByteArray)) (a1 : Int) (a2 : Int) (a3 : Bool) : Option (Bool) := (tartanlaw13_works.f k).bind fun t407 => (if t407 = true then ((tartanref04_Few.f k l0_0 l0_1).bind fun t408 => (if t408 = true then ((edit_MoveCol.f l0_0 l0_1 a1 a2).bind fun bt409 => (if bt409.2.2 = 0 then ((cols_Align.f l0_0 l0_1 bt409.1 bt409.2.1 a3).bind fun bt417 => (if bt417.2 = 0 then (tartanlaw13_ColsMoved.j0 k a1 a2 t407 bt417.1 ((bt417.1.length : Int) != (l0_0.length : Int)) l0_0 l0_1 bt409.1 bt409.2.1) else (tartanlaw13_ColsMoved.j0 k a1 a2 t407 bt417.1 true l0_0 l0_1 bt409.1 bt409.2.1))) else (some t407))) else (some t407))) else (some false))
set_option maxHeartbeats 8000000 in
set_option maxRecDepth 100000 in
theorem tartanlaw13_ColsMoved.calls (k : Nat) (A0_0 : Option Addr) (c0_0 : Nat) (l0_0 : List ByteArray) (A0_1 : Option Addr) (c0_1 : Nat) (l0_1 : List (List ByteArray)) (a1 : Int) (a2 : Int) (a3 : Bool) (r : Bool) (w : World) (hr0_0 : Kd.C Kd.string w A0_0 l0_0.length l0_0) (hc0_0 : l0_0.length ≤ c0_0) (hr0_1 : Kd.C (Kd.slice 9 Kd.string) w A0_1 l0_1.length l0_1) (hc0_1 : l0_1.length ≤ c0_1) (h : tartanlaw13_ColsMoved.f k l0_0 l0_1 a1 a2 a3 = some r) :
  Calls Try.prog 7 #[.agg #[.slice A0_0 l0_0.length c0_0, .slice A0_1 l0_1.length c0_1], .int .i64 a1, .int .i64 a2, .bool a3] w fun e w' => e = .returned (.bool r) ∧ Below w.heap.size w w' := by
 have hu25 := Try.underlying25
 have HR0_0 := Aside0.mk hr0_0
 have HC0_0 := Aside0.mk hc0_0
 clear hr0_0 hc0_0
 have HR0_1 := Aside0.mk hr0_1
 have HC0_1 := Aside0.mk hc0_1
 clear hr0_1 hc0_1
 have HB := Aside0.mk (Below.refl w.heap.size w)
 have H : ((tartanlaw13_works.f k).bind fun t407 => (if t407 = true then ((tartanref04_Few.f k l0_0 l0_1).bind fun t408 => (if t408 = true then ((edit_MoveCol.f l0_0 l0_1 a1 a2).bind fun bt409 => (if bt409.2.2 = 0 then ((cols_Align.f l0_0 l0_1 bt409.1 bt409.2.1 a3).bind fun bt417 => (if bt417.2 = 0 then (tartanlaw13_ColsMoved.j0 k a1 a2 t407 bt417.1 ((bt417.1.length : Int) != (l0_0.length : Int)) l0_0 l0_1 bt409.1 bt409.2.1) else (tartanlaw13_ColsMoved.j0 k a1 a2 t407 bt417.1 true l0_0 l0_1 bt409.1 bt409.2.1))) else (some t407))) else (some t407))) else (some false))) = some r := h
 clear h
 replace H := Option.bind_eq_some_iff.mp H
 obtain ⟨t407, A50, H⟩ := H
 replace H : (if t407 = true then ((tartanref04_Few.f k l0_0 l0_1).bind fun t408 => (if t408 = true then ((edit_MoveCol.f l0_0 l0_1 a1 a2).bind fun bt409 => (if bt409.2.2 = 0 then ((cols_Align.f l0_0 l0_1 bt409.1 bt409.2.1 a3).bind fun bt417 => (if bt417.2 = 0 then (tartanlaw13_ColsMoved.j0 k a1 a2 t407 bt417.1 ((bt417.1.length : Int) != (l0_0.length : Int)) l0_0 l0_1 bt409.1 bt409.2.1) else (tartanlaw13_ColsMoved.j0 k a1 a2 t407 bt417.1 true l0_0 l0_1 bt409.1 bt409.2.1))) else (some t407))) else (some t407))) else (some false)) = some r := H
 have A5 := Aside0.mk A50
 clear A50
 by_cases c6 : t407 = true
 ·subst c6
  have H1 : ((tartanref04_Few.f k l0_0 l0_1).bind fun t408 => (if t408 = true then ((edit_MoveCol.f l0_0 l0_1 a1 a2).bind fun bt409 => (if bt409.2.2 = 0 then ((cols_Align.f l0_0 l0_1 bt409.1 bt409.2.1 a3).bind fun bt417 => (if bt417.2 = 0 then (tartanlaw13_ColsMoved.j0 k a1 a2 true bt417.1 ((bt417.1.length : Int) != (l0_0.length : Int)) l0_0 l0_1 bt409.1 bt409.2.1) else (tartanlaw13_ColsMoved.j0 k a1 a2 true bt417.1 true l0_0 l0_1 bt409.1 bt409.2.1))) else (some true))) else (some true))) = some r := by first | (rw [if_pos rfl] at H; exact H) | (rw [if_pos trivial] at H; exact H) | simpa using H
  clear H
  have H := H1
  clear H1
  replace H := Option.bind_eq_some_iff.mp H
  obtain ⟨t408, A70, H⟩ := H
  replace H : (if t408 = true then ((edit_MoveCol.f l0_0 l0_1 a1 a2).bind fun bt409 => (if bt409.2.2 = 0 then ((cols_Align.f l0_0 l0_1 bt409.1 bt409.2.1 a3).bind fun bt417 => (if bt417.2 = 0 then (tartanlaw13_ColsMoved.j0 k a1 a2 true bt417.1 ((bt417.1.length : Int) != (l0_0.length : Int)) l0_0 l0_1 bt409.1 bt409.2.1) else (tartanlaw13_ColsMoved.j0 k a1 a2 true bt417.1 true l0_0 l0_1 bt409.1 bt409.2.1))) else (some true))) else (some true)) = some r := H
  have A7 := Aside0.mk A70
  clear A70
  by_cases c8 : t408 = true
  ·subst c8
   have H1 : ((edit_MoveCol.f l0_0 l0_1 a1 a2).bind fun bt409 => (if bt409.2.2 = 0 then ((cols_Align.f l0_0 l0_1 bt409.1 bt409.2.1 a3).bind fun bt417 => (if bt417.2 = 0 then (tartanlaw13_ColsMoved.j0 k a1 a2 true bt417.1 ((bt417.1.length : Int) != (l0_0.length : Int)) l0_0 l0_1 bt409.1 bt409.2.1) else (tartanlaw13_ColsMoved.j0 k a1 a2 true bt417.1 true l0_0 l0_1 bt409.1 bt409.2.1))) else (some true))) = some r := by first | (rw [if_pos rfl] at H; exact H) | (rw [if_pos trivial] at H; exact H) | simpa using H
   clear H
   have H := H1
   clear H1
   replace H := Option.bind_eq_some_iff.mp H
   obtain ⟨⟨t409, t412, t415⟩, A90, H⟩ := H
   replace H : (if t415 = 0 then ((cols_Align.f l0_0 l0_1 t409 t412 a3).bind fun bt417 => (if bt417.2 = 0 then (tartanlaw13_ColsMoved.j0 k a1 a2 true bt417.1 ((bt417.1.length : Int) != (l0_0.length : Int)) l0_0 l0_1 t409 t412) else (tartanlaw13_ColsMoved.j0 k a1 a2 true bt417.1 true l0_0 l0_1 t409 t412))) else (some true)) = some r := H
   have A9 := Aside0.mk A90
   clear A90
   by_cases c10 : t415 = 0
   ·rw [if_pos c10] at H
    have c10b0 : (t415 == 0) = true := beq_iff_eq.mpr c10
    have c10b1 : (t415 != 0) = false := bne_eq_false_iff_eq.mpr c10
    clear c10
    replace H := Option.bind_eq_some_iff.mp H
    obtain ⟨⟨t417, t420⟩, A110, H⟩ := H
    replace H : (if t420 = 0 then (tartanlaw13_ColsMoved.j0 k a1 a2 true t417 ((t417.length : Int) != (l0_0.length : Int)) l0_0 l0_1 t409 t412) else (tartanlaw13_ColsMoved.j0 k a1 a2 true t417 true l0_0 l0_1 t409 t412)) = some r := H
    have A11 := Aside0.mk A110
    clear A110
    have HC12 := Aside0.mk H
    clear H
    go_enter Try.func7, Try.ntmps7
    go_upto_region 11 with (first | ((with_reducible refine gate_dst (N := 4) rfl ?_); (try (refine gate_guard (by rfl) ?_; dsimp only)); refine box_event ?hg (N := 4) ?hd (cs := #[.slice A0_0 l0_0.length c0_0, .slice A0_1 l0_1.length c0_1]) (t := 25) ?hr ?_; (case hd => rfl); (case hg => rfl); (case hr => first | (go_simp; done) | (go_simp; rfl)); intro gb406 hg w13 hbox hb; have n0_ := Aside0.mk (below_step (by repeat (first | (with_reducible first | exact HB.out | apply below_alloc | apply pw_below_drewN | apply below_drew1) | exact HB.out)) hb); have n1_ := Aside0.mk (hbox); have n2_ := Aside0.mk ((by rw [hg]; exact (below_size (by repeat (first | (with_reducible first | exact HB.out | apply below_alloc | apply pw_below_drewN | apply below_drew1) | exact HB.out))) : w.heap.size ≤ gb406)); have n3_ := Aside0.mk ((by rw [hg]; exact (below_size (by repeat (first | (with_reducible first | exact HB.out | apply below_alloc | apply pw_below_drewN | apply below_drew1) | exact HB.out))) : w.heap.size ≤ gb406)); clear HB; have HB := n0_; have BK406 := n1_; have GW406 := n2_; have GE406 := n3_; clear n0_ n1_ n2_ n3_; clear hb hbox hg) | (go_at_call 8; (with_reducible refine (tartanlaw13_works.calls k  true _ A5.out).mono ?_); rintro e w14 ⟨rfl, hb⟩; have n0_ := Aside0.mk (blk_below (g := gb406) (o := .cells #[.slice A0_0 l0_0.length c0_0, .slice A0_1 l0_1.length c0_1] 25 (0, 0)) (by (with_reducible repeat (first | refine blk_drewN ?_ _ | refine blk_drew ?_ | refine blk_alloc ?_ _)); exact BK406.out) hb); have n1_ := Aside0.mk (below_step (by repeat (first | (with_reducible first | exact HB.out | apply below_alloc | apply pw_below_drewN | apply below_drew1 | refine below_set ?_ GE406.out) | exact HB.out)) hb); clear BK406; clear HB; have BK406 := n0_; have HB := n1_; clear n0_ n1_; (try clear hb); (try clear hb2); (try clear hk); (try clear hi); have hcz15_0 : w14.cell? ⟨gb406, 0, none⟩ = some (.slice A0_0 l0_0.length c0_0) := (blk_cell BK406.out 0).trans rfl; have hcz15_1 : w14.cell? ⟨gb406, 1, none⟩ = some (.slice A0_1 l0_1.length c0_1) := (blk_cell BK406.out 1).trans rfl; have hfz15_0 := blk_frozen BK406.out 0; have hfz15_1 := blk_frozen BK406.out 1) | (go_at_call 9; (with_reducible refine (tartanref04_Few.calls k _ _ l0_0 _ _ l0_1 true _ ?side1 ?side2 ?side3 ?side4 A7.out).mono ?_); (case side1 => repeat (first | exact (Kd.C_below HR0_0.out HB.out) | (with_reducible refine Kd.C_alloc ?_ _) | (with_reducible refine Kd.C_drewN ?_ _) | (with_reducible refine Kd.C_drew ?_))); (case side2 => exact HC0_0.out); (case side3 => repeat (first | exact (Kd.C_below HR0_1.out HB.out) | (with_reducible refine Kd.C_alloc ?_ _) | (with_reducible refine Kd.C_drewN ?_ _) | (with_reducible refine Kd.C_drew ?_))); (case side4 => exact HC0_1.out); rintro e w16 ⟨rfl, hb⟩; have n0_ := Aside0.mk (blk_below (g := gb406) (o := .cells #[.slice A0_0 l0_0.length c0_0, .slice A0_1 l0_1.length c0_1] 25 (0, 0)) (by (with_reducible repeat (first | refine blk_drewN ?_ _ | refine blk_drew ?_ | refine blk_alloc ?_ _)); exact BK406.out) hb); have n1_ := Aside0.mk (below_step (by repeat (first | (with_reducible first | exact HB.out | apply below_alloc | apply pw_below_drewN | apply below_drew1 | refine below_set ?_ GE406.out) | exact HB.out)) hb); clear BK406; clear HB; have BK406 := n0_; have HB := n1_; clear n0_ n1_; (try clear hb); (try clear hb2); (try clear hk); (try clear hi); have hcz17_0 : w16.cell? ⟨gb406, 0, none⟩ = some (.slice A0_0 l0_0.length c0_0) := (blk_cell BK406.out 0).trans rfl; have hcz17_1 : w16.cell? ⟨gb406, 1, none⟩ = some (.slice A0_1 l0_1.length c0_1) := (blk_cell BK406.out 1).trans rfl; have hfz17_0 := blk_frozen BK406.out 0; have hfz17_1 := blk_frozen BK406.out 1) | (go_at_call 19; (with_reducible refine (edit_MoveCol.calls _ _ l0_0 _ _ l0_1 a1 a2 t409 t412 t415 _ ?side1 ?side2 ?side3 ?side4 A9.out).mono ?_); (case side1 => repeat (first | exact (Kd.C_below HR0_0.out HB.out) | (with_reducible refine Kd.C_alloc ?_ _) | (with_reducible refine Kd.C_drewN ?_ _) | (with_reducible refine Kd.C_drew ?_))); (case side2 => exact HC0_0.out); (case side3 => repeat (first | exact (Kd.C_below HR0_1.out HB.out) | (with_reducible refine Kd.C_alloc ?_ _) | (with_reducible refine Kd.C_drewN ?_ _) | (with_reducible refine Kd.C_drew ?_))); (case side4 => exact HC0_1.out); rintro e w18 ⟨v410, v413, rfl, ho0, ho1, hb⟩; have n0_ := Aside0.mk (Kd.R_lower ho0 (below_size (by repeat (first | (with_reducible first | exact HB.out | apply below_alloc | apply pw_below_drewN | apply below_drew1 | refine below_set ?_ GE406.out) | exact HB.out)))); have n1_ := Aside0.mk (Kd.S_lower ho1 (below_size (by repeat (first | (with_reducible first | exact HB.out | apply below_alloc | apply pw_below_drewN | apply below_drew1 | refine below_set ?_ GE406.out) | exact HB.out)))); have n2_ := Aside0.mk (blk_below (g := gb406) (o := .cells #[.slice A0_0 l0_0.length c0_0, .slice A0_1 l0_1.length c0_1] 25 (0, 0)) (by (with_reducible repeat (first | refine blk_drewN ?_ _ | refine blk_drew ?_ | refine blk_alloc ?_ _)); exact BK406.out) hb); have n3_ := Aside0.mk (below_step (by repeat (first | (with_reducible first | exact HB.out | apply below_alloc | apply pw_below_drewN | apply below_drew1 | refine below_set ?_ GE406.out) | exact HB.out)) hb); clear BK406; clear HB; have HO411 := n0_; have HO414 := n1_; have BK406 := n2_; have HB := n3_; clear n0_ n1_ n2_ n3_; (try clear hb); (try clear hb2); (try clear hk); (try clear hi); (try clear ho0); (try clear ho1)) | ((with_reducible refine gate_dst (N := 11) rfl ?_); (try (refine gate_guard (by rfl) ?_; dsimp only)); refine box_event ?hg (N := 11) ?hd (cs := #[.slice none 0 0, .slice none 0 0]) (t := 25) ?hr ?_; (case hd => rfl); (case hg => rfl); (case hr => first | (go_simp; done) | (go_simp; rfl)); intro gb416 hg w19 hbox hb; have n0_ := Aside0.mk (Kd.R_below (by (with_reducible repeat (first | apply Kd.R_alloc | apply Kd.R_drewN | apply Kd.R_drew)); exact HO411.out) hb); have n1_ := Aside0.mk (Kd.S_below (by (with_reducible repeat (first | apply Kd.S_alloc | apply Kd.S_drewN | apply Kd.S_drew)); exact HO414.out) hb); have n2_ := Aside0.mk (blk_below (g := gb406) (o := .cells #[.slice A0_0 l0_0.length c0_0, .slice A0_1 l0_1.length c0_1] 25 (0, 0)) (by (with_reducible repeat (first | refine blk_drewN ?_ _ | refine blk_drew ?_ | refine blk_alloc ?_ _)); exact BK406.out) hb); have n3_ := Aside0.mk (below_step (by repeat (first | (with_reducible first | exact HB.out | apply below_alloc | apply pw_below_drewN | apply below_drew1 | refine below_set ?_ GE406.out) | exact HB.out)) hb); have n4_ := Aside0.mk (hbox); have n5_ := Aside0.mk ((by rw [hg]; exact (below_size (by repeat (first | (with_reducible first | exact HB.out | apply below_alloc | apply pw_below_drewN | apply below_drew1 | refine below_set ?_ GE406.out) | exact HB.out))) : w.heap.size ≤ gb416)); have n6_ := Aside0.mk ((by rw [hg]; exact (below_size (by repeat (first | (with_reducible first | exact HB.out | apply below_alloc | apply pw_below_drewN | apply below_drew1 | refine below_set ?_ GE406.out) | exact HB.out))) : w.heap.size ≤ gb416)); have n7_ := Aside0.mk ((by rw [hg]; exact Nat.ne_of_lt (blk_lt (g := gb406) (o := .cells #[.slice A0_0 l0_0.length c0_0, .slice A0_1 l0_1.length c0_1] 25 (0, 0)) (by (with_reducible repeat (first | refine blk_drewN ?_ _ | refine blk_drew ?_ | refine blk_alloc ?_ _)); exact BK406.out)) : gb406 ≠ gb416)); have n8_ := Aside0.mk ((by rw [hg]; exact Nat.ne_of_gt (blk_lt (g := gb406) (o := .cells #[.slice A0_0 l0_0.length c0_0, .slice A0_1 l0_1.length c0_1] 25 (0, 0)) (by (with_reducible repeat (first | refine blk_drewN ?_ _ | refine blk_drew ?_ | refine blk_alloc ?_ _)); exact BK406.out)) : gb416 ≠ gb406)); clear HO411; clear HO414; clear BK406; clear HB; have HO411 := n0_; have HO414 := n1_; have BK406 := n2_; have HB := n3_; have BK416 := n4_; have GW416 := n5_; have GE416 := n6_; have NB406_416 := n7_; have NB416_406 := n8_; clear n0_ n1_ n2_ n3_ n4_ n5_ n6_ n7_ n8_; clear hb hbox hg; obtain ⟨Ao20, co20, eo20⟩ := Kd.R_slice HO411.out; subst eo20; have hnb21 := NB416_406.out; have hnc21 := NB406_416.out; have hcz22_0 : w19.cell? ⟨gb416, 0, none⟩ = some (.slice none 0 0) := (blk_cell BK416.out 0).trans rfl; have hcz22_1 : w19.cell? ⟨gb416, 1, none⟩ = some (.slice none 0 0) := (blk_cell BK416.out 1).trans rfl; have hfz22_0 := blk_frozen BK416.out 0; have hfz22_1 := blk_frozen BK416.out 1; obtain ⟨Ao23, co23, eo23⟩ := Kd.S_slice HO414.out; subst eo23; have hcz24_0 : w19.cell? ⟨gb406, 0, none⟩ = some (.slice A0_0 l0_0.length c0_0) := (blk_cell BK406.out 0).trans rfl; have hcz24_1 : w19.cell? ⟨gb406, 1, none⟩ = some (.slice A0_1 l0_1.length c0_1) := (blk_cell BK406.out 1).trans rfl; have hfz24_0 := blk_frozen BK406.out 0; have hfz24_1 := blk_frozen BK406.out 1) | (go_at_call 10; (with_reducible refine (cols_Align.calls _ _ l0_0 _ _ l0_1 _ _ t409 _ _ t412 a3 t417 t420 _ ?side1 ?side2 ?side3 ?side4 ?side5 ?side6 ?side7 ?side8 A11.out).mono ?_); (case side1 => exact Kd.C_below HR0_0.out (by repeat (first | (with_reducible first | exact HB.out | apply below_alloc | apply pw_below_drewN | apply below_drew1 | refine below_set ?_ GE406.out | refine below_set ?_ GE416.out) | exact HB.out))); (case side2 => exact HC0_0.out); (case side3 => exact Kd.C_below HR0_1.out (by repeat (first | (with_reducible first | exact HB.out | apply below_alloc | apply pw_below_drewN | apply below_drew1 | refine below_set ?_ GE406.out | refine below_set ?_ GE416.out) | exact HB.out))); (case side4 => exact HC0_1.out); (case side5 => refine (Kd.R_reads' (e := 9) (base := w.heap.size) (ok := fun k_ => True) (n := t409.length) (c := co20) ?_).2.2; exact (by (with_reducible repeat (first | apply Kd.R_alloc | apply Kd.R_drewN | apply Kd.R_drew)); exact (Kd.R_mono (Kd.R_far (p := ⟨gb416, 1, none⟩) (Kd.R_far (p := ⟨gb416, 0, none⟩) (Kd.R_types HO411.out BK416.out (by decide)) (fun _ hk => hk.2) (.slice Ao20 t409.length co20)) (fun _ hk => hk.2) (.slice Ao23 t412.length co23)) (fun _ h_ => h_.1)))); (case side6 => exact (Kd.R_reads' HO411.out).2.1); (case side7 => refine (Kd.S_reads' (e := 22) (base := w.heap.size) (ok := fun k_ => some k_ ≠ (.slice Ao20 t409.length co20 : Value).ownBlock) (n := t412.length) (c := co23) ?_).2.2; exact (by (with_reducible repeat (first | apply Kd.S_alloc | apply Kd.S_drewN | apply Kd.S_drew)); exact (Kd.S_mono (Kd.S_far (p := ⟨gb416, 1, none⟩) (Kd.S_far (p := ⟨gb416, 0, none⟩) (Kd.S_types HO414.out BK416.out (by decide)) (fun _ hk => hk.2) (.slice Ao20 t409.length co20)) (fun _ hk => hk.2) (.slice Ao23 t412.length co23)) (fun _ h_ => h_.1)))); (case side8 => exact (Kd.S_reads' HO414.out).2.1); rintro e w25 ⟨v418, rfl, ho0, hb⟩; have n0_ := Aside0.mk (Kd.R_below (by (with_reducible repeat (first | apply Kd.R_alloc | apply Kd.R_drewN | apply Kd.R_drew)); exact (Kd.R_mono (Kd.R_far (p := ⟨gb416, 1, none⟩) (Kd.R_far (p := ⟨gb416, 0, none⟩) (Kd.R_types HO411.out BK416.out (by decide)) (fun _ hk => hk.2) (.slice Ao20 t409.length co20)) (fun _ hk => hk.2) (.slice Ao23 t412.length co23)) (fun _ h_ => h_.1))) hb); have n1_ := Aside0.mk (Kd.S_below (by (with_reducible repeat (first | apply Kd.S_alloc | apply Kd.S_drewN | apply Kd.S_drew)); exact (Kd.S_mono (Kd.S_far (p := ⟨gb416, 1, none⟩) (Kd.S_far (p := ⟨gb416, 0, none⟩) (Kd.S_types HO414.out BK416.out (by decide)) (fun _ hk => hk.2) (.slice Ao20 t409.length co20)) (fun _ hk => hk.2) (.slice Ao23 t412.length co23)) (fun _ h_ => h_.1))) hb); have n2_ := Aside0.mk (Kd.R_lower ho0 (below_size (by repeat (first | (with_reducible first | exact HB.out | apply below_alloc | apply pw_below_drewN | apply below_drew1 | refine below_set ?_ GE406.out | refine below_set ?_ GE416.out) | exact HB.out)))); have n3_ := Aside0.mk (blk_below (g := gb406) (o := .cells #[.slice A0_0 l0_0.length c0_0, .slice A0_1 l0_1.length c0_1] 25 (0, 0)) (by (with_reducible repeat (first | refine blk_drewN ?_ _ | refine blk_drew ?_ | refine blk_alloc ?_ _)); refine blk_far ?_ NB406_416.out _; (with_reducible repeat (first | refine blk_drewN ?_ _ | refine blk_drew ?_ | refine blk_alloc ?_ _)); refine blk_far ?_ NB406_416.out _; (with_reducible repeat (first | refine blk_drewN ?_ _ | refine blk_drew ?_ | refine blk_alloc ?_ _)); exact BK406.out) hb); have n4_ := Aside0.mk (blk_below (g := gb416) (o := .cells #[.slice Ao20 t409.length co20, .slice Ao23 t412.length co23] 25 (0, 0)) (by (with_reducible repeat (first | refine blk_drewN ?_ _ | refine blk_drew ?_ | refine blk_alloc ?_ _)); refine blk_put (cs := #[.slice Ao20 t409.length co20, .slice none 0 0]) ?_ 1 _ rfl; (with_reducible repeat (first | refine blk_drewN ?_ _ | refine blk_drew ?_ | refine blk_alloc ?_ _)); refine blk_put (cs := #[.slice none 0 0, .slice none 0 0]) ?_ 0 _ rfl; (with_reducible repeat (first | refine blk_drewN ?_ _ | refine blk_drew ?_ | refine blk_alloc ?_ _)); exact BK416.out) hb); have n5_ := Aside0.mk (below_step (by repeat (first | (with_reducible first | exact HB.out | apply below_alloc | apply pw_below_drewN | apply below_drew1 | refine below_set ?_ GE406.out | refine below_set ?_ GE416.out) | exact HB.out)) hb); clear HO411; clear HO414; clear BK406; clear BK416; clear HB; have HO411 := n0_; have HO414 := n1_; have HO419 := n2_; have BK406 := n3_; have BK416 := n4_; have HB := n5_; clear n0_ n1_ n2_ n3_ n4_ n5_; (try clear hb); (try clear hb2); (try clear hk); (try clear hi); (try clear ho0)))
    repeat (go_quiet (first | ((with_reducible refine gate_dst (N := 4) rfl ?_); (try (refine gate_guard (by rfl) ?_; dsimp only)); refine box_event ?hg (N := 4) ?hd (cs := #[.slice A0_0 l0_0.length c0_0, .slice A0_1 l0_1.length c0_1]) (t := 25) ?hr ?_; (case hd => rfl); (case hg => rfl); (case hr => first | (go_simp; done) | (go_simp; rfl)); intro gb406 hg w13 hbox hb; have n0_ := Aside0.mk (below_step (by repeat (first | (with_reducible first | exact HB.out | apply below_alloc | apply pw_below_drewN | apply below_drew1) | exact HB.out)) hb); have n1_ := Aside0.mk (hbox); have n2_ := Aside0.mk ((by rw [hg]; exact (below_size (by repeat (first | (with_reducible first | exact HB.out | apply below_alloc | apply pw_below_drewN | apply below_drew1) | exact HB.out))) : w.heap.size ≤ gb406)); have n3_ := Aside0.mk ((by rw [hg]; exact (below_size (by repeat (first | (with_reducible first | exact HB.out | apply below_alloc | apply pw_below_drewN | apply below_drew1) | exact HB.out))) : w.heap.size ≤ gb406)); clear HB; have HB := n0_; have BK406 := n1_; have GW406 := n2_; have GE406 := n3_; clear n0_ n1_ n2_ n3_; clear hb hbox hg) | (go_at_call 8; (with_reducible refine (tartanlaw13_works.calls k  true _ A5.out).mono ?_); rintro e w14 ⟨rfl, hb⟩; have n0_ := Aside0.mk (blk_below (g := gb406) (o := .cells #[.slice A0_0 l0_0.length c0_0, .slice A0_1 l0_1.length c0_1] 25 (0, 0)) (by (with_reducible repeat (first | refine blk_drewN ?_ _ | refine blk_drew ?_ | refine blk_alloc ?_ _)); exact BK406.out) hb); have n1_ := Aside0.mk (below_step (by repeat (first | (with_reducible first | exact HB.out | apply below_alloc | apply pw_below_drewN | apply below_drew1 | refine below_set ?_ GE406.out) | exact HB.out)) hb); clear BK406; clear HB; have BK406 := n0_; have HB := n1_; clear n0_ n1_; (try clear hb); (try clear hb2); (try clear hk); (try clear hi); have hcz15_0 : w14.cell? ⟨gb406, 0, none⟩ = some (.slice A0_0 l0_0.length c0_0) := (blk_cell BK406.out 0).trans rfl; have hcz15_1 : w14.cell? ⟨gb406, 1, none⟩ = some (.slice A0_1 l0_1.length c0_1) := (blk_cell BK406.out 1).trans rfl; have hfz15_0 := blk_frozen BK406.out 0; have hfz15_1 := blk_frozen BK406.out 1) | (go_at_call 9; (with_reducible refine (tartanref04_Few.calls k _ _ l0_0 _ _ l0_1 true _ ?side1 ?side2 ?side3 ?side4 A7.out).mono ?_); (case side1 => repeat (first | exact (Kd.C_below HR0_0.out HB.out) | (with_reducible refine Kd.C_alloc ?_ _) | (with_reducible refine Kd.C_drewN ?_ _) | (with_reducible refine Kd.C_drew ?_))); (case side2 => exact HC0_0.out); (case side3 => repeat (first | exact (Kd.C_below HR0_1.out HB.out) | (with_reducible refine Kd.C_alloc ?_ _) | (with_reducible refine Kd.C_drewN ?_ _) | (with_reducible refine Kd.C_drew ?_))); (case side4 => exact HC0_1.out); rintro e w16 ⟨rfl, hb⟩; have n0_ := Aside0.mk (blk_below (g := gb406) (o := .cells #[.slice A0_0 l0_0.length c0_0, .slice A0_1 l0_1.length c0_1] 25 (0, 0)) (by (with_reducible repeat (first | refine blk_drewN ?_ _ | refine blk_drew ?_ | refine blk_alloc ?_ _)); exact BK406.out) hb); have n1_ := Aside0.mk (below_step (by repeat (first | (with_reducible first | exact HB.out | apply below_alloc | apply pw_below_drewN | apply below_drew1 | refine below_set ?_ GE406.out) | exact HB.out)) hb); clear BK406; clear HB; have BK406 := n0_; have HB := n1_; clear n0_ n1_; (try clear hb); (try clear hb2); (try clear hk); (try clear hi); have hcz17_0 : w16.cell? ⟨gb406, 0, none⟩ = some (.slice A0_0 l0_0.length c0_0) := (blk_cell BK406.out 0).trans rfl; have hcz17_1 : w16.cell? ⟨gb406, 1, none⟩ = some (.slice A0_1 l0_1.length c0_1) := (blk_cell BK406.out 1).trans rfl; have hfz17_0 := blk_frozen BK406.out 0; have hfz17_1 := blk_frozen BK406.out 1) | (go_at_call 19; (with_reducible refine (edit_MoveCol.calls _ _ l0_0 _ _ l0_1 a1 a2 t409 t412 t415 _ ?side1 ?side2 ?side3 ?side4 A9.out).mono ?_); (case side1 => repeat (first | exact (Kd.C_below HR0_0.out HB.out) | (with_reducible refine Kd.C_alloc ?_ _) | (with_reducible refine Kd.C_drewN ?_ _) | (with_reducible refine Kd.C_drew ?_))); (case side2 => exact HC0_0.out); (case side3 => repeat (first | exact (Kd.C_below HR0_1.out HB.out) | (with_reducible refine Kd.C_alloc ?_ _) | (with_reducible refine Kd.C_drewN ?_ _) | (with_reducible refine Kd.C_drew ?_))); (case side4 => exact HC0_1.out); rintro e w18 ⟨v410, v413, rfl, ho0, ho1, hb⟩; have n0_ := Aside0.mk (Kd.R_lower ho0 (below_size (by repeat (first | (with_reducible first | exact HB.out | apply below_alloc | apply pw_below_drewN | apply below_drew1 | refine below_set ?_ GE406.out) | exact HB.out)))); have n1_ := Aside0.mk (Kd.S_lower ho1 (below_size (by repeat (first | (with_reducible first | exact HB.out | apply below_alloc | apply pw_below_drewN | apply below_drew1 | refine below_set ?_ GE406.out) | exact HB.out)))); have n2_ := Aside0.mk (blk_below (g := gb406) (o := .cells #[.slice A0_0 l0_0.length c0_0, .slice A0_1 l0_1.length c0_1] 25 (0, 0)) (by (with_reducible repeat (first | refine blk_drewN ?_ _ | refine blk_drew ?_ | refine blk_alloc ?_ _)); exact BK406.out) hb); have n3_ := Aside0.mk (below_step (by repeat (first | (with_reducible first | exact HB.out | apply below_alloc | apply pw_below_drewN | apply below_drew1 | refine below_set ?_ GE406.out) | exact HB.out)) hb); clear BK406; clear HB; have HO411 := n0_; have HO414 := n1_; have BK406 := n2_; have HB := n3_; clear n0_ n1_ n2_ n3_; (try clear hb); (try clear hb2); (try clear hk); (try clear hi); (try clear ho0); (try clear ho1)) | ((with_reducible refine gate_dst (N := 11) rfl ?_); (try (refine gate_guard (by rfl) ?_; dsimp only)); refine box_event ?hg (N := 11) ?hd (cs := #[.slice none 0 0, .slice none 0 0]) (t := 25) ?hr ?_; (case hd => rfl); (case hg => rfl); (case hr => first | (go_simp; done) | (go_simp; rfl)); intro gb416 hg w19 hbox hb; have n0_ := Aside0.mk (Kd.R_below (by (with_reducible repeat (first | apply Kd.R_alloc | apply Kd.R_drewN | apply Kd.R_drew)); exact HO411.out) hb); have n1_ := Aside0.mk (Kd.S_below (by (with_reducible repeat (first | apply Kd.S_alloc | apply Kd.S_drewN | apply Kd.S_drew)); exact HO414.out) hb); have n2_ := Aside0.mk (blk_below (g := gb406) (o := .cells #[.slice A0_0 l0_0.length c0_0, .slice A0_1 l0_1.length c0_1] 25 (0, 0)) (by (with_reducible repeat (first | refine blk_drewN ?_ _ | refine blk_drew ?_ | refine blk_alloc ?_ _)); exact BK406.out) hb); have n3_ := Aside0.mk (below_step (by repeat (first | (with_reducible first | exact HB.out | apply below_alloc | apply pw_below_drewN | apply below_drew1 | refine below_set ?_ GE406.out) | exact HB.out)) hb); have n4_ := Aside0.mk (hbox); have n5_ := Aside0.mk ((by rw [hg]; exact (below_size (by repeat (first | (with_reducible first | exact HB.out | apply below_alloc | apply pw_below_drewN | apply below_drew1 | refine below_set ?_ GE406.out) | exact HB.out))) : w.heap.size ≤ gb416)); have n6_ := Aside0.mk ((by rw [hg]; exact (below_size (by repeat (first | (with_reducible first | exact HB.out | apply below_alloc | apply pw_below_drewN | apply below_drew1 | refine below_set ?_ GE406.out) | exact HB.out))) : w.heap.size ≤ gb416)); have n7_ := Aside0.mk ((by rw [hg]; exact Nat.ne_of_lt (blk_lt (g := gb406) (o := .cells #[.slice A0_0 l0_0.length c0_0, .slice A0_1 l0_1.length c0_1] 25 (0, 0)) (by (with_reducible repeat (first | refine blk_drewN ?_ _ | refine blk_drew ?_ | refine blk_alloc ?_ _)); exact BK406.out)) : gb406 ≠ gb416)); have n8_ := Aside0.mk ((by rw [hg]; exact Nat.ne_of_gt (blk_lt (g := gb406) (o := .cells #[.slice A0_0 l0_0.length c0_0, .slice A0_1 l0_1.length c0_1] 25 (0, 0)) (by (with_reducible repeat (first | refine blk_drewN ?_ _ | refine blk_drew ?_ | refine blk_alloc ?_ _)); exact BK406.out)) : gb416 ≠ gb406)); clear HO411; clear HO414; clear BK406; clear HB; have HO411 := n0_; have HO414 := n1_; have BK406 := n2_; have HB := n3_; have BK416 := n4_; have GW416 := n5_; have GE416 := n6_; have NB406_416 := n7_; have NB416_406 := n8_; clear n0_ n1_ n2_ n3_ n4_ n5_ n6_ n7_ n8_; clear hb hbox hg; obtain ⟨Ao20, co20, eo20⟩ := Kd.R_slice HO411.out; subst eo20; have hnb21 := NB416_406.out; have hnc21 := NB406_416.out; have hcz22_0 : w19.cell? ⟨gb416, 0, none⟩ = some (.slice none 0 0) := (blk_cell BK416.out 0).trans rfl; have hcz22_1 : w19.cell? ⟨gb416, 1, none⟩ = some (.slice none 0 0) := (blk_cell BK416.out 1).trans rfl; have hfz22_0 := blk_frozen BK416.out 0; have hfz22_1 := blk_frozen BK416.out 1; obtain ⟨Ao23, co23, eo23⟩ := Kd.S_slice HO414.out; subst eo23; have hcz24_0 : w19.cell? ⟨gb406, 0, none⟩ = some (.slice A0_0 l0_0.length c0_0) := (blk_cell BK406.out 0).trans rfl; have hcz24_1 : w19.cell? ⟨gb406, 1, none⟩ = some (.slice A0_1 l0_1.length c0_1) := (blk_cell BK406.out 1).trans rfl; have hfz24_0 := blk_frozen BK406.out 0; have hfz24_1 := blk_frozen BK406.out 1) | (go_at_call 10; (with_reducible refine (cols_Align.calls _ _ l0_0 _ _ l0_1 _ _ t409 _ _ t412 a3 t417 t420 _ ?side1 ?side2 ?side3 ?side4 ?side5 ?side6 ?side7 ?side8 A11.out).mono ?_); (case side1 => exact Kd.C_below HR0_0.out (by repeat (first | (with_reducible first | exact HB.out | apply below_alloc | apply pw_below_drewN | apply below_drew1 | refine below_set ?_ GE406.out | refine below_set ?_ GE416.out) | exact HB.out))); (case side2 => exact HC0_0.out); (case side3 => exact Kd.C_below HR0_1.out (by repeat (first | (with_reducible first | exact HB.out | apply below_alloc | apply pw_below_drewN | apply below_drew1 | refine below_set ?_ GE406.out | refine below_set ?_ GE416.out) | exact HB.out))); (case side4 => exact HC0_1.out); (case side5 => refine (Kd.R_reads' (e := 9) (base := w.heap.size) (ok := fun k_ => True) (n := t409.length) (c := co20) ?_).2.2; exact (by (with_reducible repeat (first | apply Kd.R_alloc | apply Kd.R_drewN | apply Kd.R_drew)); exact (Kd.R_mono (Kd.R_far (p := ⟨gb416, 1, none⟩) (Kd.R_far (p := ⟨gb416, 0, none⟩) (Kd.R_types HO411.out BK416.out (by decide)) (fun _ hk => hk.2) (.slice Ao20 t409.length co20)) (fun _ hk => hk.2) (.slice Ao23 t412.length co23)) (fun _ h_ => h_.1)))); (case side6 => exact (Kd.R_reads' HO411.out).2.1); (case side7 => refine (Kd.S_reads' (e := 22) (base := w.heap.size) (ok := fun k_ => some k_ ≠ (.slice Ao20 t409.length co20 : Value).ownBlock) (n := t412.length) (c := co23) ?_).2.2; exact (by (with_reducible repeat (first | apply Kd.S_alloc | apply Kd.S_drewN | apply Kd.S_drew)); exact (Kd.S_mono (Kd.S_far (p := ⟨gb416, 1, none⟩) (Kd.S_far (p := ⟨gb416, 0, none⟩) (Kd.S_types HO414.out BK416.out (by decide)) (fun _ hk => hk.2) (.slice Ao20 t409.length co20)) (fun _ hk => hk.2) (.slice Ao23 t412.length co23)) (fun _ h_ => h_.1)))); (case side8 => exact (Kd.S_reads' HO414.out).2.1); rintro e w25 ⟨v418, rfl, ho0, hb⟩; have n0_ := Aside0.mk (Kd.R_below (by (with_reducible repeat (first | apply Kd.R_alloc | apply Kd.R_drewN | apply Kd.R_drew)); exact (Kd.R_mono (Kd.R_far (p := ⟨gb416, 1, none⟩) (Kd.R_far (p := ⟨gb416, 0, none⟩) (Kd.R_types HO411.out BK416.out (by decide)) (fun _ hk => hk.2) (.slice Ao20 t409.length co20)) (fun _ hk => hk.2) (.slice Ao23 t412.length co23)) (fun _ h_ => h_.1))) hb); have n1_ := Aside0.mk (Kd.S_below (by (with_reducible repeat (first | apply Kd.S_alloc | apply Kd.S_drewN | apply Kd.S_drew)); exact (Kd.S_mono (Kd.S_far (p := ⟨gb416, 1, none⟩) (Kd.S_far (p := ⟨gb416, 0, none⟩) (Kd.S_types HO414.out BK416.out (by decide)) (fun _ hk => hk.2) (.slice Ao20 t409.length co20)) (fun _ hk => hk.2) (.slice Ao23 t412.length co23)) (fun _ h_ => h_.1))) hb); have n2_ := Aside0.mk (Kd.R_lower ho0 (below_size (by repeat (first | (with_reducible first | exact HB.out | apply below_alloc | apply pw_below_drewN | apply below_drew1 | refine below_set ?_ GE406.out | refine below_set ?_ GE416.out) | exact HB.out)))); have n3_ := Aside0.mk (blk_below (g := gb406) (o := .cells #[.slice A0_0 l0_0.length c0_0, .slice A0_1 l0_1.length c0_1] 25 (0, 0)) (by (with_reducible repeat (first | refine blk_drewN ?_ _ | refine blk_drew ?_ | refine blk_alloc ?_ _)); refine blk_far ?_ NB406_416.out _; (with_reducible repeat (first | refine blk_drewN ?_ _ | refine blk_drew ?_ | refine blk_alloc ?_ _)); refine blk_far ?_ NB406_416.out _; (with_reducible repeat (first | refine blk_drewN ?_ _ | refine blk_drew ?_ | refine blk_alloc ?_ _)); exact BK406.out) hb); have n4_ := Aside0.mk (blk_below (g := gb416) (o := .cells #[.slice Ao20 t409.length co20, .slice Ao23 t412.length co23] 25 (0, 0)) (by (with_reducible repeat (first | refine blk_drewN ?_ _ | refine blk_drew ?_ | refine blk_alloc ?_ _)); refine blk_put (cs := #[.slice Ao20 t409.length co20, .slice none 0 0]) ?_ 1 _ rfl; (with_reducible repeat (first | refine blk_drewN ?_ _ | refine blk_drew ?_ | refine blk_alloc ?_ _)); refine blk_put (cs := #[.slice none 0 0, .slice none 0 0]) ?_ 0 _ rfl; (with_reducible repeat (first | refine blk_drewN ?_ _ | refine blk_drew ?_ | refine blk_alloc ?_ _)); exact BK416.out) hb); have n5_ := Aside0.mk (below_step (by repeat (first | (with_reducible first | exact HB.out | apply below_alloc | apply pw_below_drewN | apply below_drew1 | refine below_set ?_ GE406.out | refine below_set ?_ GE416.out) | exact HB.out)) hb); clear HO411; clear HO414; clear BK406; clear BK416; clear HB; have HO411 := n0_; have HO414 := n1_; have HO419 := n2_; have BK406 := n3_; have BK416 := n4_; have HB := n5_; clear n0_ n1_ n2_ n3_ n4_ n5_; (try clear hb); (try clear hb2); (try clear hk); (try clear hi); (try clear ho0))); go_upto_region 11 with (first | ((with_reducible refine gate_dst (N := 4) rfl ?_); (try (refine gate_guard (by rfl) ?_; dsimp only)); refine box_event ?hg (N := 4) ?hd (cs := #[.slice A0_0 l0_0.length c0_0, .slice A0_1 l0_1.length c0_1]) (t := 25) ?hr ?_; (case hd => rfl); (case hg => rfl); (case hr => first | (go_simp; done) | (go_simp; rfl)); intro gb406 hg w13 hbox hb; have n0_ := Aside0.mk (below_step (by repeat (first | (with_reducible first | exact HB.out | apply below_alloc | apply pw_below_drewN | apply below_drew1) | exact HB.out)) hb); have n1_ := Aside0.mk (hbox); have n2_ := Aside0.mk ((by rw [hg]; exact (below_size (by repeat (first | (with_reducible first | exact HB.out | apply below_alloc | apply pw_below_drewN | apply below_drew1) | exact HB.out))) : w.heap.size ≤ gb406)); have n3_ := Aside0.mk ((by rw [hg]; exact (below_size (by repeat (first | (with_reducible first | exact HB.out | apply below_alloc | apply pw_below_drewN | apply below_drew1) | exact HB.out))) : w.heap.size ≤ gb406)); clear HB; have HB := n0_; have BK406 := n1_; have GW406 := n2_; have GE406 := n3_; clear n0_ n1_ n2_ n3_; clear hb hbox hg) | (go_at_call 8; (with_reducible refine (tartanlaw13_works.calls k  true _ A5.out).mono ?_); rintro e w14 ⟨rfl, hb⟩; have n0_ := Aside0.mk (blk_below (g := gb406) (o := .cells #[.slice A0_0 l0_0.length c0_0, .slice A0_1 l0_1.length c0_1] 25 (0, 0)) (by (with_reducible repeat (first | refine blk_drewN ?_ _ | refine blk_drew ?_ | refine blk_alloc ?_ _)); exact BK406.out) hb); have n1_ := Aside0.mk (below_step (by repeat (first | (with_reducible first | exact HB.out | apply below_alloc | apply pw_below_drewN | apply below_drew1 | refine below_set ?_ GE406.out) | exact HB.out)) hb); clear BK406; clear HB; have BK406 := n0_; have HB := n1_; clear n0_ n1_; (try clear hb); (try clear hb2); (try clear hk); (try clear hi); have hcz15_0 : w14.cell? ⟨gb406, 0, none⟩ = some (.slice A0_0 l0_0.length c0_0) := (blk_cell BK406.out 0).trans rfl; have hcz15_1 : w14.cell? ⟨gb406, 1, none⟩ = some (.slice A0_1 l0_1.length c0_1) := (blk_cell BK406.out 1).trans rfl; have hfz15_0 := blk_frozen BK406.out 0; have hfz15_1 := blk_frozen BK406.out 1) | (go_at_call 9; (with_reducible refine (tartanref04_Few.calls k _ _ l0_0 _ _ l0_1 true _ ?side1 ?side2 ?side3 ?side4 A7.out).mono ?_); (case side1 => repeat (first | exact (Kd.C_below HR0_0.out HB.out) | (with_reducible refine Kd.C_alloc ?_ _) | (with_reducible refine Kd.C_drewN ?_ _) | (with_reducible refine Kd.C_drew ?_))); (case side2 => exact HC0_0.out); (case side3 => repeat (first | exact (Kd.C_below HR0_1.out HB.out) | (with_reducible refine Kd.C_alloc ?_ _) | (with_reducible refine Kd.C_drewN ?_ _) | (with_reducible refine Kd.C_drew ?_))); (case side4 => exact HC0_1.out); rintro e w16 ⟨rfl, hb⟩; have n0_ := Aside0.mk (blk_below (g := gb406) (o := .cells #[.slice A0_0 l0_0.length c0_0, .slice A0_1 l0_1.length c0_1] 25 (0, 0)) (by (with_reducible repeat (first | refine blk_drewN ?_ _ | refine blk_drew ?_ | refine blk_alloc ?_ _)); exact BK406.out) hb); have n1_ := Aside0.mk (below_step (by repeat (first | (with_reducible first | exact HB.out | apply below_alloc | apply pw_below_drewN | apply below_drew1 | refine below_set ?_ GE406.out) | exact HB.out)) hb); clear BK406; clear HB; have BK406 := n0_; have HB := n1_; clear n0_ n1_; (try clear hb); (try clear hb2); (try clear hk); (try clear hi); have hcz17_0 : w16.cell? ⟨gb406, 0, none⟩ = some (.slice A0_0 l0_0.length c0_0) := (blk_cell BK406.out 0).trans rfl; have hcz17_1 : w16.cell? ⟨gb406, 1, none⟩ = some (.slice A0_1 l0_1.length c0_1) := (blk_cell BK406.out 1).trans rfl; have hfz17_0 := blk_frozen BK406.out 0; have hfz17_1 := blk_frozen BK406.out 1) | (go_at_call 19; (with_reducible refine (edit_MoveCol.calls _ _ l0_0 _ _ l0_1 a1 a2 t409 t412 t415 _ ?side1 ?side2 ?side3 ?side4 A9.out).mono ?_); (case side1 => repeat (first | exact (Kd.C_below HR0_0.out HB.out) | (with_reducible refine Kd.C_alloc ?_ _) | (with_reducible refine Kd.C_drewN ?_ _) | (with_reducible refine Kd.C_drew ?_))); (case side2 => exact HC0_0.out); (case side3 => repeat (first | exact (Kd.C_below HR0_1.out HB.out) | (with_reducible refine Kd.C_alloc ?_ _) | (with_reducible refine Kd.C_drewN ?_ _) | (with_reducible refine Kd.C_drew ?_))); (case side4 => exact HC0_1.out); rintro e w18 ⟨v410, v413, rfl, ho0, ho1, hb⟩; have n0_ := Aside0.mk (Kd.R_lower ho0 (below_size (by repeat (first | (with_reducible first | exact HB.out | apply below_alloc | apply pw_below_drewN | apply below_drew1 | refine below_set ?_ GE406.out) | exact HB.out)))); have n1_ := Aside0.mk (Kd.S_lower ho1 (below_size (by repeat (first | (with_reducible first | exact HB.out | apply below_alloc | apply pw_below_drewN | apply below_drew1 | refine below_set ?_ GE406.out) | exact HB.out)))); have n2_ := Aside0.mk (blk_below (g := gb406) (o := .cells #[.slice A0_0 l0_0.length c0_0, .slice A0_1 l0_1.length c0_1] 25 (0, 0)) (by (with_reducible repeat (first | refine blk_drewN ?_ _ | refine blk_drew ?_ | refine blk_alloc ?_ _)); exact BK406.out) hb); have n3_ := Aside0.mk (below_step (by repeat (first | (with_reducible first | exact HB.out | apply below_alloc | apply pw_below_drewN | apply below_drew1 | refine below_set ?_ GE406.out) | exact HB.out)) hb); clear BK406; clear HB; have HO411 := n0_; have HO414 := n1_; have BK406 := n2_; have HB := n3_; clear n0_ n1_ n2_ n3_; (try clear hb); (try clear hb2); (try clear hk); (try clear hi); (try clear ho0); (try clear ho1)) | ((with_reducible refine gate_dst (N := 11) rfl ?_); (try (refine gate_guard (by rfl) ?_; dsimp only)); refine box_event ?hg (N := 11) ?hd (cs := #[.slice none 0 0, .slice none 0 0]) (t := 25) ?hr ?_; (case hd => rfl); (case hg => rfl); (case hr => first | (go_simp; done) | (go_simp; rfl)); intro gb416 hg w19 hbox hb; have n0_ := Aside0.mk (Kd.R_below (by (with_reducible repeat (first | apply Kd.R_alloc | apply Kd.R_drewN | apply Kd.R_drew)); exact HO411.out) hb); have n1_ := Aside0.mk (Kd.S_below (by (with_reducible repeat (first | apply Kd.S_alloc | apply Kd.S_drewN | apply Kd.S_drew)); exact HO414.out) hb); have n2_ := Aside0.mk (blk_below (g := gb406) (o := .cells #[.slice A0_0 l0_0.length c0_0, .slice A0_1 l0_1.length c0_1] 25 (0, 0)) (by (with_reducible repeat (first | refine blk_drewN ?_ _ | refine blk_drew ?_ | refine blk_alloc ?_ _)); exact BK406.out) hb); have n3_ := Aside0.mk (below_step (by repeat (first | (with_reducible first | exact HB.out | apply below_alloc | apply pw_below_drewN | apply below_drew1 | refine below_set ?_ GE406.out) | exact HB.out)) hb); have n4_ := Aside0.mk (hbox); have n5_ := Aside0.mk ((by rw [hg]; exact (below_size (by repeat (first | (with_reducible first | exact HB.out | apply below_alloc | apply pw_below_drewN | apply below_drew1 | refine below_set ?_ GE406.out) | exact HB.out))) : w.heap.size ≤ gb416)); have n6_ := Aside0.mk ((by rw [hg]; exact (below_size (by repeat (first | (with_reducible first | exact HB.out | apply below_alloc | apply pw_below_drewN | apply below_drew1 | refine below_set ?_ GE406.out) | exact HB.out))) : w.heap.size ≤ gb416)); have n7_ := Aside0.mk ((by rw [hg]; exact Nat.ne_of_lt (blk_lt (g := gb406) (o := .cells #[.slice A0_0 l0_0.length c0_0, .slice A0_1 l0_1.length c0_1] 25 (0, 0)) (by (with_reducible repeat (first | refine blk_drewN ?_ _ | refine blk_drew ?_ | refine blk_alloc ?_ _)); exact BK406.out)) : gb406 ≠ gb416)); have n8_ := Aside0.mk ((by rw [hg]; exact Nat.ne_of_gt (blk_lt (g := gb406) (o := .cells #[.slice A0_0 l0_0.length c0_0, .slice A0_1 l0_1.length c0_1] 25 (0, 0)) (by (with_reducible repeat (first | refine blk_drewN ?_ _ | refine blk_drew ?_ | refine blk_alloc ?_ _)); exact BK406.out)) : gb416 ≠ gb406)); clear HO411; clear HO414; clear BK406; clear HB; have HO411 := n0_; have HO414 := n1_; have BK406 := n2_; have HB := n3_; have BK416 := n4_; have GW416 := n5_; have GE416 := n6_; have NB406_416 := n7_; have NB416_406 := n8_; clear n0_ n1_ n2_ n3_ n4_ n5_ n6_ n7_ n8_; clear hb hbox hg; obtain ⟨Ao20, co20, eo20⟩ := Kd.R_slice HO411.out; subst eo20; have hnb21 := NB416_406.out; have hnc21 := NB406_416.out; have hcz22_0 : w19.cell? ⟨gb416, 0, none⟩ = some (.slice none 0 0) := (blk_cell BK416.out 0).trans rfl; have hcz22_1 : w19.cell? ⟨gb416, 1, none⟩ = some (.slice none 0 0) := (blk_cell BK416.out 1).trans rfl; have hfz22_0 := blk_frozen BK416.out 0; have hfz22_1 := blk_frozen BK416.out 1; obtain ⟨Ao23, co23, eo23⟩ := Kd.S_slice HO414.out; subst eo23; have hcz24_0 : w19.cell? ⟨gb406, 0, none⟩ = some (.slice A0_0 l0_0.length c0_0) := (blk_cell BK406.out 0).trans rfl; have hcz24_1 : w19.cell? ⟨gb406, 1, none⟩ = some (.slice A0_1 l0_1.length c0_1) := (blk_cell BK406.out 1).trans rfl; have hfz24_0 := blk_frozen BK406.out 0; have hfz24_1 := blk_frozen BK406.out 1) | (go_at_call 10; (with_reducible refine (cols_Align.calls _ _ l0_0 _ _ l0_1 _ _ t409 _ _ t412 a3 t417 t420 _ ?side1 ?side2 ?side3 ?side4 ?side5 ?side6 ?side7 ?side8 A11.out).mono ?_); (case side1 => exact Kd.C_below HR0_0.out (by repeat (first | (with_reducible first | exact HB.out | apply below_alloc | apply pw_below_drewN | apply below_drew1 | refine below_set ?_ GE406.out | refine below_set ?_ GE416.out) | exact HB.out))); (case side2 => exact HC0_0.out); (case side3 => exact Kd.C_below HR0_1.out (by repeat (first | (with_reducible first | exact HB.out | apply below_alloc | apply pw_below_drewN | apply below_drew1 | refine below_set ?_ GE406.out | refine below_set ?_ GE416.out) | exact HB.out))); (case side4 => exact HC0_1.out); (case side5 => refine (Kd.R_reads' (e := 9) (base := w.heap.size) (ok := fun k_ => True) (n := t409.length) (c := co20) ?_).2.2; exact (by (with_reducible repeat (first | apply Kd.R_alloc | apply Kd.R_drewN | apply Kd.R_drew)); exact (Kd.R_mono (Kd.R_far (p := ⟨gb416, 1, none⟩) (Kd.R_far (p := ⟨gb416, 0, none⟩) (Kd.R_types HO411.out BK416.out (by decide)) (fun _ hk => hk.2) (.slice Ao20 t409.length co20)) (fun _ hk => hk.2) (.slice Ao23 t412.length co23)) (fun _ h_ => h_.1)))); (case side6 => exact (Kd.R_reads' HO411.out).2.1); (case side7 => refine (Kd.S_reads' (e := 22) (base := w.heap.size) (ok := fun k_ => some k_ ≠ (.slice Ao20 t409.length co20 : Value).ownBlock) (n := t412.length) (c := co23) ?_).2.2; exact (by (with_reducible repeat (first | apply Kd.S_alloc | apply Kd.S_drewN | apply Kd.S_drew)); exact (Kd.S_mono (Kd.S_far (p := ⟨gb416, 1, none⟩) (Kd.S_far (p := ⟨gb416, 0, none⟩) (Kd.S_types HO414.out BK416.out (by decide)) (fun _ hk => hk.2) (.slice Ao20 t409.length co20)) (fun _ hk => hk.2) (.slice Ao23 t412.length co23)) (fun _ h_ => h_.1)))); (case side8 => exact (Kd.S_reads' HO414.out).2.1); rintro e w25 ⟨v418, rfl, ho0, hb⟩; have n0_ := Aside0.mk (Kd.R_below (by (with_reducible repeat (first | apply Kd.R_alloc | apply Kd.R_drewN | apply Kd.R_drew)); exact (Kd.R_mono (Kd.R_far (p := ⟨gb416, 1, none⟩) (Kd.R_far (p := ⟨gb416, 0, none⟩) (Kd.R_types HO411.out BK416.out (by decide)) (fun _ hk => hk.2) (.slice Ao20 t409.length co20)) (fun _ hk => hk.2) (.slice Ao23 t412.length co23)) (fun _ h_ => h_.1))) hb); have n1_ := Aside0.mk (Kd.S_below (by (with_reducible repeat (first | apply Kd.S_alloc | apply Kd.S_drewN | apply Kd.S_drew)); exact (Kd.S_mono (Kd.S_far (p := ⟨gb416, 1, none⟩) (Kd.S_far (p := ⟨gb416, 0, none⟩) (Kd.S_types HO414.out BK416.out (by decide)) (fun _ hk => hk.2) (.slice Ao20 t409.length co20)) (fun _ hk => hk.2) (.slice Ao23 t412.length co23)) (fun _ h_ => h_.1))) hb); have n2_ := Aside0.mk (Kd.R_lower ho0 (below_size (by repeat (first | (with_reducible first | exact HB.out | apply below_alloc | apply pw_below_drewN | apply below_drew1 | refine below_set ?_ GE406.out | refine below_set ?_ GE416.out) | exact HB.out)))); have n3_ := Aside0.mk (blk_below (g := gb406) (o := .cells #[.slice A0_0 l0_0.length c0_0, .slice A0_1 l0_1.length c0_1] 25 (0, 0)) (by (with_reducible repeat (first | refine blk_drewN ?_ _ | refine blk_drew ?_ | refine blk_alloc ?_ _)); refine blk_far ?_ NB406_416.out _; (with_reducible repeat (first | refine blk_drewN ?_ _ | refine blk_drew ?_ | refine blk_alloc ?_ _)); refine blk_far ?_ NB406_416.out _; (with_reducible repeat (first | refine blk_drewN ?_ _ | refine blk_drew ?_ | refine blk_alloc ?_ _)); exact BK406.out) hb); have n4_ := Aside0.mk (blk_below (g := gb416) (o := .cells #[.slice Ao20 t409.length co20, .slice Ao23 t412.length co23] 25 (0, 0)) (by (with_reducible repeat (first | refine blk_drewN ?_ _ | refine blk_drew ?_ | refine blk_alloc ?_ _)); refine blk_put (cs := #[.slice Ao20 t409.length co20, .slice none 0 0]) ?_ 1 _ rfl; (with_reducible repeat (first | refine blk_drewN ?_ _ | refine blk_drew ?_ | refine blk_alloc ?_ _)); refine blk_put (cs := #[.slice none 0 0, .slice none 0 0]) ?_ 0 _ rfl; (with_reducible repeat (first | refine blk_drewN ?_ _ | refine blk_drew ?_ | refine blk_alloc ?_ _)); exact BK416.out) hb); have n5_ := Aside0.mk (below_step (by repeat (first | (with_reducible first | exact HB.out | apply below_alloc | apply pw_below_drewN | apply below_drew1 | refine below_set ?_ GE406.out | refine below_set ?_ GE416.out) | exact HB.out)) hb); clear HO411; clear HO414; clear BK406; clear BK416; clear HB; have HO411 := n0_; have HO414 := n1_; have HO419 := n2_; have BK406 := n3_; have BK416 := n4_; have HB := n5_; clear n0_ n1_ n2_ n3_ n4_ n5_; (try clear hb); (try clear hb2); (try clear hk); (try clear hi); (try clear ho0))))
    (try simp only [Act.put, List.setIfInBounds_toArray, List.set_cons_zero, List.set_cons_succ])
    go_cut [50] (fun v50 wc => ∃ (kq : Nat) (x50_11 : Bool), v50 = .bool x50_11 ∧ Aside0 (tartanlaw13_ColsMoved.j0 kq a1 a2 true t417 x50_11 l0_0 l0_1 t409 t412 = some r) ∧ Aside0 (kq ≤ k) ∧ Aside0 (Kd.R k37 37 wc w.heap.size (fun _ => True) v418 t417) ∧ Aside0 (Kd.R Kd.string 9 wc w.heap.size (fun _ => True) (.slice Ao20 t409.length co20) t409) ∧ Aside0 (Kd.S (Kd.slice 9 Kd.string) 22 wc w.heap.size (fun k_ => some k_ ≠ ((.slice Ao20 t409.length co20) : Value).ownBlock) (.slice Ao23 t412.length co23) t412) ∧ Aside0 (wc.heap[gb406]? = some (.cells #[(.slice A0_0 l0_0.length c0_0), (.slice A0_1 l0_1.length c0_1)] 25 (0, 0))) ∧ Aside0 (wc.heap[gb416]? = some (.cells #[(.slice Ao20 t409.length co20), (.slice Ao23 t412.length co23)] 25 (0, 0))) ∧ Aside0 (Below w.heap.size w wc))
    case first =>
     have H := HC12.out
     clear HC12
     by_cases c26 : t420 = 0
     ·rw [if_pos c26] at H
      have c26b0 : (t420 == 0) = true := beq_iff_eq.mpr c26
      have c26b1 : (t420 != 0) = false := bne_eq_false_iff_eq.mpr c26
      clear c26
      (first | rw [c26b0] | (simp only [i64_w, i32_w]; rw [c26b0]) | skip)
      have H' := Aside0.mk H
      clear H
      obtain ⟨Ao27, co27, eo27⟩ := Kd.R_slice HO419.out
      subst eo27
      have hnb28 := NB406_416.out
      have hnc28 := NB416_406.out
      have hcz29_0 : w25.cell? ⟨gb406, 0, none⟩ = some (.slice A0_0 l0_0.length c0_0) := (blk_cell BK406.out 0).trans rfl
      have hcz29_1 : w25.cell? ⟨gb406, 1, none⟩ = some (.slice A0_1 l0_1.length c0_1) := (blk_cell BK406.out 1).trans rfl
      have hfz29_0 := blk_frozen BK406.out 0
      have hfz29_1 := blk_frozen BK406.out 1
      go_wp2
      repeat (go_quiet (fail); try go_wp2)
      go_meet
      case rel => exact ⟨_, (((t417.length : Int) != (l0_0.length : Int))), (by first | rfl | (simp; done) | (simp [*]; done)), H', ⟨by first | omega | exact Nat.le_refl _⟩, ⟨by (with_reducible repeat (first | apply Kd.R_alloc | apply Kd.R_drewN | apply Kd.R_drew)); exact HO419.out⟩, ⟨by (with_reducible repeat (first | apply Kd.R_alloc | apply Kd.R_drewN | apply Kd.R_drew)); exact HO411.out⟩, ⟨by (with_reducible repeat (first | apply Kd.S_alloc | apply Kd.S_drewN | apply Kd.S_drew)); exact HO414.out⟩, ⟨by (with_reducible repeat (first | refine blk_drewN ?_ _ | refine blk_drew ?_ | refine blk_alloc ?_ _)); exact BK406.out⟩, ⟨by (with_reducible repeat (first | refine blk_drewN ?_ _ | refine blk_drew ?_ | refine blk_alloc ?_ _)); exact BK416.out⟩, ⟨by repeat (first | (with_reducible first | exact HB.out | apply below_alloc | apply pw_below_drewN | apply below_drew1 | refine below_set ?_ GE406.out | refine below_set ?_ GE416.out) | exact HB.out)⟩⟩
     ·rw [if_neg c26] at H
      have c26b0 : (t420 == 0) = false := beq_eq_false_iff_ne.mpr c26
      have c26b1 : (t420 != 0) = true := bne_iff_ne.mpr c26
      (first | rw [c26b0] | (simp only [i64_w, i32_w]; rw [c26b0]) | skip)
      have H' := Aside0.mk H
      clear H
      go_wp2
      repeat (go_quiet (fail); try go_wp2)
      go_meet
      case rel => exact ⟨_, (true), (by first | rfl | (simp; done) | (simp [*]; done)), H', ⟨by first | omega | exact Nat.le_refl _⟩, ⟨by (with_reducible repeat (first | apply Kd.R_alloc | apply Kd.R_drewN | apply Kd.R_drew)); exact HO419.out⟩, ⟨by (with_reducible repeat (first | apply Kd.R_alloc | apply Kd.R_drewN | apply Kd.R_drew)); exact HO411.out⟩, ⟨by (with_reducible repeat (first | apply Kd.S_alloc | apply Kd.S_drewN | apply Kd.S_drew)); exact HO414.out⟩, ⟨by (with_reducible repeat (first | refine blk_drewN ?_ _ | refine blk_drew ?_ | refine blk_alloc ?_ _)); exact BK406.out⟩, ⟨by (with_reducible repeat (first | refine blk_drewN ?_ _ | refine blk_drew ?_ | refine blk_alloc ?_ _)); exact BK416.out⟩, ⟨by repeat (first | (with_reducible first | exact HB.out | apply below_alloc | apply pw_below_drewN | apply below_drew1 | refine below_set ?_ GE406.out | refine below_set ?_ GE416.out) | exact HB.out)⟩⟩
    case rest =>
     clear HC12
     try clear c1
     try clear c2
     try clear p2
     try clear c6
     try clear c7
     try clear c8
     try clear c10
     try clear c10b0
     try clear c10b1
     try clear c21
     try clear c26
     try clear c26b0
     try clear c26b1
     try clear c28
     try clear hcz15_0
     try clear hcz15_1
     try clear hcz17_0
     try clear hcz17_1
     try clear hcz22_0
     try clear hcz22_1
     try clear hcz24_0
     try clear hcz24_1
     try clear hcz29_0
     try clear hcz29_1
     try clear hfz15_0
     try clear hfz15_1
     try clear hfz17_0
     try clear hfz17_1
     try clear hfz22_0
     try clear hfz22_1
     try clear hfz24_0
     try clear hfz24_1
     try clear hfz29_0
     try clear hfz29_1
     obtain ⟨kq, x50_11, rfl, HA, HJ11, HO_13, HO_417000, HO_417001, BK406, BK416, HB⟩ := hcut
     cases kq with
     | zero => exact absurd HA.out (by simp [tartanlaw13_ColsMoved.j0])
     | succ kj11 =>
      have H := HA.out
      clear HA
      simp only [tartanlaw13_ColsMoved.j0] at H
      by_cases c30 : x50_11 = true
      ·subst c30
       have H1 : (some false) = some r := by first | (rw [if_pos rfl] at H; exact H) | (rw [if_pos trivial] at H; exact H) | simpa using H
       clear H
       have H := H1
       clear H1
       obtain rfl := Option.some.inj H
       go_wp2
       repeat (go_quiet (fail); try go_wp2)
       go_ret
       exact ⟨by first | rfl | (simp [errW_none, errW_some] <;> rfl) | (simp [*, errW_none, errW_some] <;> rfl), by repeat (first | (with_reducible first | exact HB.out | apply below_alloc | apply pw_below_drewN | apply below_drew1 | refine below_set ?_ GE406.out | refine below_set ?_ GE416.out) | exact HB.out)⟩
      ·replace c30 := Bool.eq_false_iff.mpr c30
       subst c30
       have H1 : (tartanlaw13_ColsMoved.l0 kj11 a1 a2 true t417 0 l0_0 l0_1 t409 t412) = some r := by rw [if_neg (show ¬ (false = true) by decide)] at H; exact H
       clear H
       have H := H1
       clear H1
       have H' := Aside0.mk H
       clear H
       go_wp2
       repeat (go_quiet (fail); try go_wp2)
       go_loopg [15] kj11 (fun kq v15 w' => ∃ (x15_2 : Int), v15 = .int .i64 x15_2 ∧ Aside0 (tartanlaw13_ColsMoved.l0 kq a1 a2 true t417 x15_2 l0_0 l0_1 t409 t412 = some r) ∧ Aside0 (kq ≤ kj11) ∧ Aside0 (Kd.R k37 37 w' w.heap.size (fun _ => True) v418 t417) ∧ Aside0 (Kd.R Kd.string 9 w' w.heap.size (fun _ => True) (.slice Ao20 t409.length co20) t409) ∧ Aside0 (Kd.S (Kd.slice 9 Kd.string) 22 w' w.heap.size (fun k_ => some k_ ≠ ((.slice Ao20 t409.length co20) : Value).ownBlock) (.slice Ao23 t412.length co23) t412) ∧ Aside0 (w'.heap[gb406]? = some (.cells #[(.slice A0_0 l0_0.length c0_0), (.slice A0_1 l0_1.length c0_1)] 25 (0, 0))) ∧ Aside0 (w'.heap[gb416]? = some (.cells #[(.slice Ao20 t409.length co20), (.slice Ao23 t412.length co23)] 25 (0, 0))) ∧ Aside0 (Below w.heap.size w w'))
       case atStart => exact ⟨(0), (by first | rfl | (simp; done) | (simp [*]; done)), H', ⟨Nat.le_refl _⟩, ⟨by (with_reducible repeat (first | apply Kd.R_alloc | apply Kd.R_drewN | apply Kd.R_drew)); exact HO_13.out⟩, ⟨by (with_reducible repeat (first | apply Kd.R_alloc | apply Kd.R_drewN | apply Kd.R_drew)); exact HO_417000.out⟩, ⟨by (with_reducible repeat (first | apply Kd.S_alloc | apply Kd.S_drewN | apply Kd.S_drew)); exact HO_417001.out⟩, ⟨by (with_reducible repeat (first | refine blk_drewN ?_ _ | refine blk_drew ?_ | refine blk_alloc ?_ _)); exact BK406.out⟩, ⟨by (with_reducible repeat (first | refine blk_drewN ?_ _ | refine blk_drew ?_ | refine blk_alloc ?_ _)); exact BK416.out⟩, ⟨by repeat (first | (with_reducible first | exact HB.out | apply below_alloc | apply pw_below_drewN | apply below_drew1 | refine below_set ?_ GE406.out | refine below_set ?_ GE416.out) | exact HB.out)⟩⟩
       case round =>
        clear H'
        try clear c1
        try clear c2
        try clear p2
        try clear c3
        try clear c6
        try clear c7
        try clear c8
        try clear c10
        try clear c10b0
        try clear c10b1
        try clear c21
        try clear c26
        try clear c26b0
        try clear c26b1
        try clear c28
        try clear c30
        try clear hcz15_0
        try clear hcz15_1
        try clear hcz17_0
        try clear hcz17_1
        try clear hcz22_0
        try clear hcz22_1
        try clear hcz24_0
        try clear hcz24_1
        try clear hcz29_0
        try clear hcz29_1
        try clear hfz15_0
        try clear hfz15_1
        try clear hfz17_0
        try clear hfz17_1
        try clear hfz22_0
        try clear hfz22_1
        try clear hfz24_0
        try clear hfz24_1
        try clear hfz29_0
        try clear hfz29_1
        try clear p2
        obtain ⟨x15_2, rfl, HA, HK2, HO_13, HO_417000, HO_417001, BK406, BK416, HB⟩ := hrel
        cases gk with
        | zero => exact absurd HA.out (by simp [tartanlaw13_ColsMoved.l0])
        | succ k2 =>
         have H := HA.out
         clear HA
         simp only [tartanlaw13_ColsMoved.l0] at H
         by_cases c31 : x15_2 < (t417.length : Int)
         ·rw [if_pos c31] at H
          have c31b0 : decide (x15_2 < (t417.length : Int)) = true := decide_eq_true c31
          clear c31
          by_cases c32 : 0 ≤ x15_2
          ·rw [if_pos c32] at H
           have c32b0 : decide (0 ≤ x15_2) = true := decide_eq_true c32
           clear c32
           by_cases c33 : ((rd_T37 t417 x15_2).f1) = x15_2
           ·rw [if_pos c33] at H
            have c33b0 : (((rd_T37 t417 x15_2).f1) == x15_2) = true := beq_iff_eq.mpr c33
            have c33b1 : (((rd_T37 t417 x15_2).f1) != x15_2) = false := bne_eq_false_iff_eq.mpr c33
            clear c33
            by_cases c34 : ((rd_T37 t417 x15_2).f0) < 0
            ·rw [if_pos c34] at H
             have c34b0 : decide (((rd_T37 t417 x15_2).f0) < 0) = true := decide_eq_true c34
             clear c34
             obtain rfl := Option.some.inj H
             obtain ⟨Ao35, co35, eo35⟩ := Kd.R_slice HO_13.out
             subst eo35
             have p421 : 0 ≤ (x15_2 : Int) := of_decide_eq_true (by first | (with_reducible assumption) | assumption)
             have q421 : x15_2 < (t417.length : Int) := of_decide_eq_true (by first | (with_reducible assumption) | assumption)
             obtain ⟨ad421, e421, hx421_0, hx421_1⟩ := at_T37 (Kd.R_reads' HO_13.out).2.2 x15_2 p421 q421
             cases e421
             replace p421 := eq_true p421
             replace q421 := eq_true q421
             have p422 : 0 ≤ (x15_2 : Int) := of_decide_eq_true (by first | (with_reducible assumption) | assumption)
             have q422 : x15_2 < (t417.length : Int) := of_decide_eq_true (by first | (with_reducible assumption) | assumption)
             obtain ⟨ad422, e422, hx422_0, hx422_1⟩ := at_T37 (Kd.R_reads' HO_13.out).2.2 x15_2 p422 q422
             obtain rfl : ad421 = ad422 := (by injection e422)
             replace p422 := eq_true p422
             replace q422 := eq_true q422
             go_wp2
             repeat (go_quiet (fail); try go_wp2)
             go_ret
             exact ⟨by first | rfl | (simp [errW_none, errW_some] <;> rfl) | (simp [*, errW_none, errW_some] <;> rfl), by repeat (first | (with_reducible first | exact HB.out | apply below_alloc | apply pw_below_drewN | apply below_drew1 | refine below_set ?_ GE406.out | refine below_set ?_ GE416.out) | exact HB.out)⟩
            ·rw [if_neg c34] at H
             have c34b0 : decide (((rd_T37 t417 x15_2).f0) < 0) = false := decide_eq_false c34
             clear c34
             by_cases c36 : ((rd_T37 t417 x15_2).f0) ≥ (l0_0.length : Int)
             ·rw [if_pos c36] at H
              have c36b0 : decide ((l0_0.length : Int) ≤ ((rd_T37 t417 x15_2).f0)) = true := decide_eq_true c36
              clear c36
              obtain rfl := Option.some.inj H
              obtain ⟨Ao37, co37, eo37⟩ := Kd.R_slice HO_13.out
              subst eo37
              have p421 : 0 ≤ (x15_2 : Int) := of_decide_eq_true (by first | (with_reducible assumption) | assumption)
              have q421 : x15_2 < (t417.length : Int) := of_decide_eq_true (by first | (with_reducible assumption) | assumption)
              obtain ⟨ad421, e421, hx421_0, hx421_1⟩ := at_T37 (Kd.R_reads' HO_13.out).2.2 x15_2 p421 q421
              cases e421
              replace p421 := eq_true p421
              replace q421 := eq_true q421
              have p422 : 0 ≤ (x15_2 : Int) := of_decide_eq_true (by first | (with_reducible assumption) | assumption)
              have q422 : x15_2 < (t417.length : Int) := of_decide_eq_true (by first | (with_reducible assumption) | assumption)
              obtain ⟨ad422, e422, hx422_0, hx422_1⟩ := at_T37 (Kd.R_reads' HO_13.out).2.2 x15_2 p422 q422
              obtain rfl : ad421 = ad422 := (by injection e422)
              replace p422 := eq_true p422
              replace q422 := eq_true q422
              have p423 : 0 ≤ (x15_2 : Int) := of_decide_eq_true (by first | (with_reducible assumption) | assumption)
              have q423 : x15_2 < (t417.length : Int) := of_decide_eq_true (by first | (with_reducible assumption) | assumption)
              obtain ⟨ad423, e423, hx423_0, hx423_1⟩ := at_T37 (Kd.R_reads' HO_13.out).2.2 x15_2 p423 q423
              obtain rfl : ad421 = ad423 := (by injection e423)
              replace p423 := eq_true p423
              replace q423 := eq_true q423
              have hnb38 := NB406_416.out
              have hnc38 := NB416_406.out
              have hcz39_0 : wr.cell? ⟨gb406, 0, none⟩ = some (.slice A0_0 l0_0.length c0_0) := (blk_cell BK406.out 0).trans rfl
              have hcz39_1 : wr.cell? ⟨gb406, 1, none⟩ = some (.slice A0_1 l0_1.length c0_1) := (blk_cell BK406.out 1).trans rfl
              have hfz39_0 := blk_frozen BK406.out 0
              have hfz39_1 := blk_frozen BK406.out 1
              go_wp2
              repeat (go_quiet (fail); try go_wp2)
              go_ret
              exact ⟨by first | rfl | (simp [errW_none, errW_some] <;> rfl) | (simp [*, errW_none, errW_some] <;> rfl), by repeat (first | (with_reducible first | exact HB.out | apply below_alloc | apply pw_below_drewN | apply below_drew1 | refine below_set ?_ GE406.out | refine below_set ?_ GE416.out) | exact HB.out)⟩
             ·rw [if_neg c36] at H
              have c36b0 : decide ((l0_0.length : Int) ≤ ((rd_T37 t417 x15_2).f0)) = false := decide_eq_false c36
              clear c36
              by_cases c40 : 0 ≤ ((rd_T37 t417 x15_2).f0)
              ·rw [if_pos c40] at H
               have c40b0 : decide (0 ≤ ((rd_T37 t417 x15_2).f0)) = true := decide_eq_true c40
               clear c40
               by_cases c41 : ((rd_T37 t417 x15_2).f0) < (l0_0.length : Int)
               ·rw [if_pos c41] at H
                have c41b0 : decide (((rd_T37 t417 x15_2).f0) < (l0_0.length : Int)) = true := decide_eq_true c41
                clear c41
                by_cases c42 : x15_2 < (t409.length : Int)
                ·rw [if_pos c42] at H
                 have c42b0 : decide (x15_2 < (t409.length : Int)) = true := decide_eq_true c42
                 clear c42
                 by_cases c43 : (rdOf ByteArray.empty l0_0 ((rd_T37 t417 x15_2).f0)).toList = (rdOf ByteArray.empty t409 x15_2).toList
                 ·rw [if_pos c43] at H
                  have c43b0 : ((rdOf ByteArray.empty l0_0 ((rd_T37 t417 x15_2).f0)).toList == (rdOf ByteArray.empty t409 x15_2).toList) = true := beq_iff_eq.mpr c43
                  have c43b1 : ((rdOf ByteArray.empty l0_0 ((rd_T37 t417 x15_2).f0)).toList != (rdOf ByteArray.empty t409 x15_2).toList) = false := bne_eq_false_iff_eq.mpr c43
                  clear c43
                  have H' := Aside0.mk H
                  clear H
                  obtain ⟨Ao44, co44, eo44⟩ := Kd.R_slice HO_13.out
                  subst eo44
                  have p421 : 0 ≤ (x15_2 : Int) := of_decide_eq_true (by first | (with_reducible assumption) | assumption)
                  have q421 : x15_2 < (t417.length : Int) := of_decide_eq_true (by first | (with_reducible assumption) | assumption)
                  obtain ⟨ad421, e421, hx421_0, hx421_1⟩ := at_T37 (Kd.R_reads' HO_13.out).2.2 x15_2 p421 q421
                  cases e421
                  replace p421 := eq_true p421
                  replace q421 := eq_true q421
                  have p422 : 0 ≤ (x15_2 : Int) := of_decide_eq_true (by first | (with_reducible assumption) | assumption)
                  have q422 : x15_2 < (t417.length : Int) := of_decide_eq_true (by first | (with_reducible assumption) | assumption)
                  obtain ⟨ad422, e422, hx422_0, hx422_1⟩ := at_T37 (Kd.R_reads' HO_13.out).2.2 x15_2 p422 q422
                  obtain rfl : ad421 = ad422 := (by injection e422)
                  replace p422 := eq_true p422
                  replace q422 := eq_true q422
                  have p423 : 0 ≤ (x15_2 : Int) := of_decide_eq_true (by first | (with_reducible assumption) | assumption)
                  have q423 : x15_2 < (t417.length : Int) := of_decide_eq_true (by first | (with_reducible assumption) | assumption)
                  obtain ⟨ad423, e423, hx423_0, hx423_1⟩ := at_T37 (Kd.R_reads' HO_13.out).2.2 x15_2 p423 q423
                  obtain rfl : ad421 = ad423 := (by injection e423)
                  replace p423 := eq_true p423
                  replace q423 := eq_true q423
                  have hnb45 := NB406_416.out
                  have hnc45 := NB416_406.out
                  have hcz46_0 : wr.cell? ⟨gb406, 0, none⟩ = some (.slice A0_0 l0_0.length c0_0) := (blk_cell BK406.out 0).trans rfl
                  have hcz46_1 : wr.cell? ⟨gb406, 1, none⟩ = some (.slice A0_1 l0_1.length c0_1) := (blk_cell BK406.out 1).trans rfl
                  have hfz46_0 := blk_frozen BK406.out 0
                  have hfz46_1 := blk_frozen BK406.out 1
                  have p424 : 0 ≤ (x15_2 : Int) := of_decide_eq_true (by first | (with_reducible assumption) | assumption)
                  have q424 : x15_2 < (t417.length : Int) := of_decide_eq_true (by first | (with_reducible assumption) | assumption)
                  obtain ⟨ad424, e424, hx424_0, hx424_1⟩ := at_T37 (Kd.R_reads' HO_13.out).2.2 x15_2 p424 q424
                  obtain rfl : ad421 = ad424 := (by injection e424)
                  replace p424 := eq_true p424
                  replace q424 := eq_true q424
                  have p425 : 0 ≤ (((rd_T37 t417 x15_2).f0) : Int) := of_decide_eq_true (by first | (with_reducible assumption) | assumption)
                  have q425 : ((rd_T37 t417 x15_2).f0) < (l0_0.length : Int) := of_decide_eq_true (by first | (with_reducible assumption) | assumption)
                  obtain ⟨ad425, e425, hx425_0⟩ := Kd.at_string HR0_0.out ((rd_T37 t417 x15_2).f0) p425 q425
                  cases e425
                  replace hx425_0 := (HB.out.cell (World.block_lt_of_cell? w _ hx425_0)).trans hx425_0
                  replace p425 := eq_true p425
                  replace q425 := eq_true q425
                  have hcz47_0 : wr.cell? ⟨gb416, 0, none⟩ = some (.slice Ao20 t409.length co20) := (blk_cell BK416.out 0).trans rfl
                  have hcz47_1 : wr.cell? ⟨gb416, 1, none⟩ = some (.slice Ao23 t412.length co23) := (blk_cell BK416.out 1).trans rfl
                  have hfz47_0 := blk_frozen BK416.out 0
                  have hfz47_1 := blk_frozen BK416.out 1
                  have p426 : 0 ≤ (x15_2 : Int) := of_decide_eq_true (by first | (with_reducible assumption) | assumption)
                  have q426 : x15_2 < (t409.length : Int) := of_decide_eq_true (by first | (with_reducible assumption) | assumption)
                  obtain ⟨ad426, e426, hx426_0⟩ := Kd.at_string (Kd.R_reads' HO_417000.out).2.2 x15_2 p426 q426
                  cases e426
                  replace p426 := eq_true p426
                  replace q426 := eq_true q426
                  go_wp2
                  repeat (go_quiet (fail); try go_wp2)
                  go_roundg k2
                  case measure => have := HJ11.out; have := HK2.out; omega
                  case rel => exact ⟨(wrap64 (x15_2 + 1)), (by first | rfl | (simp; done) | (simp [*]; done)), H', ⟨by have := HJ11.out; have := HK2.out; omega⟩, ⟨by (with_reducible repeat (first | apply Kd.R_alloc | apply Kd.R_drewN | apply Kd.R_drew)); exact HO_13.out⟩, ⟨by (with_reducible repeat (first | apply Kd.R_alloc | apply Kd.R_drewN | apply Kd.R_drew)); exact HO_417000.out⟩, ⟨by (with_reducible repeat (first | apply Kd.S_alloc | apply Kd.S_drewN | apply Kd.S_drew)); exact HO_417001.out⟩, ⟨by (with_reducible repeat (first | refine blk_drewN ?_ _ | refine blk_drew ?_ | refine blk_alloc ?_ _)); exact BK406.out⟩, ⟨by (with_reducible repeat (first | refine blk_drewN ?_ _ | refine blk_drew ?_ | refine blk_alloc ?_ _)); exact BK416.out⟩, ⟨by repeat (first | (with_reducible first | exact HB.out | apply below_alloc | apply pw_below_drewN | apply below_drew1 | refine below_set ?_ GE406.out | refine below_set ?_ GE416.out) | exact HB.out)⟩⟩
                 ·rw [if_neg c43] at H
                  have c43b0 : ((rdOf ByteArray.empty l0_0 ((rd_T37 t417 x15_2).f0)).toList == (rdOf ByteArray.empty t409 x15_2).toList) = false := beq_eq_false_iff_ne.mpr c43
                  have c43b1 : ((rdOf ByteArray.empty l0_0 ((rd_T37 t417 x15_2).f0)).toList != (rdOf ByteArray.empty t409 x15_2).toList) = true := bne_iff_ne.mpr c43
                  obtain rfl := Option.some.inj H
                  obtain ⟨Ao48, co48, eo48⟩ := Kd.R_slice HO_13.out
                  subst eo48
                  have p421 : 0 ≤ (x15_2 : Int) := of_decide_eq_true (by first | (with_reducible assumption) | assumption)
                  have q421 : x15_2 < (t417.length : Int) := of_decide_eq_true (by first | (with_reducible assumption) | assumption)
                  obtain ⟨ad421, e421, hx421_0, hx421_1⟩ := at_T37 (Kd.R_reads' HO_13.out).2.2 x15_2 p421 q421
                  cases e421
                  replace p421 := eq_true p421
                  replace q421 := eq_true q421
                  have p422 : 0 ≤ (x15_2 : Int) := of_decide_eq_true (by first | (with_reducible assumption) | assumption)
                  have q422 : x15_2 < (t417.length : Int) := of_decide_eq_true (by first | (with_reducible assumption) | assumption)
                  obtain ⟨ad422, e422, hx422_0, hx422_1⟩ := at_T37 (Kd.R_reads' HO_13.out).2.2 x15_2 p422 q422
                  obtain rfl : ad421 = ad422 := (by injection e422)
                  replace p422 := eq_true p422
                  replace q422 := eq_true q422
                  have p423 : 0 ≤ (x15_2 : Int) := of_decide_eq_true (by first | (with_reducible assumption) | assumption)
                  have q423 : x15_2 < (t417.length : Int) := of_decide_eq_true (by first | (with_reducible assumption) | assumption)
                  obtain ⟨ad423, e423, hx423_0, hx423_1⟩ := at_T37 (Kd.R_reads' HO_13.out).2.2 x15_2 p423 q423
                  obtain rfl : ad421 = ad423 := (by injection e423)
                  replace p423 := eq_true p423
                  replace q423 := eq_true q423
                  have hnb49 := NB406_416.out
                  have hnc49 := NB416_406.out
                  have hcz50_0 : wr.cell? ⟨gb406, 0, none⟩ = some (.slice A0_0 l0_0.length c0_0) := (blk_cell BK406.out 0).trans rfl
                  have hcz50_1 : wr.cell? ⟨gb406, 1, none⟩ = some (.slice A0_1 l0_1.length c0_1) := (blk_cell BK406.out 1).trans rfl
                  have hfz50_0 := blk_frozen BK406.out 0
                  have hfz50_1 := blk_frozen BK406.out 1
                  have p424 : 0 ≤ (x15_2 : Int) := of_decide_eq_true (by first | (with_reducible assumption) | assumption)
                  have q424 : x15_2 < (t417.length : Int) := of_decide_eq_true (by first | (with_reducible assumption) | assumption)
                  obtain ⟨ad424, e424, hx424_0, hx424_1⟩ := at_T37 (Kd.R_reads' HO_13.out).2.2 x15_2 p424 q424
                  obtain rfl : ad421 = ad424 := (by injection e424)
                  replace p424 := eq_true p424
                  replace q424 := eq_true q424
                  have p425 : 0 ≤ (((rd_T37 t417 x15_2).f0) : Int) := of_decide_eq_true (by first | (with_reducible assumption) | assumption)
                  have q425 : ((rd_T37 t417 x15_2).f0) < (l0_0.length : Int) := of_decide_eq_true (by first | (with_reducible assumption) | assumption)
                  obtain ⟨ad425, e425, hx425_0⟩ := Kd.at_string HR0_0.out ((rd_T37 t417 x15_2).f0) p425 q425
                  cases e425
                  replace hx425_0 := (HB.out.cell (World.block_lt_of_cell? w _ hx425_0)).trans hx425_0
                  replace p425 := eq_true p425
                  replace q425 := eq_true q425
                  have hcz51_0 : wr.cell? ⟨gb416, 0, none⟩ = some (.slice Ao20 t409.length co20) := (blk_cell BK416.out 0).trans rfl
                  have hcz51_1 : wr.cell? ⟨gb416, 1, none⟩ = some (.slice Ao23 t412.length co23) := (blk_cell BK416.out 1).trans rfl
                  have hfz51_0 := blk_frozen BK416.out 0
                  have hfz51_1 := blk_frozen BK416.out 1
                  have p426 : 0 ≤ (x15_2 : Int) := of_decide_eq_true (by first | (with_reducible assumption) | assumption)
                  have q426 : x15_2 < (t409.length : Int) := of_decide_eq_true (by first | (with_reducible assumption) | assumption)
                  obtain ⟨ad426, e426, hx426_0⟩ := Kd.at_string (Kd.R_reads' HO_417000.out).2.2 x15_2 p426 q426
                  cases e426
                  replace p426 := eq_true p426
                  replace q426 := eq_true q426
                  go_wp2
                  repeat (go_quiet (fail); try go_wp2)
                  go_ret
                  exact ⟨by first | rfl | (simp [errW_none, errW_some] <;> rfl) | (simp [*, errW_none, errW_some] <;> rfl), by repeat (first | (with_reducible first | exact HB.out | apply below_alloc | apply pw_below_drewN | apply below_drew1 | refine below_set ?_ GE406.out | refine below_set ?_ GE416.out) | exact HB.out)⟩
                ·rw [if_neg c42] at H
                 exact absurd H (by simp)
               ·rw [if_neg c41] at H
                exact absurd H (by simp)
              ·rw [if_neg c40] at H
               exact absurd H (by simp)
           ·rw [if_neg c33] at H
            have c33b0 : (((rd_T37 t417 x15_2).f1) == x15_2) = false := beq_eq_false_iff_ne.mpr c33
            have c33b1 : (((rd_T37 t417 x15_2).f1) != x15_2) = true := bne_iff_ne.mpr c33
            obtain rfl := Option.some.inj H
            obtain ⟨Ao52, co52, eo52⟩ := Kd.R_slice HO_13.out
            subst eo52
            have p421 : 0 ≤ (x15_2 : Int) := of_decide_eq_true (by first | (with_reducible assumption) | assumption)
            have q421 : x15_2 < (t417.length : Int) := of_decide_eq_true (by first | (with_reducible assumption) | assumption)
            obtain ⟨ad421, e421, hx421_0, hx421_1⟩ := at_T37 (Kd.R_reads' HO_13.out).2.2 x15_2 p421 q421
            cases e421
            replace p421 := eq_true p421
            replace q421 := eq_true q421
            go_wp2
            repeat (go_quiet (fail); try go_wp2)
            go_ret
            exact ⟨by first | rfl | (simp [errW_none, errW_some] <;> rfl) | (simp [*, errW_none, errW_some] <;> rfl), by repeat (first | (with_reducible first | exact HB.out | apply below_alloc | apply pw_below_drewN | apply below_drew1 | refine below_set ?_ GE406.out | refine below_set ?_ GE416.out) | exact HB.out)⟩
          ·rw [if_neg c32] at H
           exact absurd H (by simp)
         ·rw [if_neg c31] at H
          have c31b0 : decide (x15_2 < (t417.length : Int)) = false := decide_eq_false c31
          clear c31
          have c53 : true = true := rfl
          have H1 : (if 0 ≤ a2 then (if a2 < (t417.length : Int) then (some (((rd_T37 t417 a2).f0) == a1)) else (none)) else (none)) = some r := by first | (rw [if_pos rfl] at H; exact H) | (rw [if_pos trivial] at H; exact H) | simpa using H
          clear H
          have H := H1
          clear H1
          by_cases c54 : 0 ≤ a2
          ·rw [if_pos c54] at H
           have c54b0 : decide (0 ≤ a2) = true := decide_eq_true c54
           clear c54
           by_cases c55 : a2 < (t417.length : Int)
           ·rw [if_pos c55] at H
            have c55b0 : decide (a2 < (t417.length : Int)) = true := decide_eq_true c55
            clear c55
            obtain rfl := Option.some.inj H
            obtain ⟨Ao56, co56, eo56⟩ := Kd.R_slice HO_13.out
            subst eo56
            have p427 : 0 ≤ (a2 : Int) := of_decide_eq_true (by first | (with_reducible assumption) | assumption)
            have q427 : a2 < (t417.length : Int) := of_decide_eq_true (by first | (with_reducible assumption) | assumption)
            obtain ⟨ad427, e427, hx427_0, hx427_1⟩ := at_T37 (Kd.R_reads' HO_13.out).2.2 a2 p427 q427
            cases e427
            replace p427 := eq_true p427
            replace q427 := eq_true q427
            go_wp2
            repeat (go_quiet (fail); try go_wp2)
            go_ret
            exact ⟨by first | rfl | (simp [errW_none, errW_some] <;> rfl) | (simp [*, errW_none, errW_some] <;> rfl), by repeat (first | (with_reducible first | exact HB.out | apply below_alloc | apply pw_below_drewN | apply below_drew1 | refine below_set ?_ GE406.out | refine below_set ?_ GE416.out) | exact HB.out)⟩
           ·rw [if_neg c55] at H
            exact absurd H (by simp)
          ·rw [if_neg c54] at H
           exact absurd H (by simp)
   ·rw [if_neg c10] at H
    have c10b0 : (t415 == 0) = false := beq_eq_false_iff_ne.mpr c10
    have c10b1 : (t415 != 0) = true := bne_iff_ne.mpr c10
    obtain rfl := Option.some.inj H
    go_enter Try.func7, Try.ntmps7
    go_wp2_with (first | ((with_reducible refine gate_dst (N := 4) rfl ?_); (try (refine gate_guard (by rfl) ?_; dsimp only)); refine box_event ?hg (N := 4) ?hd (cs := #[.slice A0_0 l0_0.length c0_0, .slice A0_1 l0_1.length c0_1]) (t := 25) ?hr ?_; (case hd => rfl); (case hg => rfl); (case hr => first | (go_simp; done) | (go_simp; rfl)); intro gb406 hg w58 hbox hb; have n0_ := Aside0.mk (below_step (by repeat (first | (with_reducible first | exact HB.out | apply below_alloc | apply pw_below_drewN | apply below_drew1) | exact HB.out)) hb); have n1_ := Aside0.mk (hbox); have n2_ := Aside0.mk ((by rw [hg]; exact (below_size (by repeat (first | (with_reducible first | exact HB.out | apply below_alloc | apply pw_below_drewN | apply below_drew1) | exact HB.out))) : w.heap.size ≤ gb406)); have n3_ := Aside0.mk ((by rw [hg]; exact (below_size (by repeat (first | (with_reducible first | exact HB.out | apply below_alloc | apply pw_below_drewN | apply below_drew1) | exact HB.out))) : w.heap.size ≤ gb406)); clear HB; have HB := n0_; have BK406 := n1_; have GW406 := n2_; have GE406 := n3_; clear n0_ n1_ n2_ n3_; clear hb hbox hg) | (go_at_call 8; (with_reducible refine (tartanlaw13_works.calls k  true _ A5.out).mono ?_); rintro e w59 ⟨rfl, hb⟩; have n0_ := Aside0.mk (blk_below (g := gb406) (o := .cells #[.slice A0_0 l0_0.length c0_0, .slice A0_1 l0_1.length c0_1] 25 (0, 0)) (by (with_reducible repeat (first | refine blk_drewN ?_ _ | refine blk_drew ?_ | refine blk_alloc ?_ _)); exact BK406.out) hb); have n1_ := Aside0.mk (below_step (by repeat (first | (with_reducible first | exact HB.out | apply below_alloc | apply pw_below_drewN | apply below_drew1 | refine below_set ?_ GE406.out) | exact HB.out)) hb); clear BK406; clear HB; have BK406 := n0_; have HB := n1_; clear n0_ n1_; (try clear hb); (try clear hb2); (try clear hk); (try clear hi); have hcz60_0 : w59.cell? ⟨gb406, 0, none⟩ = some (.slice A0_0 l0_0.length c0_0) := (blk_cell BK406.out 0).trans rfl; have hcz60_1 : w59.cell? ⟨gb406, 1, none⟩ = some (.slice A0_1 l0_1.length c0_1) := (blk_cell BK406.out 1).trans rfl; have hfz60_0 := blk_frozen BK406.out 0; have hfz60_1 := blk_frozen BK406.out 1) | (go_at_call 9; (with_reducible refine (tartanref04_Few.calls k _ _ l0_0 _ _ l0_1 true _ ?side1 ?side2 ?side3 ?side4 A7.out).mono ?_); (case side1 => repeat (first | exact (Kd.C_below HR0_0.out HB.out) | (with_reducible refine Kd.C_alloc ?_ _) | (with_reducible refine Kd.C_drewN ?_ _) | (with_reducible refine Kd.C_drew ?_))); (case side2 => exact HC0_0.out); (case side3 => repeat (first | exact (Kd.C_below HR0_1.out HB.out) | (with_reducible refine Kd.C_alloc ?_ _) | (with_reducible refine Kd.C_drewN ?_ _) | (with_reducible refine Kd.C_drew ?_))); (case side4 => exact HC0_1.out); rintro e w61 ⟨rfl, hb⟩; have n0_ := Aside0.mk (blk_below (g := gb406) (o := .cells #[.slice A0_0 l0_0.length c0_0, .slice A0_1 l0_1.length c0_1] 25 (0, 0)) (by (with_reducible repeat (first | refine blk_drewN ?_ _ | refine blk_drew ?_ | refine blk_alloc ?_ _)); exact BK406.out) hb); have n1_ := Aside0.mk (below_step (by repeat (first | (with_reducible first | exact HB.out | apply below_alloc | apply pw_below_drewN | apply below_drew1 | refine below_set ?_ GE406.out) | exact HB.out)) hb); clear BK406; clear HB; have BK406 := n0_; have HB := n1_; clear n0_ n1_; (try clear hb); (try clear hb2); (try clear hk); (try clear hi); have hcz62_0 : w61.cell? ⟨gb406, 0, none⟩ = some (.slice A0_0 l0_0.length c0_0) := (blk_cell BK406.out 0).trans rfl; have hcz62_1 : w61.cell? ⟨gb406, 1, none⟩ = some (.slice A0_1 l0_1.length c0_1) := (blk_cell BK406.out 1).trans rfl; have hfz62_0 := blk_frozen BK406.out 0; have hfz62_1 := blk_frozen BK406.out 1) | (go_at_call 19; (with_reducible refine (edit_MoveCol.calls _ _ l0_0 _ _ l0_1 a1 a2 t409 t412 t415 _ ?side1 ?side2 ?side3 ?side4 A9.out).mono ?_); (case side1 => repeat (first | exact (Kd.C_below HR0_0.out HB.out) | (with_reducible refine Kd.C_alloc ?_ _) | (with_reducible refine Kd.C_drewN ?_ _) | (with_reducible refine Kd.C_drew ?_))); (case side2 => exact HC0_0.out); (case side3 => repeat (first | exact (Kd.C_below HR0_1.out HB.out) | (with_reducible refine Kd.C_alloc ?_ _) | (with_reducible refine Kd.C_drewN ?_ _) | (with_reducible refine Kd.C_drew ?_))); (case side4 => exact HC0_1.out); rintro e w63 ⟨v410, v413, rfl, ho0, ho1, hb⟩; have n0_ := Aside0.mk (Kd.R_lower ho0 (below_size (by repeat (first | (with_reducible first | exact HB.out | apply below_alloc | apply pw_below_drewN | apply below_drew1 | refine below_set ?_ GE406.out) | exact HB.out)))); have n1_ := Aside0.mk (Kd.S_lower ho1 (below_size (by repeat (first | (with_reducible first | exact HB.out | apply below_alloc | apply pw_below_drewN | apply below_drew1 | refine below_set ?_ GE406.out) | exact HB.out)))); have n2_ := Aside0.mk (blk_below (g := gb406) (o := .cells #[.slice A0_0 l0_0.length c0_0, .slice A0_1 l0_1.length c0_1] 25 (0, 0)) (by (with_reducible repeat (first | refine blk_drewN ?_ _ | refine blk_drew ?_ | refine blk_alloc ?_ _)); exact BK406.out) hb); have n3_ := Aside0.mk (below_step (by repeat (first | (with_reducible first | exact HB.out | apply below_alloc | apply pw_below_drewN | apply below_drew1 | refine below_set ?_ GE406.out) | exact HB.out)) hb); clear BK406; clear HB; have HO411 := n0_; have HO414 := n1_; have BK406 := n2_; have HB := n3_; clear n0_ n1_ n2_ n3_; (try clear hb); (try clear hb2); (try clear hk); (try clear hi); (try clear ho0); (try clear ho1)) | ((with_reducible refine gate_dst (N := 11) rfl ?_); (try (refine gate_guard (by rfl) ?_; dsimp only)); refine box_event ?hg (N := 11) ?hd (cs := #[.slice none 0 0, .slice none 0 0]) (t := 25) ?hr ?_; (case hd => rfl); (case hg => rfl); (case hr => first | (go_simp; done) | (go_simp; rfl)); intro gb416 hg w64 hbox hb; have n0_ := Aside0.mk (Kd.R_below (by (with_reducible repeat (first | apply Kd.R_alloc | apply Kd.R_drewN | apply Kd.R_drew)); exact HO411.out) hb); have n1_ := Aside0.mk (Kd.S_below (by (with_reducible repeat (first | apply Kd.S_alloc | apply Kd.S_drewN | apply Kd.S_drew)); exact HO414.out) hb); have n2_ := Aside0.mk (blk_below (g := gb406) (o := .cells #[.slice A0_0 l0_0.length c0_0, .slice A0_1 l0_1.length c0_1] 25 (0, 0)) (by (with_reducible repeat (first | refine blk_drewN ?_ _ | refine blk_drew ?_ | refine blk_alloc ?_ _)); exact BK406.out) hb); have n3_ := Aside0.mk (below_step (by repeat (first | (with_reducible first | exact HB.out | apply below_alloc | apply pw_below_drewN | apply below_drew1 | refine below_set ?_ GE406.out) | exact HB.out)) hb); have n4_ := Aside0.mk (hbox); have n5_ := Aside0.mk ((by rw [hg]; exact (below_size (by repeat (first | (with_reducible first | exact HB.out | apply below_alloc | apply pw_below_drewN | apply below_drew1 | refine below_set ?_ GE406.out) | exact HB.out))) : w.heap.size ≤ gb416)); have n6_ := Aside0.mk ((by rw [hg]; exact (below_size (by repeat (first | (with_reducible first | exact HB.out | apply below_alloc | apply pw_below_drewN | apply below_drew1 | refine below_set ?_ GE406.out) | exact HB.out))) : w.heap.size ≤ gb416)); have n7_ := Aside0.mk ((by rw [hg]; exact Nat.ne_of_lt (blk_lt (g := gb406) (o := .cells #[.slice A0_0 l0_0.length c0_0, .slice A0_1 l0_1.length c0_1] 25 (0, 0)) (by (with_reducible repeat (first | refine blk_drewN ?_ _ | refine blk_drew ?_ | refine blk_alloc ?_ _)); exact BK406.out)) : gb406 ≠ gb416)); have n8_ := Aside0.mk ((by rw [hg]; exact Nat.ne_of_gt (blk_lt (g := gb406) (o := .cells #[.slice A0_0 l0_0.length c0_0, .slice A0_1 l0_1.length c0_1] 25 (0, 0)) (by (with_reducible repeat (first | refine blk_drewN ?_ _ | refine blk_drew ?_ | refine blk_alloc ?_ _)); exact BK406.out)) : gb416 ≠ gb406)); clear HO411; clear HO414; clear BK406; clear HB; have HO411 := n0_; have HO414 := n1_; have BK406 := n2_; have HB := n3_; have BK416 := n4_; have GW416 := n5_; have GE416 := n6_; have NB406_416 := n7_; have NB416_406 := n8_; clear n0_ n1_ n2_ n3_ n4_ n5_ n6_ n7_ n8_; clear hb hbox hg; obtain ⟨Ao65, co65, eo65⟩ := Kd.R_slice HO411.out; subst eo65; have hnb66 := NB416_406.out; have hnc66 := NB406_416.out; have hcz67_0 : w64.cell? ⟨gb416, 0, none⟩ = some (.slice none 0 0) := (blk_cell BK416.out 0).trans rfl; have hcz67_1 : w64.cell? ⟨gb416, 1, none⟩ = some (.slice none 0 0) := (blk_cell BK416.out 1).trans rfl; have hfz67_0 := blk_frozen BK416.out 0; have hfz67_1 := blk_frozen BK416.out 1; obtain ⟨Ao68, co68, eo68⟩ := Kd.S_slice HO414.out; subst eo68))
    repeat (go_quiet (first | ((with_reducible refine gate_dst (N := 4) rfl ?_); (try (refine gate_guard (by rfl) ?_; dsimp only)); refine box_event ?hg (N := 4) ?hd (cs := #[.slice A0_0 l0_0.length c0_0, .slice A0_1 l0_1.length c0_1]) (t := 25) ?hr ?_; (case hd => rfl); (case hg => rfl); (case hr => first | (go_simp; done) | (go_simp; rfl)); intro gb406 hg w58 hbox hb; have n0_ := Aside0.mk (below_step (by repeat (first | (with_reducible first | exact HB.out | apply below_alloc | apply pw_below_drewN | apply below_drew1) | exact HB.out)) hb); have n1_ := Aside0.mk (hbox); have n2_ := Aside0.mk ((by rw [hg]; exact (below_size (by repeat (first | (with_reducible first | exact HB.out | apply below_alloc | apply pw_below_drewN | apply below_drew1) | exact HB.out))) : w.heap.size ≤ gb406)); have n3_ := Aside0.mk ((by rw [hg]; exact (below_size (by repeat (first | (with_reducible first | exact HB.out | apply below_alloc | apply pw_below_drewN | apply below_drew1) | exact HB.out))) : w.heap.size ≤ gb406)); clear HB; have HB := n0_; have BK406 := n1_; have GW406 := n2_; have GE406 := n3_; clear n0_ n1_ n2_ n3_; clear hb hbox hg) | (go_at_call 8; (with_reducible refine (tartanlaw13_works.calls k  true _ A5.out).mono ?_); rintro e w59 ⟨rfl, hb⟩; have n0_ := Aside0.mk (blk_below (g := gb406) (o := .cells #[.slice A0_0 l0_0.length c0_0, .slice A0_1 l0_1.length c0_1] 25 (0, 0)) (by (with_reducible repeat (first | refine blk_drewN ?_ _ | refine blk_drew ?_ | refine blk_alloc ?_ _)); exact BK406.out) hb); have n1_ := Aside0.mk (below_step (by repeat (first | (with_reducible first | exact HB.out | apply below_alloc | apply pw_below_drewN | apply below_drew1 | refine below_set ?_ GE406.out) | exact HB.out)) hb); clear BK406; clear HB; have BK406 := n0_; have HB := n1_; clear n0_ n1_; (try clear hb); (try clear hb2); (try clear hk); (try clear hi); have hcz60_0 : w59.cell? ⟨gb406, 0, none⟩ = some (.slice A0_0 l0_0.length c0_0) := (blk_cell BK406.out 0).trans rfl; have hcz60_1 : w59.cell? ⟨gb406, 1, none⟩ = some (.slice A0_1 l0_1.length c0_1) := (blk_cell BK406.out 1).trans rfl; have hfz60_0 := blk_frozen BK406.out 0; have hfz60_1 := blk_frozen BK406.out 1) | (go_at_call 9; (with_reducible refine (tartanref04_Few.calls k _ _ l0_0 _ _ l0_1 true _ ?side1 ?side2 ?side3 ?side4 A7.out).mono ?_); (case side1 => repeat (first | exact (Kd.C_below HR0_0.out HB.out) | (with_reducible refine Kd.C_alloc ?_ _) | (with_reducible refine Kd.C_drewN ?_ _) | (with_reducible refine Kd.C_drew ?_))); (case side2 => exact HC0_0.out); (case side3 => repeat (first | exact (Kd.C_below HR0_1.out HB.out) | (with_reducible refine Kd.C_alloc ?_ _) | (with_reducible refine Kd.C_drewN ?_ _) | (with_reducible refine Kd.C_drew ?_))); (case side4 => exact HC0_1.out); rintro e w61 ⟨rfl, hb⟩; have n0_ := Aside0.mk (blk_below (g := gb406) (o := .cells #[.slice A0_0 l0_0.length c0_0, .slice A0_1 l0_1.length c0_1] 25 (0, 0)) (by (with_reducible repeat (first | refine blk_drewN ?_ _ | refine blk_drew ?_ | refine blk_alloc ?_ _)); exact BK406.out) hb); have n1_ := Aside0.mk (below_step (by repeat (first | (with_reducible first | exact HB.out | apply below_alloc | apply pw_below_drewN | apply below_drew1 | refine below_set ?_ GE406.out) | exact HB.out)) hb); clear BK406; clear HB; have BK406 := n0_; have HB := n1_; clear n0_ n1_; (try clear hb); (try clear hb2); (try clear hk); (try clear hi); have hcz62_0 : w61.cell? ⟨gb406, 0, none⟩ = some (.slice A0_0 l0_0.length c0_0) := (blk_cell BK406.out 0).trans rfl; have hcz62_1 : w61.cell? ⟨gb406, 1, none⟩ = some (.slice A0_1 l0_1.length c0_1) := (blk_cell BK406.out 1).trans rfl; have hfz62_0 := blk_frozen BK406.out 0; have hfz62_1 := blk_frozen BK406.out 1) | (go_at_call 19; (with_reducible refine (edit_MoveCol.calls _ _ l0_0 _ _ l0_1 a1 a2 t409 t412 t415 _ ?side1 ?side2 ?side3 ?side4 A9.out).mono ?_); (case side1 => repeat (first | exact (Kd.C_below HR0_0.out HB.out) | (with_reducible refine Kd.C_alloc ?_ _) | (with_reducible refine Kd.C_drewN ?_ _) | (with_reducible refine Kd.C_drew ?_))); (case side2 => exact HC0_0.out); (case side3 => repeat (first | exact (Kd.C_below HR0_1.out HB.out) | (with_reducible refine Kd.C_alloc ?_ _) | (with_reducible refine Kd.C_drewN ?_ _) | (with_reducible refine Kd.C_drew ?_))); (case side4 => exact HC0_1.out); rintro e w63 ⟨v410, v413, rfl, ho0, ho1, hb⟩; have n0_ := Aside0.mk (Kd.R_lower ho0 (below_size (by repeat (first | (with_reducible first | exact HB.out | apply below_alloc | apply pw_below_drewN | apply below_drew1 | refine below_set ?_ GE406.out) | exact HB.out)))); have n1_ := Aside0.mk (Kd.S_lower ho1 (below_size (by repeat (first | (with_reducible first | exact HB.out | apply below_alloc | apply pw_below_drewN | apply below_drew1 | refine below_set ?_ GE406.out) | exact HB.out)))); have n2_ := Aside0.mk (blk_below (g := gb406) (o := .cells #[.slice A0_0 l0_0.length c0_0, .slice A0_1 l0_1.length c0_1] 25 (0, 0)) (by (with_reducible repeat (first | refine blk_drewN ?_ _ | refine blk_drew ?_ | refine blk_alloc ?_ _)); exact BK406.out) hb); have n3_ := Aside0.mk (below_step (by repeat (first | (with_reducible first | exact HB.out | apply below_alloc | apply pw_below_drewN | apply below_drew1 | refine below_set ?_ GE406.out) | exact HB.out)) hb); clear BK406; clear HB; have HO411 := n0_; have HO414 := n1_; have BK406 := n2_; have HB := n3_; clear n0_ n1_ n2_ n3_; (try clear hb); (try clear hb2); (try clear hk); (try clear hi); (try clear ho0); (try clear ho1)) | ((with_reducible refine gate_dst (N := 11) rfl ?_); (try (refine gate_guard (by rfl) ?_; dsimp only)); refine box_event ?hg (N := 11) ?hd (cs := #[.slice none 0 0, .slice none 0 0]) (t := 25) ?hr ?_; (case hd => rfl); (case hg => rfl); (case hr => first | (go_simp; done) | (go_simp; rfl)); intro gb416 hg w64 hbox hb; have n0_ := Aside0.mk (Kd.R_below (by (with_reducible repeat (first | apply Kd.R_alloc | apply Kd.R_drewN | apply Kd.R_drew)); exact HO411.out) hb); have n1_ := Aside0.mk (Kd.S_below (by (with_reducible repeat (first | apply Kd.S_alloc | apply Kd.S_drewN | apply Kd.S_drew)); exact HO414.out) hb); have n2_ := Aside0.mk (blk_below (g := gb406) (o := .cells #[.slice A0_0 l0_0.length c0_0, .slice A0_1 l0_1.length c0_1] 25 (0, 0)) (by (with_reducible repeat (first | refine blk_drewN ?_ _ | refine blk_drew ?_ | refine blk_alloc ?_ _)); exact BK406.out) hb); have n3_ := Aside0.mk (below_step (by repeat (first | (with_reducible first | exact HB.out | apply below_alloc | apply pw_below_drewN | apply below_drew1 | refine below_set ?_ GE406.out) | exact HB.out)) hb); have n4_ := Aside0.mk (hbox); have n5_ := Aside0.mk ((by rw [hg]; exact (below_size (by repeat (first | (with_reducible first | exact HB.out | apply below_alloc | apply pw_below_drewN | apply below_drew1 | refine below_set ?_ GE406.out) | exact HB.out))) : w.heap.size ≤ gb416)); have n6_ := Aside0.mk ((by rw [hg]; exact (below_size (by repeat (first | (with_reducible first | exact HB.out | apply below_alloc | apply pw_below_drewN | apply below_drew1 | refine below_set ?_ GE406.out) | exact HB.out))) : w.heap.size ≤ gb416)); have n7_ := Aside0.mk ((by rw [hg]; exact Nat.ne_of_lt (blk_lt (g := gb406) (o := .cells #[.slice A0_0 l0_0.length c0_0, .slice A0_1 l0_1.length c0_1] 25 (0, 0)) (by (with_reducible repeat (first | refine blk_drewN ?_ _ | refine blk_drew ?_ | refine blk_alloc ?_ _)); exact BK406.out)) : gb406 ≠ gb416)); have n8_ := Aside0.mk ((by rw [hg]; exact Nat.ne_of_gt (blk_lt (g := gb406) (o := .cells #[.slice A0_0 l0_0.length c0_0, .slice A0_1 l0_1.length c0_1] 25 (0, 0)) (by (with_reducible repeat (first | refine blk_drewN ?_ _ | refine blk_drew ?_ | refine blk_alloc ?_ _)); exact BK406.out)) : gb416 ≠ gb406)); clear HO411; clear HO414; clear BK406; clear HB; have HO411 := n0_; have HO414 := n1_; have BK406 := n2_; have HB := n3_; have BK416 := n4_; have GW416 := n5_; have GE416 := n6_; have NB406_416 := n7_; have NB416_406 := n8_; clear n0_ n1_ n2_ n3_ n4_ n5_ n6_ n7_ n8_; clear hb hbox hg; obtain ⟨Ao65, co65, eo65⟩ := Kd.R_slice HO411.out; subst eo65; have hnb66 := NB416_406.out; have hnc66 := NB406_416.out; have hcz67_0 : w64.cell? ⟨gb416, 0, none⟩ = some (.slice none 0 0) := (blk_cell BK416.out 0).trans rfl; have hcz67_1 : w64.cell? ⟨gb416, 1, none⟩ = some (.slice none 0 0) := (blk_cell BK416.out 1).trans rfl; have hfz67_0 := blk_frozen BK416.out 0; have hfz67_1 := blk_frozen BK416.out 1; obtain ⟨Ao68, co68, eo68⟩ := Kd.S_slice HO414.out; subst eo68)); try go_wp2_with (first | ((with_reducible refine gate_dst (N := 4) rfl ?_); (try (refine gate_guard (by rfl) ?_; dsimp only)); refine box_event ?hg (N := 4) ?hd (cs := #[.slice A0_0 l0_0.length c0_0, .slice A0_1 l0_1.length c0_1]) (t := 25) ?hr ?_; (case hd => rfl); (case hg => rfl); (case hr => first | (go_simp; done) | (go_simp; rfl)); intro gb406 hg w58 hbox hb; have n0_ := Aside0.mk (below_step (by repeat (first | (with_reducible first | exact HB.out | apply below_alloc | apply pw_below_drewN | apply below_drew1) | exact HB.out)) hb); have n1_ := Aside0.mk (hbox); have n2_ := Aside0.mk ((by rw [hg]; exact (below_size (by repeat (first | (with_reducible first | exact HB.out | apply below_alloc | apply pw_below_drewN | apply below_drew1) | exact HB.out))) : w.heap.size ≤ gb406)); have n3_ := Aside0.mk ((by rw [hg]; exact (below_size (by repeat (first | (with_reducible first | exact HB.out | apply below_alloc | apply pw_below_drewN | apply below_drew1) | exact HB.out))) : w.heap.size ≤ gb406)); clear HB; have HB := n0_; have BK406 := n1_; have GW406 := n2_; have GE406 := n3_; clear n0_ n1_ n2_ n3_; clear hb hbox hg) | (go_at_call 8; (with_reducible refine (tartanlaw13_works.calls k  true _ A5.out).mono ?_); rintro e w59 ⟨rfl, hb⟩; have n0_ := Aside0.mk (blk_below (g := gb406) (o := .cells #[.slice A0_0 l0_0.length c0_0, .slice A0_1 l0_1.length c0_1] 25 (0, 0)) (by (with_reducible repeat (first | refine blk_drewN ?_ _ | refine blk_drew ?_ | refine blk_alloc ?_ _)); exact BK406.out) hb); have n1_ := Aside0.mk (below_step (by repeat (first | (with_reducible first | exact HB.out | apply below_alloc | apply pw_below_drewN | apply below_drew1 | refine below_set ?_ GE406.out) | exact HB.out)) hb); clear BK406; clear HB; have BK406 := n0_; have HB := n1_; clear n0_ n1_; (try clear hb); (try clear hb2); (try clear hk); (try clear hi); have hcz60_0 : w59.cell? ⟨gb406, 0, none⟩ = some (.slice A0_0 l0_0.length c0_0) := (blk_cell BK406.out 0).trans rfl; have hcz60_1 : w59.cell? ⟨gb406, 1, none⟩ = some (.slice A0_1 l0_1.length c0_1) := (blk_cell BK406.out 1).trans rfl; have hfz60_0 := blk_frozen BK406.out 0; have hfz60_1 := blk_frozen BK406.out 1) | (go_at_call 9; (with_reducible refine (tartanref04_Few.calls k _ _ l0_0 _ _ l0_1 true _ ?side1 ?side2 ?side3 ?side4 A7.out).mono ?_); (case side1 => repeat (first | exact (Kd.C_below HR0_0.out HB.out) | (with_reducible refine Kd.C_alloc ?_ _) | (with_reducible refine Kd.C_drewN ?_ _) | (with_reducible refine Kd.C_drew ?_))); (case side2 => exact HC0_0.out); (case side3 => repeat (first | exact (Kd.C_below HR0_1.out HB.out) | (with_reducible refine Kd.C_alloc ?_ _) | (with_reducible refine Kd.C_drewN ?_ _) | (with_reducible refine Kd.C_drew ?_))); (case side4 => exact HC0_1.out); rintro e w61 ⟨rfl, hb⟩; have n0_ := Aside0.mk (blk_below (g := gb406) (o := .cells #[.slice A0_0 l0_0.length c0_0, .slice A0_1 l0_1.length c0_1] 25 (0, 0)) (by (with_reducible repeat (first | refine blk_drewN ?_ _ | refine blk_drew ?_ | refine blk_alloc ?_ _)); exact BK406.out) hb); have n1_ := Aside0.mk (below_step (by repeat (first | (with_reducible first | exact HB.out | apply below_alloc | apply pw_below_drewN | apply below_drew1 | refine below_set ?_ GE406.out) | exact HB.out)) hb); clear BK406; clear HB; have BK406 := n0_; have HB := n1_; clear n0_ n1_; (try clear hb); (try clear hb2); (try clear hk); (try clear hi); have hcz62_0 : w61.cell? ⟨gb406, 0, none⟩ = some (.slice A0_0 l0_0.length c0_0) := (blk_cell BK406.out 0).trans rfl; have hcz62_1 : w61.cell? ⟨gb406, 1, none⟩ = some (.slice A0_1 l0_1.length c0_1) := (blk_cell BK406.out 1).trans rfl; have hfz62_0 := blk_frozen BK406.out 0; have hfz62_1 := blk_frozen BK406.out 1) | (go_at_call 19; (with_reducible refine (edit_MoveCol.calls _ _ l0_0 _ _ l0_1 a1 a2 t409 t412 t415 _ ?side1 ?side2 ?side3 ?side4 A9.out).mono ?_); (case side1 => repeat (first | exact (Kd.C_below HR0_0.out HB.out) | (with_reducible refine Kd.C_alloc ?_ _) | (with_reducible refine Kd.C_drewN ?_ _) | (with_reducible refine Kd.C_drew ?_))); (case side2 => exact HC0_0.out); (case side3 => repeat (first | exact (Kd.C_below HR0_1.out HB.out) | (with_reducible refine Kd.C_alloc ?_ _) | (with_reducible refine Kd.C_drewN ?_ _) | (with_reducible refine Kd.C_drew ?_))); (case side4 => exact HC0_1.out); rintro e w63 ⟨v410, v413, rfl, ho0, ho1, hb⟩; have n0_ := Aside0.mk (Kd.R_lower ho0 (below_size (by repeat (first | (with_reducible first | exact HB.out | apply below_alloc | apply pw_below_drewN | apply below_drew1 | refine below_set ?_ GE406.out) | exact HB.out)))); have n1_ := Aside0.mk (Kd.S_lower ho1 (below_size (by repeat (first | (with_reducible first | exact HB.out | apply below_alloc | apply pw_below_drewN | apply below_drew1 | refine below_set ?_ GE406.out) | exact HB.out)))); have n2_ := Aside0.mk (blk_below (g := gb406) (o := .cells #[.slice A0_0 l0_0.length c0_0, .slice A0_1 l0_1.length c0_1] 25 (0, 0)) (by (with_reducible repeat (first | refine blk_drewN ?_ _ | refine blk_drew ?_ | refine blk_alloc ?_ _)); exact BK406.out) hb); have n3_ := Aside0.mk (below_step (by repeat (first | (with_reducible first | exact HB.out | apply below_alloc | apply pw_below_drewN | apply below_drew1 | refine below_set ?_ GE406.out) | exact HB.out)) hb); clear BK406; clear HB; have HO411 := n0_; have HO414 := n1_; have BK406 := n2_; have HB := n3_; clear n0_ n1_ n2_ n3_; (try clear hb); (try clear hb2); (try clear hk); (try clear hi); (try clear ho0); (try clear ho1)) | ((with_reducible refine gate_dst (N := 11) rfl ?_); (try (refine gate_guard (by rfl) ?_; dsimp only)); refine box_event ?hg (N := 11) ?hd (cs := #[.slice none 0 0, .slice none 0 0]) (t := 25) ?hr ?_; (case hd => rfl); (case hg => rfl); (case hr => first | (go_simp; done) | (go_simp; rfl)); intro gb416 hg w64 hbox hb; have n0_ := Aside0.mk (Kd.R_below (by (with_reducible repeat (first | apply Kd.R_alloc | apply Kd.R_drewN | apply Kd.R_drew)); exact HO411.out) hb); have n1_ := Aside0.mk (Kd.S_below (by (with_reducible repeat (first | apply Kd.S_alloc | apply Kd.S_drewN | apply Kd.S_drew)); exact HO414.out) hb); have n2_ := Aside0.mk (blk_below (g := gb406) (o := .cells #[.slice A0_0 l0_0.length c0_0, .slice A0_1 l0_1.length c0_1] 25 (0, 0)) (by (with_reducible repeat (first | refine blk_drewN ?_ _ | refine blk_drew ?_ | refine blk_alloc ?_ _)); exact BK406.out) hb); have n3_ := Aside0.mk (below_step (by repeat (first | (with_reducible first | exact HB.out | apply below_alloc | apply pw_below_drewN | apply below_drew1 | refine below_set ?_ GE406.out) | exact HB.out)) hb); have n4_ := Aside0.mk (hbox); have n5_ := Aside0.mk ((by rw [hg]; exact (below_size (by repeat (first | (with_reducible first | exact HB.out | apply below_alloc | apply pw_below_drewN | apply below_drew1 | refine below_set ?_ GE406.out) | exact HB.out))) : w.heap.size ≤ gb416)); have n6_ := Aside0.mk ((by rw [hg]; exact (below_size (by repeat (first | (with_reducible first | exact HB.out | apply below_alloc | apply pw_below_drewN | apply below_drew1 | refine below_set ?_ GE406.out) | exact HB.out))) : w.heap.size ≤ gb416)); have n7_ := Aside0.mk ((by rw [hg]; exact Nat.ne_of_lt (blk_lt (g := gb406) (o := .cells #[.slice A0_0 l0_0.length c0_0, .slice A0_1 l0_1.length c0_1] 25 (0, 0)) (by (with_reducible repeat (first | refine blk_drewN ?_ _ | refine blk_drew ?_ | refine blk_alloc ?_ _)); exact BK406.out)) : gb406 ≠ gb416)); have n8_ := Aside0.mk ((by rw [hg]; exact Nat.ne_of_gt (blk_lt (g := gb406) (o := .cells #[.slice A0_0 l0_0.length c0_0, .slice A0_1 l0_1.length c0_1] 25 (0, 0)) (by (with_reducible repeat (first | refine blk_drewN ?_ _ | refine blk_drew ?_ | refine blk_alloc ?_ _)); exact BK406.out)) : gb416 ≠ gb406)); clear HO411; clear HO414; clear BK406; clear HB; have HO411 := n0_; have HO414 := n1_; have BK406 := n2_; have HB := n3_; have BK416 := n4_; have GW416 := n5_; have GE416 := n6_; have NB406_416 := n7_; have NB416_406 := n8_; clear n0_ n1_ n2_ n3_ n4_ n5_ n6_ n7_ n8_; clear hb hbox hg; obtain ⟨Ao65, co65, eo65⟩ := Kd.R_slice HO411.out; subst eo65; have hnb66 := NB416_406.out; have hnc66 := NB406_416.out; have hcz67_0 : w64.cell? ⟨gb416, 0, none⟩ = some (.slice none 0 0) := (blk_cell BK416.out 0).trans rfl; have hcz67_1 : w64.cell? ⟨gb416, 1, none⟩ = some (.slice none 0 0) := (blk_cell BK416.out 1).trans rfl; have hfz67_0 := blk_frozen BK416.out 0; have hfz67_1 := blk_frozen BK416.out 1; obtain ⟨Ao68, co68, eo68⟩ := Kd.S_slice HO414.out; subst eo68)))
    go_ret
    exact ⟨by first | rfl | (simp [errW_none, errW_some] <;> rfl) | (simp [*, errW_none, errW_some] <;> rfl), by repeat (first | (with_reducible first | exact HB.out | apply below_alloc | apply pw_below_drewN | apply below_drew1 | refine below_set ?_ GE406.out | refine below_set ?_ GE416.out) | exact HB.out)⟩
  ·replace c8 := Bool.eq_false_iff.mpr c8
   subst c8
   have H1 : (some true) = some r := by rw [if_neg (show ¬ (false = true) by decide)] at H; exact H
   clear H
   have H := H1
   clear H1
   obtain rfl := Option.some.inj H
   go_enter Try.func7, Try.ntmps7
   go_wp2_with (first | ((with_reducible refine gate_dst (N := 4) rfl ?_); (try (refine gate_guard (by rfl) ?_; dsimp only)); refine box_event ?hg (N := 4) ?hd (cs := #[.slice A0_0 l0_0.length c0_0, .slice A0_1 l0_1.length c0_1]) (t := 25) ?hr ?_; (case hd => rfl); (case hg => rfl); (case hr => first | (go_simp; done) | (go_simp; rfl)); intro gb406 hg w69 hbox hb; have n0_ := Aside0.mk (below_step (by repeat (first | (with_reducible first | exact HB.out | apply below_alloc | apply pw_below_drewN | apply below_drew1) | exact HB.out)) hb); have n1_ := Aside0.mk (hbox); have n2_ := Aside0.mk ((by rw [hg]; exact (below_size (by repeat (first | (with_reducible first | exact HB.out | apply below_alloc | apply pw_below_drewN | apply below_drew1) | exact HB.out))) : w.heap.size ≤ gb406)); have n3_ := Aside0.mk ((by rw [hg]; exact (below_size (by repeat (first | (with_reducible first | exact HB.out | apply below_alloc | apply pw_below_drewN | apply below_drew1) | exact HB.out))) : w.heap.size ≤ gb406)); clear HB; have HB := n0_; have BK406 := n1_; have GW406 := n2_; have GE406 := n3_; clear n0_ n1_ n2_ n3_; clear hb hbox hg) | (go_at_call 8; (with_reducible refine (tartanlaw13_works.calls k  true _ A5.out).mono ?_); rintro e w70 ⟨rfl, hb⟩; have n0_ := Aside0.mk (blk_below (g := gb406) (o := .cells #[.slice A0_0 l0_0.length c0_0, .slice A0_1 l0_1.length c0_1] 25 (0, 0)) (by (with_reducible repeat (first | refine blk_drewN ?_ _ | refine blk_drew ?_ | refine blk_alloc ?_ _)); exact BK406.out) hb); have n1_ := Aside0.mk (below_step (by repeat (first | (with_reducible first | exact HB.out | apply below_alloc | apply pw_below_drewN | apply below_drew1 | refine below_set ?_ GE406.out) | exact HB.out)) hb); clear BK406; clear HB; have BK406 := n0_; have HB := n1_; clear n0_ n1_; (try clear hb); (try clear hb2); (try clear hk); (try clear hi); have hcz71_0 : w70.cell? ⟨gb406, 0, none⟩ = some (.slice A0_0 l0_0.length c0_0) := (blk_cell BK406.out 0).trans rfl; have hcz71_1 : w70.cell? ⟨gb406, 1, none⟩ = some (.slice A0_1 l0_1.length c0_1) := (blk_cell BK406.out 1).trans rfl; have hfz71_0 := blk_frozen BK406.out 0; have hfz71_1 := blk_frozen BK406.out 1) | (go_at_call 9; (with_reducible refine (tartanref04_Few.calls k _ _ l0_0 _ _ l0_1 false _ ?side1 ?side2 ?side3 ?side4 A7.out).mono ?_); (case side1 => repeat (first | exact (Kd.C_below HR0_0.out HB.out) | (with_reducible refine Kd.C_alloc ?_ _) | (with_reducible refine Kd.C_drewN ?_ _) | (with_reducible refine Kd.C_drew ?_))); (case side2 => exact HC0_0.out); (case side3 => repeat (first | exact (Kd.C_below HR0_1.out HB.out) | (with_reducible refine Kd.C_alloc ?_ _) | (with_reducible refine Kd.C_drewN ?_ _) | (with_reducible refine Kd.C_drew ?_))); (case side4 => exact HC0_1.out); rintro e w72 ⟨rfl, hb⟩; have n0_ := Aside0.mk (blk_below (g := gb406) (o := .cells #[.slice A0_0 l0_0.length c0_0, .slice A0_1 l0_1.length c0_1] 25 (0, 0)) (by (with_reducible repeat (first | refine blk_drewN ?_ _ | refine blk_drew ?_ | refine blk_alloc ?_ _)); exact BK406.out) hb); have n1_ := Aside0.mk (below_step (by repeat (first | (with_reducible first | exact HB.out | apply below_alloc | apply pw_below_drewN | apply below_drew1 | refine below_set ?_ GE406.out) | exact HB.out)) hb); clear BK406; clear HB; have BK406 := n0_; have HB := n1_; clear n0_ n1_; (try clear hb); (try clear hb2); (try clear hk); (try clear hi)))
   repeat (go_quiet (first | ((with_reducible refine gate_dst (N := 4) rfl ?_); (try (refine gate_guard (by rfl) ?_; dsimp only)); refine box_event ?hg (N := 4) ?hd (cs := #[.slice A0_0 l0_0.length c0_0, .slice A0_1 l0_1.length c0_1]) (t := 25) ?hr ?_; (case hd => rfl); (case hg => rfl); (case hr => first | (go_simp; done) | (go_simp; rfl)); intro gb406 hg w69 hbox hb; have n0_ := Aside0.mk (below_step (by repeat (first | (with_reducible first | exact HB.out | apply below_alloc | apply pw_below_drewN | apply below_drew1) | exact HB.out)) hb); have n1_ := Aside0.mk (hbox); have n2_ := Aside0.mk ((by rw [hg]; exact (below_size (by repeat (first | (with_reducible first | exact HB.out | apply below_alloc | apply pw_below_drewN | apply below_drew1) | exact HB.out))) : w.heap.size ≤ gb406)); have n3_ := Aside0.mk ((by rw [hg]; exact (below_size (by repeat (first | (with_reducible first | exact HB.out | apply below_alloc | apply pw_below_drewN | apply below_drew1) | exact HB.out))) : w.heap.size ≤ gb406)); clear HB; have HB := n0_; have BK406 := n1_; have GW406 := n2_; have GE406 := n3_; clear n0_ n1_ n2_ n3_; clear hb hbox hg) | (go_at_call 8; (with_reducible refine (tartanlaw13_works.calls k  true _ A5.out).mono ?_); rintro e w70 ⟨rfl, hb⟩; have n0_ := Aside0.mk (blk_below (g := gb406) (o := .cells #[.slice A0_0 l0_0.length c0_0, .slice A0_1 l0_1.length c0_1] 25 (0, 0)) (by (with_reducible repeat (first | refine blk_drewN ?_ _ | refine blk_drew ?_ | refine blk_alloc ?_ _)); exact BK406.out) hb); have n1_ := Aside0.mk (below_step (by repeat (first | (with_reducible first | exact HB.out | apply below_alloc | apply pw_below_drewN | apply below_drew1 | refine below_set ?_ GE406.out) | exact HB.out)) hb); clear BK406; clear HB; have BK406 := n0_; have HB := n1_; clear n0_ n1_; (try clear hb); (try clear hb2); (try clear hk); (try clear hi); have hcz71_0 : w70.cell? ⟨gb406, 0, none⟩ = some (.slice A0_0 l0_0.length c0_0) := (blk_cell BK406.out 0).trans rfl; have hcz71_1 : w70.cell? ⟨gb406, 1, none⟩ = some (.slice A0_1 l0_1.length c0_1) := (blk_cell BK406.out 1).trans rfl; have hfz71_0 := blk_frozen BK406.out 0; have hfz71_1 := blk_frozen BK406.out 1) | (go_at_call 9; (with_reducible refine (tartanref04_Few.calls k _ _ l0_0 _ _ l0_1 false _ ?side1 ?side2 ?side3 ?side4 A7.out).mono ?_); (case side1 => repeat (first | exact (Kd.C_below HR0_0.out HB.out) | (with_reducible refine Kd.C_alloc ?_ _) | (with_reducible refine Kd.C_drewN ?_ _) | (with_reducible refine Kd.C_drew ?_))); (case side2 => exact HC0_0.out); (case side3 => repeat (first | exact (Kd.C_below HR0_1.out HB.out) | (with_reducible refine Kd.C_alloc ?_ _) | (with_reducible refine Kd.C_drewN ?_ _) | (with_reducible refine Kd.C_drew ?_))); (case side4 => exact HC0_1.out); rintro e w72 ⟨rfl, hb⟩; have n0_ := Aside0.mk (blk_below (g := gb406) (o := .cells #[.slice A0_0 l0_0.length c0_0, .slice A0_1 l0_1.length c0_1] 25 (0, 0)) (by (with_reducible repeat (first | refine blk_drewN ?_ _ | refine blk_drew ?_ | refine blk_alloc ?_ _)); exact BK406.out) hb); have n1_ := Aside0.mk (below_step (by repeat (first | (with_reducible first | exact HB.out | apply below_alloc | apply pw_below_drewN | apply below_drew1 | refine below_set ?_ GE406.out) | exact HB.out)) hb); clear BK406; clear HB; have BK406 := n0_; have HB := n1_; clear n0_ n1_; (try clear hb); (try clear hb2); (try clear hk); (try clear hi))); try go_wp2_with (first | ((with_reducible refine gate_dst (N := 4) rfl ?_); (try (refine gate_guard (by rfl) ?_; dsimp only)); refine box_event ?hg (N := 4) ?hd (cs := #[.slice A0_0 l0_0.length c0_0, .slice A0_1 l0_1.length c0_1]) (t := 25) ?hr ?_; (case hd => rfl); (case hg => rfl); (case hr => first | (go_simp; done) | (go_simp; rfl)); intro gb406 hg w69 hbox hb; have n0_ := Aside0.mk (below_step (by repeat (first | (with_reducible first | exact HB.out | apply below_alloc | apply pw_below_drewN | apply below_drew1) | exact HB.out)) hb); have n1_ := Aside0.mk (hbox); have n2_ := Aside0.mk ((by rw [hg]; exact (below_size (by repeat (first | (with_reducible first | exact HB.out | apply below_alloc | apply pw_below_drewN | apply below_drew1) | exact HB.out))) : w.heap.size ≤ gb406)); have n3_ := Aside0.mk ((by rw [hg]; exact (below_size (by repeat (first | (with_reducible first | exact HB.out | apply below_alloc | apply pw_below_drewN | apply below_drew1) | exact HB.out))) : w.heap.size ≤ gb406)); clear HB; have HB := n0_; have BK406 := n1_; have GW406 := n2_; have GE406 := n3_; clear n0_ n1_ n2_ n3_; clear hb hbox hg) | (go_at_call 8; (with_reducible refine (tartanlaw13_works.calls k  true _ A5.out).mono ?_); rintro e w70 ⟨rfl, hb⟩; have n0_ := Aside0.mk (blk_below (g := gb406) (o := .cells #[.slice A0_0 l0_0.length c0_0, .slice A0_1 l0_1.length c0_1] 25 (0, 0)) (by (with_reducible repeat (first | refine blk_drewN ?_ _ | refine blk_drew ?_ | refine blk_alloc ?_ _)); exact BK406.out) hb); have n1_ := Aside0.mk (below_step (by repeat (first | (with_reducible first | exact HB.out | apply below_alloc | apply pw_below_drewN | apply below_drew1 | refine below_set ?_ GE406.out) | exact HB.out)) hb); clear BK406; clear HB; have BK406 := n0_; have HB := n1_; clear n0_ n1_; (try clear hb); (try clear hb2); (try clear hk); (try clear hi); have hcz71_0 : w70.cell? ⟨gb406, 0, none⟩ = some (.slice A0_0 l0_0.length c0_0) := (blk_cell BK406.out 0).trans rfl; have hcz71_1 : w70.cell? ⟨gb406, 1, none⟩ = some (.slice A0_1 l0_1.length c0_1) := (blk_cell BK406.out 1).trans rfl; have hfz71_0 := blk_frozen BK406.out 0; have hfz71_1 := blk_frozen BK406.out 1) | (go_at_call 9; (with_reducible refine (tartanref04_Few.calls k _ _ l0_0 _ _ l0_1 false _ ?side1 ?side2 ?side3 ?side4 A7.out).mono ?_); (case side1 => repeat (first | exact (Kd.C_below HR0_0.out HB.out) | (with_reducible refine Kd.C_alloc ?_ _) | (with_reducible refine Kd.C_drewN ?_ _) | (with_reducible refine Kd.C_drew ?_))); (case side2 => exact HC0_0.out); (case side3 => repeat (first | exact (Kd.C_below HR0_1.out HB.out) | (with_reducible refine Kd.C_alloc ?_ _) | (with_reducible refine Kd.C_drewN ?_ _) | (with_reducible refine Kd.C_drew ?_))); (case side4 => exact HC0_1.out); rintro e w72 ⟨rfl, hb⟩; have n0_ := Aside0.mk (blk_below (g := gb406) (o := .cells #[.slice A0_0 l0_0.length c0_0, .slice A0_1 l0_1.length c0_1] 25 (0, 0)) (by (with_reducible repeat (first | refine blk_drewN ?_ _ | refine blk_drew ?_ | refine blk_alloc ?_ _)); exact BK406.out) hb); have n1_ := Aside0.mk (below_step (by repeat (first | (with_reducible first | exact HB.out | apply below_alloc | apply pw_below_drewN | apply below_drew1 | refine below_set ?_ GE406.out) | exact HB.out)) hb); clear BK406; clear HB; have BK406 := n0_; have HB := n1_; clear n0_ n1_; (try clear hb); (try clear hb2); (try clear hk); (try clear hi))))
   go_ret
   exact ⟨by first | rfl | (simp [errW_none, errW_some] <;> rfl) | (simp [*, errW_none, errW_some] <;> rfl), by repeat (first | (with_reducible first | exact HB.out | apply below_alloc | apply pw_below_drewN | apply below_drew1 | refine below_set ?_ GE406.out) | exact HB.out)⟩
 ·replace c6 := Bool.eq_false_iff.mpr c6
  subst c6
  have H1 : (some false) = some r := by rw [if_neg (show ¬ (false = true) by decide)] at H; exact H
  clear H
  have H := H1
  clear H1
  obtain rfl := Option.some.inj H
  go_enter Try.func7, Try.ntmps7
  go_wp2_with (first | ((with_reducible refine gate_dst (N := 4) rfl ?_); (try (refine gate_guard (by rfl) ?_; dsimp only)); refine box_event ?hg (N := 4) ?hd (cs := #[.slice A0_0 l0_0.length c0_0, .slice A0_1 l0_1.length c0_1]) (t := 25) ?hr ?_; (case hd => rfl); (case hg => rfl); (case hr => first | (go_simp; done) | (go_simp; rfl)); intro gb406 hg w73 hbox hb; have n0_ := Aside0.mk (below_step (by repeat (first | (with_reducible first | exact HB.out | apply below_alloc | apply pw_below_drewN | apply below_drew1) | exact HB.out)) hb); have n1_ := Aside0.mk (hbox); have n2_ := Aside0.mk ((by rw [hg]; exact (below_size (by repeat (first | (with_reducible first | exact HB.out | apply below_alloc | apply pw_below_drewN | apply below_drew1) | exact HB.out))) : w.heap.size ≤ gb406)); have n3_ := Aside0.mk ((by rw [hg]; exact (below_size (by repeat (first | (with_reducible first | exact HB.out | apply below_alloc | apply pw_below_drewN | apply below_drew1) | exact HB.out))) : w.heap.size ≤ gb406)); clear HB; have HB := n0_; have BK406 := n1_; have GW406 := n2_; have GE406 := n3_; clear n0_ n1_ n2_ n3_; clear hb hbox hg) | (go_at_call 8; (with_reducible refine (tartanlaw13_works.calls k  false _ A5.out).mono ?_); rintro e w74 ⟨rfl, hb⟩; have n0_ := Aside0.mk (blk_below (g := gb406) (o := .cells #[.slice A0_0 l0_0.length c0_0, .slice A0_1 l0_1.length c0_1] 25 (0, 0)) (by (with_reducible repeat (first | refine blk_drewN ?_ _ | refine blk_drew ?_ | refine blk_alloc ?_ _)); exact BK406.out) hb); have n1_ := Aside0.mk (below_step (by repeat (first | (with_reducible first | exact HB.out | apply below_alloc | apply pw_below_drewN | apply below_drew1 | refine below_set ?_ GE406.out) | exact HB.out)) hb); clear BK406; clear HB; have BK406 := n0_; have HB := n1_; clear n0_ n1_; (try clear hb); (try clear hb2); (try clear hk); (try clear hi)))
  repeat (go_quiet (first | ((with_reducible refine gate_dst (N := 4) rfl ?_); (try (refine gate_guard (by rfl) ?_; dsimp only)); refine box_event ?hg (N := 4) ?hd (cs := #[.slice A0_0 l0_0.length c0_0, .slice A0_1 l0_1.length c0_1]) (t := 25) ?hr ?_; (case hd => rfl); (case hg => rfl); (case hr => first | (go_simp; done) | (go_simp; rfl)); intro gb406 hg w73 hbox hb; have n0_ := Aside0.mk (below_step (by repeat (first | (with_reducible first | exact HB.out | apply below_alloc | apply pw_below_drewN | apply below_drew1) | exact HB.out)) hb); have n1_ := Aside0.mk (hbox); have n2_ := Aside0.mk ((by rw [hg]; exact (below_size (by repeat (first | (with_reducible first | exact HB.out | apply below_alloc | apply pw_below_drewN | apply below_drew1) | exact HB.out))) : w.heap.size ≤ gb406)); have n3_ := Aside0.mk ((by rw [hg]; exact (below_size (by repeat (first | (with_reducible first | exact HB.out | apply below_alloc | apply pw_below_drewN | apply below_drew1) | exact HB.out))) : w.heap.size ≤ gb406)); clear HB; have HB := n0_; have BK406 := n1_; have GW406 := n2_; have GE406 := n3_; clear n0_ n1_ n2_ n3_; clear hb hbox hg) | (go_at_call 8; (with_reducible refine (tartanlaw13_works.calls k  false _ A5.out).mono ?_); rintro e w74 ⟨rfl, hb⟩; have n0_ := Aside0.mk (blk_below (g := gb406) (o := .cells #[.slice A0_0 l0_0.length c0_0, .slice A0_1 l0_1.length c0_1] 25 (0, 0)) (by (with_reducible repeat (first | refine blk_drewN ?_ _ | refine blk_drew ?_ | refine blk_alloc ?_ _)); exact BK406.out) hb); have n1_ := Aside0.mk (below_step (by repeat (first | (with_reducible first | exact HB.out | apply below_alloc | apply pw_below_drewN | apply below_drew1 | refine below_set ?_ GE406.out) | exact HB.out)) hb); clear BK406; clear HB; have BK406 := n0_; have HB := n1_; clear n0_ n1_; (try clear hb); (try clear hb2); (try clear hk); (try clear hi))); try go_wp2_with (first | ((with_reducible refine gate_dst (N := 4) rfl ?_); (try (refine gate_guard (by rfl) ?_; dsimp only)); refine box_event ?hg (N := 4) ?hd (cs := #[.slice A0_0 l0_0.length c0_0, .slice A0_1 l0_1.length c0_1]) (t := 25) ?hr ?_; (case hd => rfl); (case hg => rfl); (case hr => first | (go_simp; done) | (go_simp; rfl)); intro gb406 hg w73 hbox hb; have n0_ := Aside0.mk (below_step (by repeat (first | (with_reducible first | exact HB.out | apply below_alloc | apply pw_below_drewN | apply below_drew1) | exact HB.out)) hb); have n1_ := Aside0.mk (hbox); have n2_ := Aside0.mk ((by rw [hg]; exact (below_size (by repeat (first | (with_reducible first | exact HB.out | apply below_alloc | apply pw_below_drewN | apply below_drew1) | exact HB.out))) : w.heap.size ≤ gb406)); have n3_ := Aside0.mk ((by rw [hg]; exact (below_size (by repeat (first | (with_reducible first | exact HB.out | apply below_alloc | apply pw_below_drewN | apply below_drew1) | exact HB.out))) : w.heap.size ≤ gb406)); clear HB; have HB := n0_; have BK406 := n1_; have GW406 := n2_; have GE406 := n3_; clear n0_ n1_ n2_ n3_; clear hb hbox hg) | (go_at_call 8; (with_reducible refine (tartanlaw13_works.calls k  false _ A5.out).mono ?_); rintro e w74 ⟨rfl, hb⟩; have n0_ := Aside0.mk (blk_below (g := gb406) (o := .cells #[.slice A0_0 l0_0.length c0_0, .slice A0_1 l0_1.length c0_1] 25 (0, 0)) (by (with_reducible repeat (first | refine blk_drewN ?_ _ | refine blk_drew ?_ | refine blk_alloc ?_ _)); exact BK406.out) hb); have n1_ := Aside0.mk (below_step (by repeat (first | (with_reducible first | exact HB.out | apply below_alloc | apply pw_below_drewN | apply below_drew1 | refine below_set ?_ GE406.out) | exact HB.out)) hb); clear BK406; clear HB; have BK406 := n0_; have HB := n1_; clear n0_ n1_; (try clear hb); (try clear hb2); (try clear hk); (try clear hi))))
  go_ret
  exact ⟨by first | rfl | (simp [errW_none, errW_some] <;> rfl) | (simp [*, errW_none, errW_some] <;> rfl), by repeat (first | (with_reducible first | exact HB.out | apply below_alloc | apply pw_below_drewN | apply below_drew1 | refine below_set ?_ GE406.out) | exact HB.out)⟩
end Go.Proofs.Ytoefeboikkhdkaa.X
end
section
namespace Go.Proofs.Ytoefeboikkhdkaa.X.Gr
open Go.RowKit Go.Proofs.YtoefeboikkhdkaaW.PrintWords
set_option linter.unusedVariables false
end Go.Proofs.Ytoefeboikkhdkaa.X.Gr
end
section
namespace Go.Proofs.Ytoefeboikkhdkaa.X.Gr
open Go.RowKit Go.Proofs.YtoefeboikkhdkaaW.PrintWords
set_option linter.unusedVariables false
theorem mem_sortC {l : List SC} {x : SC} : x ∈ sortC l ↔ x ∈ l := (perm_isort leC l).mem_iff
theorem fold_from (L : List SC) : ∀ (out : List PS) (z : PS), z ∈ L.foldl stepK out → z ∈ out ∨ ∃ x ∈ L, z = ⟨x.f0, x.f1⟩ ∧ 0 ≤ x.f0 ∧ 0 ≤ x.f1 := by
  induction L with
  | nil => intro out z h; exact .inl h
  | cons x L ih =>
    intro out z h
    rcases ih _ _ h with h | ⟨y, hy, e⟩
    · unfold stepK at h
      split at h
      · exact .inl h
      · rename_i hc
        rcases List.mem_append.1 h with h | h
        · exact .inl h
        · simp only [List.mem_singleton] at h
          exact .inr ⟨x, List.mem_cons_self, h, by omega, by omega⟩
    · exact .inr ⟨y, List.mem_cons_of_mem _ hy, e⟩
theorem pickL_from {l : List SC} {z : PS} (h : z ∈ pickL l) : ∃ x ∈ l, z = ⟨x.f0, x.f1⟩ ∧ 0 ≤ x.f0 ∧ 0 ≤ x.f1 := by
  rcases fold_from _ _ _ h with h | ⟨x, hx, e⟩
  · cases h
  · exact ⟨x, mem_sortC.1 hx, e⟩
theorem mem_pick {l : List SC} {z : PS} : z ∈ pickR l ↔ z ∈ pickL l := mem_fold
theorem pickL_nd1 (l : List SC) : ((pickL l).map (·.f1)).Nodup := by have := atK_nd l l.length; rwa [atK_all] at this
theorem pick_pm (l : List SC) : (pickR l).Perm (pickL l) := by
  have := perm_fold (pickL l) []
  rwa [List.append_nil] at this
theorem pick_str (l : List SC) : StrB (pickR l) := str_of (sort_fold _ _ List.Pairwise.nil) (((pick_pm l).map (·.f1)).symm.nodup (pickL_nd1 l))
theorem pick_len (l : List SC) : (pickR l).length ≤ l.length := by
  have h1 := (pick_pm l).length_eq
  have h2 := atK_len l l.length
  rw [atK_all] at h2
  omega
end Go.Proofs.Ytoefeboikkhdkaa.X.Gr
end
section
namespace Go.Proofs.Ytoefeboikkhdkaa.X
open Go.RowKit Go.Proofs.YtoefeboikkhdkaaW.PrintWords
set_option linter.unusedVariables false
set_option maxRecDepth 100000 in
theorem works13 : ∀ k, tartanlaw13_works.f (k + 60) = some true := by intro k; kernel_rfl
theorem fuel13 : ∃ k : Nat, 1000000000 ≤ k := ⟨1000000000, Nat.le_refl _⟩
/-- Where a name is, the first time; -1: nowhere. -/
def findF : List ByteArray → ByteArray → Nat → Int
  | [], _, _ => -1
  | x :: r, s, i => if x = s then (i : Int) else findF r s (i + 1)
def findR (l : List ByteArray) (s : ByteArray) : Int := findF l s 0
theorem rdB_get {l : List ByteArray} {i : Nat} (h : i < l.length) : rdB l (i : Int) = l[i] := by
  show l.getD i _ = _
  rw [List.getD_eq_getElem?_getD, List.getElem?_eq_getElem h]; rfl
theorem findF_at (l : List ByteArray) (s : ByteArray) : ∀ (d i : Nat), i + d = l.length → (∀ j : Nat, j < i → rdB l (j : Int) ≠ s) → FindAt l s (findF (l.drop i) s i) := by
  intro d
  induction d with
  | zero =>
    intro i hi h
    rw [List.drop_eq_nil_of_le (by omega)]
    exact .inl ⟨rfl, fun j hj => h j (by omega)⟩
  | succ d ih =>
    intro i hi h
    rw [List.drop_eq_getElem_cons (by omega)]
    show FindAt l s (if l[i] = s then (i : Int) else findF (l.drop (i + 1)) s (i + 1))
    by_cases e : l[i] = s
    · rw [if_pos e]
      exact .inr ⟨i, rfl, by omega, by rw [rdB_get (by omega)]; exact e, h⟩
    · rw [if_neg e]
      refine ih (i + 1) (by omega) (fun j hj => ?_)
      rcases Nat.lt_or_ge j i with h1 | h1
      · exact h j h1
      · obtain rfl : j = i := by omega
        rw [rdB_get (by omega)]; exact e
theorem findAt_R (l : List ByteArray) (s : ByteArray) : FindAt l s (findR l s) := by
  have := findF_at l s l.length 0 (by omega) (fun j hj => by omega)
  rwa [List.drop_zero] at this
theorem find_R (l : List ByteArray) (rows : List (List ByteArray)) (s : ByteArray) (hl : l.length ≤ 1000) {k : Nat} (hk : 2000 ≤ k) : table_Find.f k l rows s = some (findR l s) := by
  obtain ⟨r, h1, h2⟩ := find_some l rows s hl hk
  rw [h2, h1.uniq (findAt_R l s)]
theorem findR_pos {l : List ByteArray} {s : ByteArray} (h : 0 ≤ findR l s) : ∃ i : Nat, findR l s = i ∧ ∃ hi : i < l.length, l[i] = s := by
  rcases findAt_R l s with ⟨e, _⟩ | ⟨i, e, hi, he, _⟩
  · omega
  · exact ⟨i, e, hi, by rw [← rdB_get hi]; exact he⟩
theorem findR_mem {l : List ByteArray} {s : ByteArray} : 0 ≤ findR l s ↔ s ∈ l := by
  constructor
  · intro h
    obtain ⟨i, _, hi, e⟩ := findR_pos h
    rw [← e]; exact List.getElem_mem hi
  · intro h
    rcases findAt_R l s with ⟨_, hn⟩ | ⟨i, e, _, _, _⟩
    · obtain ⟨j, hj, e⟩ := List.getElem_of_mem h
      exact absurd (by rw [rdB_get hj]; exact e) (hn j hj)
    · rw [e]; exact Int.natCast_nonneg i
/-- The columns of the same name, of the first so many. -/
def nameQ (ha hb : List ByteArray) (q : Nat) : List PS := if 0 ≤ findR ha (rdB hb (q : Int)) then [⟨findR ha (rdB hb (q : Int)), (q : Int)⟩] else []
def nameK (ha hb : List ByteArray) (n : Nat) : List PS := (List.range n).flatMap (nameQ ha hb)
def namedR (ha hb : List ByteArray) : List PS := nameK ha hb hb.length
theorem nameK_succ (ha hb : List ByteArray) (n : Nat) : nameK ha hb (n + 1) = nameK ha hb n ++ nameQ ha hb n := by unfold nameK; rw [List.range_succ, List.flatMap_append]; simp
theorem nameK_len (ha hb : List ByteArray) : ∀ n, (nameK ha hb n).length ≤ n
  | 0 => by simp [nameK]
  | n + 1 => by
    have h1 := nameK_len ha hb n
    have h2 : (nameQ ha hb n).length ≤ 1 := by unfold nameQ; split <;> simp
    rw [nameK_succ, List.length_append]; omega
theorem mem_nameK {ha hb : List ByteArray} {n : Nat} {z : PS} : z ∈ nameK ha hb n ↔ ∃ q : Nat, q < n ∧ 0 ≤ findR ha (rdB hb (q : Int)) ∧ z = ⟨findR ha (rdB hb (q : Int)), (q : Int)⟩ := by
  unfold nameK
  rw [List.mem_flatMap]
  constructor
  · rintro ⟨q, hq, hz⟩
    unfold nameQ at hz
    split at hz
    · rename_i h
      exact ⟨q, List.mem_range.1 hq, h, List.mem_singleton.1 hz⟩
    · cases hz
  · rintro ⟨q, hq, h, rfl⟩
    refine ⟨q, List.mem_range.2 hq, ?_⟩
    unfold nameQ
    rw [if_pos h]; simp
theorem named_l0 (ha : List ByteArray) (ra : List (List ByteArray)) (hb : List ByteArray) (h1 : ha.length ≤ 1000) (h2 : hb.length ≤ 1000) : ∀ (d k i : Nat), i + d = hb.length → d + 2000 < k → cols_Named.l0 k (nameK ha hb i) hb (hb.length : Int) (i : Nat) ha ra = some (namedR ha hb) := by
  intro d
  induction d with
  | zero =>
    intro k i hi hk
    obtain ⟨k, rfl⟩ : ∃ m, k = m + 1 := ⟨k - 1, by omega⟩
    simp only [cols_Named.l0]
    rw [if_neg (by omega), show i = hb.length by omega]; rfl
  | succ d ih =>
    intro k i hi hk
    obtain ⟨k, rfl⟩ : ∃ m, k = m + 1 := ⟨k - 1, by omega⟩
    have hl := nameK_len ha hb i
    have hI := ih k (i + 1) (by omega) (by omega)
    rw [nameK_succ] at hI
    simp only [cols_Named.l0]
    rw [if_pos (by omega), if_pos (by omega), if_pos (by omega), find_R _ _ _ h1 (by omega), Option.bind_some, wrap_upF _ (by omega)]
    unfold nameQ at hI
    split
    · rename_i h
      rw [if_pos h] at hI
      rw [if_pos (by omega)]; exact hI
    · rename_i h
      rw [if_neg (by omega), List.append_nil] at hI
      exact hI
theorem named_some (ha : List ByteArray) (ra : List (List ByteArray)) (hb : List ByteArray) (rb : List (List ByteArray)) (h1 : ha.length ≤ 100) (h2 : hb.length ≤ 100) {k : Nat} (hk : 2200 ≤ k) : cols_Named.f k ha ra hb rb = some (namedR ha hb) :=
  named_l0 ha ra hb (by omega) (by omega) hb.length k 0 (by omega) (by omega)
theorem nameK_str (ha hb : List ByteArray) : ∀ n, Gr.StrB (nameK ha hb n)
  | 0 => by simp [nameK, Gr.StrB]
  | n + 1 => by
    rw [nameK_succ]
    refine List.pairwise_append.2 ⟨nameK_str ha hb n, by unfold nameQ; split <;> simp, fun a h1 b h2 => ?_⟩
    obtain ⟨q, hq, _, rfl⟩ := mem_nameK.1 h1
    unfold nameQ at h2
    split at h2
    · rw [List.mem_singleton.1 h2]
      show (q : Int) < (n : Int)
      omega
    · cases h2
theorem str_nd1 {l : List PS} (h : Gr.StrB l) : (l.map (·.f1)).Nodup := by
  rw [List.Nodup, List.pairwise_map]
  exact h.imp (fun h e => by have h' := h; have : (_ : PS).f1 < _ := h'; omega)
theorem named_at {ha hb : List ByteArray} {z : PS} (h : z ∈ namedR ha hb) : ∃ (i q : Nat) (hi : i < ha.length) (hq : q < hb.length), z = ⟨(i : Int), (q : Int)⟩ ∧ ha[i] = hb[q] := by
  obtain ⟨q, hq, h0, rfl⟩ := mem_nameK.1 h
  obtain ⟨i, e, hi, he⟩ := findR_pos h0
  exact ⟨i, q, hi, hq, by rw [e], by rw [he, rdB_get hq]⟩
theorem wf_small {x : Int} (h0 : 0 ≤ x) (h1 : x ≤ 1000000) : (Lit.int .i64 x).wf = true := by
  simp [Lit.wf, IntKind.min, IntKind.max, IntKind.signed, IntKind.bits]
  omega
theorem named_ok (ha hb : List ByteArray) (h1 : ha.length ≤ 100) (h2 : hb.length ≤ 100) : okP (namedR ha hb) = true := by
  have hl := nameK_len ha hb hb.length
  unfold okP
  rw [Bool.and_eq_true]
  refine ⟨decide_eq_true (by show (nameK ha hb hb.length).length ≤ _; omega), List.all_eq_true.2 fun z hz => ?_⟩
  obtain ⟨i, q, hi, hq, rfl, _⟩ := named_at hz
  show ((Lit.int .i64 (i : Int)).wf && (Lit.int .i64 (q : Int)).wf) = true
  rw [wf_small (by omega) (by omega), wf_small (by omega) (by omega)]; rfl
theorem mem_restR {xs : List Int} {n : Nat} {x : Int} : x ∈ restR xs n ↔ 0 ≤ x ∧ x < (n : Int) ∧ x ∉ xs := by
  unfold restR
  rw [List.mem_flatMap]
  constructor
  · rintro ⟨i, hi, hx⟩
    have hi' := List.mem_range.1 hi
    split at hx
    · rename_i h0
      simp only [List.mem_singleton] at hx
      subst hx
      exact ⟨by omega, by omega, List.count_eq_zero.1 h0⟩
    · simp at hx
  · rintro ⟨h0, h1, h2⟩
    refine ⟨x.toNat, List.mem_range.2 (by omega), ?_⟩
    have e : ((x.toNat : Nat) : Int) = x := by omega
    rw [e, if_pos (List.count_eq_zero.2 h2)]; simp
theorem mayR_iff {n : Int} {ra rb : Nat} (h0 : 0 ≤ n) (h1 : n ≤ 1000000) : mayR n ra rb = true ↔ (ra : Int) < wrap64 (2 * n) ∧ (rb : Int) < wrap64 (2 * n) := by
  unfold mayR
  rw [decide_eq_true_eq]
  omega
theorem score_le (ha : List ByteArray) (ra : List (List ByteArray)) (hb : List ByteArray) (rb : List (List ByteArray)) (x : Int × Int) : 0 ≤ scoreT ha ra hb rb x ∧ scoreT ha ra hb rb x ≤ ra.length := by
  unfold scoreT
  rw [Ba.ovl_eq]
  have h1 := Ba.ov2_le (Ba.BT (columnT ha ra x.1)) (Ba.BT (columnT hb rb x.2))
  have h2 := columnT_len ha ra x.1
  rw [List.length_map] at h1
  omega
/-- What is in no pair of the same name. -/
def psR (ha hb : List ByteArray) : List Int := restR ((namedR ha hb).map (·.f0)) ha.length
def qsR (ha hb : List ByteArray) : List Int := restR ((namedR ha hb).map (·.f1)) hb.length
def chR' (ha : List ByteArray) (ra : List (List ByteArray)) (hb : List ByteArray) (rb : List (List ByteArray)) : List Gr.SC := chosR ha ra hb rb (leftR (psR ha hb) (qsR ha hb))
theorem psR_len (ha hb : List ByteArray) : (psR ha hb).length ≤ ha.length := restR_le _ _
theorem qsR_len (ha hb : List ByteArray) : (qsR ha hb).length ≤ hb.length := restR_le _ _
theorem choice_at {ha : List ByteArray} {ra : List (List ByteArray)} {hb : List ByteArray} {rb : List (List ByteArray)} {x : Gr.SC} (h : x ∈ chR' ha ra hb rb) : x.f0 ∈ psR ha hb ∧ x.f1 ∈ qsR ha hb := by
  unfold chR' chosR at h
  obtain ⟨y, hy, hx⟩ := List.mem_flatMap.1 h
  unfold leftR at hy
  obtain ⟨p, hp, hy⟩ := List.mem_flatMap.1 hy
  obtain ⟨q, hq, rfl⟩ := List.mem_map.1 hy
  unfold chR at hx
  split at hx
  · rw [List.mem_singleton.1 hx]; exact ⟨hp, hq⟩
  · cases hx
theorem choice_len (ha : List ByteArray) (ra : List (List ByteArray)) (hb : List ByteArray) (rb : List (List ByteArray)) (h3 : ha.length ≤ 100) (h4 : hb.length ≤ 100) : (chR' ha ra hb rb).length ≤ 10000 := by
  refine Nat.le_trans (chosR_len ha ra hb rb _) ?_
  rw [leftR_len]
  have g1 := psR_len ha hb
  have g2 := qsR_len ha hb
  have := Nat.mul_le_mul (show (psR ha hb).length ≤ 100 by omega) (show (qsR ha hb).length ≤ 100 by omega)
  omega
theorem choice_ok (ha : List ByteArray) (ra : List (List ByteArray)) (hb : List ByteArray) (rb : List (List ByteArray)) (h3 : ha.length ≤ 100) (h4 : hb.length ≤ 100) : Gr.okC (chR' ha ra hb rb) = true := by
  have hl := choice_len ha ra hb rb h3 h4
  unfold Gr.okC
  rw [Bool.and_eq_true]
  refine ⟨decide_eq_true (by omega), List.all_eq_true.2 fun x hx => ?_⟩
  obtain ⟨h1, h2⟩ := choice_at hx
  have g1 := mem_restR.1 h1
  have g2 := mem_restR.1 h2
  rw [wf_small (by omega) (by omega), wf_small (by omega) (by omega)]; rfl
/-- Those that may be renamed. -/
def moreR (ha : List ByteArray) (ra : List (List ByteArray)) (hb : List ByteArray) (rb : List (List ByteArray)) : List PS := Gr.pickR (chR' ha ra hb rb)
theorem more_at {ha : List ByteArray} {ra : List (List ByteArray)} {hb : List ByteArray} {rb : List (List ByteArray)} {z : PS} (h : z ∈ moreR ha ra hb rb) : z.f0 ∈ psR ha hb ∧ z.f1 ∈ qsR ha hb := by
  obtain ⟨x, hx, rfl, _, _⟩ := Gr.pickL_from (Gr.mem_pick.1 h)
  exact choice_at hx
theorem all_nd1 (ha : List ByteArray) (ra : List (List ByteArray)) (hb : List ByteArray) (rb : List (List ByteArray)) : ((namedR ha hb ++ moreR ha ra hb rb).map (·.f1)).Nodup := by
  rw [List.map_append, List.nodup_append]
  refine ⟨str_nd1 (nameK_str ha hb _), str_nd1 (Gr.pick_str _), fun a h1 b h2 e => ?_⟩
  subst e
  obtain ⟨z, hz, rfl⟩ := List.mem_map.1 h2
  exact (mem_restR.1 (more_at hz).2).2.2 h1
theorem turn_perm (x : List PS) : (turnR x).Perm (x.map swp) := by
  have := Gr.perm_fold (x.map swp) []
  rw [List.append_nil] at this
  exact this
theorem swp_swp (x : List PS) : (x.map swp).map swp = x := by
  rw [List.map_map]
  have : swp ∘ swp = id := by funext p; rfl
  rw [this, List.map_id]
theorem turn_turn (x : List PS) : (turnR (turnR x)).Perm x := by
  have h1 := turn_perm (turnR x)
  have h2 := (turn_perm x).map swp
  rw [swp_swp] at h2
  exact h1.trans h2
theorem turn_sort (x : List PS) : Gr.SortB (turnR x) := Gr.sort_fold _ _ List.Pairwise.nil
/-- Columns that are the same, in order. -/
def bothR (ha : List ByteArray) (ra : List (List ByteArray)) (hb : List ByteArray) (rb : List (List ByteArray)) : List PS := turnR (turnR (namedR ha hb ++ moreR ha ra hb rb))
theorem both_fold (ha : List ByteArray) (ra : List (List ByteArray)) (hb : List ByteArray) (rb : List (List ByteArray)) : bothR ha ra hb rb = (moreR ha ra hb rb).foldl Gr.putP (namedR ha hb) := by
  have h1 := Gr.fold_unique (turn_turn (namedR ha hb ++ moreR ha ra hb rb)) (turn_sort _) (all_nd1 ha ra hb rb)
  have hs : Gr.SortB (namedR ha hb) := (nameK_str ha hb _).imp (fun h => by omega)
  have h2 := Gr.fold_unique (l := namedR ha hb ++ moreR ha ra hb rb) ((Gr.perm_fold (moreR ha ra hb rb) (namedR ha hb)).trans List.perm_append_comm) (Gr.sort_fold _ _ hs) (all_nd1 ha ra hb rb)
  exact h1.trans h2.symm
/-- What Align tells. -/
def alignR (ha : List ByteArray) (ra : List (List ByteArray)) (hb : List ByteArray) (rb : List (List ByteArray)) (rename : Bool) : List PS × Int :=
  if checkT ha ra ≠ 0 then ([], checkT ha ra) else if checkT hb rb ≠ 0 then ([], checkT hb rb) else if rename = true then (bothR ha ra hb rb, 0) else (namedR ha hb, 0)
theorem more_len (ha : List ByteArray) (ra : List (List ByteArray)) (hb : List ByteArray) (rb : List (List ByteArray)) (h3 : ha.length ≤ 100) (h4 : hb.length ≤ 100) : (moreR ha ra hb rb).length ≤ 10000 := Nat.le_trans (Gr.pick_len _) (choice_len ha ra hb rb h3 h4)
theorem align_some {ha : List ByteArray} {ra : List (List ByteArray)} {hb : List ByteArray} {rb : List (List ByteArray)} (sa : Sm ha ra) (sb : Sm hb rb) (oa : okT ha ra = true) (ob : okT hb rb = true) (ca : okCells ra = true) (cb : okCells rb = true) (rename : Bool) : cols_Align.f ha ra hb rb rename = some (alignR ha ra hb rb rename) := by
  have h1 := sa.h
  have h2 := sa.r
  have h3 := sb.h
  have h4 := sb.r
  have g1 := psR_len ha hb
  have g2 := qsR_len ha hb
  have hl : (namedR ha hb).length ≤ hb.length := nameK_len ha hb hb.length
  have hok := named_ok ha hb h1 h3
  unfold cols_Align.f alignR
  rw [if_pos ⟨oa, ob⟩]
  split
  · rfl
  · split
    · rfl
    · rw [named_some ha ra hb rb h1 h3 (by omega), Option.bind_some]
      split
      · unfold alignK
        rw [show pairs_RestA.f (namedR ha hb) ha.length = some (psR ha hb) from if_pos ⟨hok, by omega⟩, Option.bind_some, show pairs_RestB.f (namedR ha hb) hb.length = some (qsR ha hb) from if_pos ⟨hok, by omega⟩, Option.bind_some,
          if_pos ⟨⟨ca, cb⟩, ⟨by omega, by omega⟩, by omega, by omega, by omega⟩, show Gr.greedy_Pick.f (chosR ha ra hb rb (leftR (psR ha hb) (qsR ha hb))) = some (moreR ha ra hb rb) from if_pos (choice_ok ha ra hb rb h1 h3), Option.bind_some,
          if_pos (more_len ha ra hb rb h1 h3), Option.bind_some]
        rfl
      · rfl
end Go.Proofs.Ytoefeboikkhdkaa.X
end
section
namespace Go.Proofs.Ytoefeboikkhdkaa.X
open Go.RowKit Go.Proofs.YtoefeboikkhdkaaW.PrintWords
set_option linter.unusedVariables false
theorem okCells_of {x : S25} (h : okT25 x) : okCells x.f1 = true := by
  unfold okCells
  exact List.all_eq_true.2 fun r hr => List.all_eq_true.2 fun s hs => decide_eq_true ((h.2.2 r hr).2 s hs)
end Go.Proofs.Ytoefeboikkhdkaa.X
end
section
namespace Go.Proofs.Ytoefeboikkhdkaa.X
open Go.RowKit Go.Proofs.YtoefeboikkhdkaaW.PrintWords
set_option linter.unusedVariables false
theorem check_ndE {hd : List ByteArray} {rows : List (List ByteArray)} (h : checkT hd rows = 0) : hd.Nodup := by
  rw [check_eq] at h
  split at h
  · cases h
  · split at h
    · cases h
    · split at h
      · assumption
      · cases h
theorem find_at {l : List ByteArray} (hn : l.Nodup) {i : Nat} (hi : i < l.length) {s : ByteArray} (e : l[i] = s) : findR l s = i := by
  have hm : 0 ≤ findR l s := findR_mem.2 (by rw [← e]; exact List.getElem_mem hi)
  obtain ⟨j, ej, hj, he⟩ := findR_pos hm
  have : j = i := (List.getElem_inj hn).1 (he.trans e.symm)
  rw [ej, this]
theorem more_nil {ha : List ByteArray} {ra : List (List ByteArray)} {hb : List ByteArray} {rb : List (List ByteArray)} (h : psR ha hb = []) : moreR ha ra hb rb = [] := by
  refine List.eq_nil_iff_forall_not_mem.2 fun z hz => ?_
  have := (more_at hz).1
  rw [h] at this
  cases this
theorem both_nil {ha : List ByteArray} {ra : List (List ByteArray)} {hb : List ByteArray} {rb : List (List ByteArray)} (h : moreR ha ra hb rb = []) : bothR ha ra hb rb = namedR ha hb := by rw [both_fold, h]; rfl
theorem ps_nil {ha hb : List ByteArray} (hna : ha.Nodup) (h : ∀ x ∈ ha, x ∈ hb) : psR ha hb = [] := by
  refine List.eq_nil_iff_forall_not_mem.2 fun x hx => ?_
  obtain ⟨h0, h1, h2⟩ := mem_restR.1 hx
  obtain ⟨i, rfl⟩ : ∃ i : Nat, x = i := ⟨x.toNat, by omega⟩
  have hi : i < ha.length := by omega
  obtain ⟨q, hq, e⟩ := List.getElem_of_mem (h _ (List.getElem_mem hi))
  have hf : findR ha (rdB hb (q : Int)) = i := find_at hna hi (by rw [rdB_get hq, e])
  exact h2 (List.mem_map.2 ⟨⟨findR ha (rdB hb (q : Int)), (q : Int)⟩, mem_nameK.2 ⟨q, hq, by rw [hf]; exact Int.natCast_nonneg i, rfl⟩, hf⟩)
theorem align_zero {ha : List ByteArray} {ra : List (List ByteArray)} {hb : List ByteArray} {rb : List (List ByteArray)} {rename : Bool} (h1 : checkT ha ra = 0) (h2 : checkT hb rb = 0) : alignR ha ra hb rb rename = (if rename = true then bothR ha ra hb rb else namedR ha hb, 0) := by
  unfold alignR
  rw [if_neg (fun h => h h1), if_neg (fun h => h h2)]
  split <;> rfl
/-- A column with another name. -/
structure Ren (hd : List ByteArray) (a : Nat) (s : ByteArray) : Prop where
  n0 : hd.Nodup
  n1 : (hd.set a s).Nodup
  lt : a < hd.length
  ne : hd[a] ≠ s
section
variable {hd : List ByteArray} {a : Nat} {s : ByteArray}
theorem Ren.notin (h : Ren hd a s) : s ∉ hd := by
  intro hm
  obtain ⟨i, hi, e⟩ := List.getElem_of_mem hm
  by_cases hia : i = a
  · subst hia; exact h.ne e
  · have h1 : (hd.set a s)[i]'(by rw [List.length_set]; exact hi) = s := by rw [List.getElem_set_ne (fun e => hia e.symm)]; exact e
    have h2 : (hd.set a s)[a]'(by rw [List.length_set]; exact h.lt) = s := by rw [List.getElem_set_self]
    exact hia ((List.getElem_inj h.n1).1 (h1.trans h2.symm))
theorem Ren.find (h : Ren hd a s) {q : Nat} (hq : q < hd.length) : if q = a then findR hd (rdB (hd.set a s) (q : Int)) < 0 else findR hd (rdB (hd.set a s) (q : Int)) = q := by
  have hq' : q < (hd.set a s).length := by rw [List.length_set]; exact hq
  rw [rdB_get hq']
  split
  · rename_i e
    subst e
    rw [List.getElem_set_self]
    exact Int.not_le.1 fun h0 => h.notin (findR_mem.1 h0)
  · rename_i e
    exact find_at h.n0 hq (by rw [List.getElem_set_ne (fun e2 => e e2.symm)])
theorem Ren.name (h : Ren hd a s) {q : Nat} (hq : q < hd.length) : nameQ hd (hd.set a s) q = if q = a then [] else [⟨(q : Int), (q : Int)⟩] := by
  have := h.find hq
  unfold nameQ
  split at this
  · rename_i e
    rw [if_pos e, if_neg (by omega)]
  · rename_i e
    rw [if_neg e, this, if_pos (Int.natCast_nonneg q)]
theorem Ren.len (h : Ren hd a s) : ∀ m, m ≤ hd.length → (nameK hd (hd.set a s) m).length + (if a < m then 1 else 0) = m
  | 0, _ => by simp [nameK]
  | m + 1, hm => by
    have := h.len m (by omega)
    rw [nameK_succ, List.length_append, h.name (by omega)]
    by_cases e : m = a
    · rw [if_pos e, if_pos (by omega)]
      rw [if_neg (by omega)] at this
      simp; omega
    · rw [if_neg e]
      by_cases e2 : a < m
      · rw [if_pos (by omega)]
        rw [if_pos e2] at this
        simp; omega
      · rw [if_neg (by omega)]
        rw [if_neg e2] at this
        simp; omega
theorem Ren.mem (h : Ren hd a s) {z : PS} : z ∈ namedR hd (hd.set a s) ↔ ∃ q : Nat, q < hd.length ∧ q ≠ a ∧ z = ⟨(q : Int), (q : Int)⟩ := by
  unfold namedR
  rw [mem_nameK, List.length_set]
  constructor
  · rintro ⟨q, hq, h0, rfl⟩
    have := h.find hq
    split at this
    · omega
    · rename_i e; exact ⟨q, hq, e, by rw [this]⟩
  · rintro ⟨q, hq, e, rfl⟩
    have := h.find hq
    rw [if_neg e] at this
    exact ⟨q, hq, by rw [this]; exact Int.natCast_nonneg q, by rw [this]⟩
theorem Ren.ps (h : Ren hd a s) {x : Int} : x ∈ psR hd (hd.set a s) ↔ x = a := by
  unfold psR
  rw [mem_restR]
  constructor
  · rintro ⟨h0, h1, h2⟩
    obtain ⟨i, rfl⟩ : ∃ i : Nat, x = i := ⟨x.toNat, by omega⟩
    by_cases e : i = a
    · rw [e]
    · exact absurd (List.mem_map.2 ⟨⟨(i : Int), (i : Int)⟩, h.mem.2 ⟨i, by omega, e, rfl⟩, rfl⟩) h2
  · rintro rfl
    refine ⟨Int.natCast_nonneg a, by have := h.lt; omega, fun hm => ?_⟩
    obtain ⟨z, hz, e⟩ := List.mem_map.1 hm
    obtain ⟨q, hq, hne, rfl⟩ := h.mem.1 hz
    have e' : (q : Int) = (a : Int) := e
    omega
theorem Ren.qs (h : Ren hd a s) {x : Int} : x ∈ qsR hd (hd.set a s) ↔ x = a := by
  unfold qsR
  rw [mem_restR, List.length_set]
  constructor
  · rintro ⟨h0, h1, h2⟩
    obtain ⟨i, rfl⟩ : ∃ i : Nat, x = i := ⟨x.toNat, by omega⟩
    by_cases e : i = a
    · rw [e]
    · exact absurd (List.mem_map.2 ⟨⟨(i : Int), (i : Int)⟩, h.mem.2 ⟨i, by omega, e, rfl⟩, rfl⟩) h2
  · rintro rfl
    refine ⟨Int.natCast_nonneg a, by have := h.lt; omega, fun hm => ?_⟩
    obtain ⟨z, hz, e⟩ := List.mem_map.1 hm
    obtain ⟨q, hq, hne, rfl⟩ := h.mem.1 hz
    have e' : (q : Int) = (a : Int) := e
    omega
/-- No rows: it is gone, and another one is new. -/
theorem Ren.none (h : Ren hd a s) : moreR hd [] (hd.set a s) [] = [] := by
  refine List.eq_nil_iff_forall_not_mem.2 fun z hz => ?_
  have hc : chR' hd [] (hd.set a s) [] = [] := by
    refine List.eq_nil_iff_forall_not_mem.2 fun x hx => ?_
    unfold chR' chosR at hx
    obtain ⟨y, hy, hx⟩ := List.mem_flatMap.1 hx
    unfold chR at hx
    have hs := score_le hd [] (hd.set a s) [] y
    split at hx
    · rename_i hm
      have hs0 : scoreT hd [] (hd.set a s) [] y = 0 := by
        have h1 := hs.1
        have h2 := hs.2
        simp only [List.length_nil] at h2
        omega
      rw [hs0] at hm
      have h3 := ((mayR_iff (by omega) (by omega)).1 hm).1
      rw [show wrap64 (2 * 0) = 0 from by unfold wrap64; omega] at h3
      simp at h3
    · cases hx
  unfold moreR at hz
  have := Gr.pick_len (chR' hd [] (hd.set a s) [])
  rw [hc] at this hz
  exact absurd (List.length_pos_of_mem hz) (by simpa using this)
end
end Go.Proofs.Ytoefeboikkhdkaa.X
end
section
namespace Go.Proofs.Ytoefeboikkhdkaa.X
open Go.RowKit Go.Proofs.YtoefeboikkhdkaaW.PrintWords
set_option linter.unusedVariables false
theorem mem_move {α : Type} {l : List α} {i k : Nat} (d : α) (hi : i < l.length) (x : α) : x ∈ putL (dropL l i) k (l.getD i d) ↔ x ∈ l := by
  constructor
  · intro h
    rcases mem_putL h with e | e
    · rw [e]; exact List.mem_of_getElem? (some_getD d hi)
    · exact mem_dropL e
  · intro h
    have e := putL_dropL (some_getD d hi)
    rw [← e] at h
    unfold putL at h ⊢
    simp only [List.mem_append, List.mem_cons] at h ⊢
    have key : x ∈ dropL l i ↔ x ∈ (dropL l i).take k ∨ x ∈ (dropL l i).drop k := by rw [← List.mem_append, List.take_append_drop]
    have key2 : x ∈ dropL l i ↔ x ∈ (dropL l i).take i ∨ x ∈ (dropL l i).drop i := by rw [← List.mem_append, List.take_append_drop]
    rcases h with h | h | h
    · rcases key.1 (key2.2 (.inl h)) with h | h
      · exact .inl h
      · exact .inr (.inr h)
    · exact .inr (.inl h)
    · rcases key.1 (key2.2 (.inr h)) with h | h
      · exact .inl h
      · exact .inr (.inr h)
/-- The same names in another order: all are paired. -/
theorem named_all {ha hb : List ByteArray} (h : ∀ x ∈ hb, x ∈ ha) : namedR ha hb = (List.range hb.length).map fun q : Nat => (⟨findR ha (rdB hb (q : Int)), (q : Int)⟩ : PS) := by
  have key : ∀ n, n ≤ hb.length → nameK ha hb n = (List.range n).map fun q : Nat => (⟨findR ha (rdB hb (q : Int)), (q : Int)⟩ : PS) := by
    intro n
    induction n with
    | zero => intro _; simp [nameK]
    | succ n ih =>
      intro hn
      rw [nameK_succ, ih (by omega), List.range_succ, List.map_append]
      congr 1
      unfold nameQ
      rw [if_pos (findR_mem.2 (h _ (by rw [rdB_get (show n < hb.length by omega)]; exact List.getElem_mem _)))]; rfl
  exact key _ (Nat.le_refl _)
theorem moved_l0 (ha : List ByteArray) (ra : List (List ByteArray)) (hb : List ByteArray) (rb : List (List ByteArray)) (a b : Int) (hl : hb.length ≤ 1000) (h : ∀ x ∈ hb, x ∈ ha) (hb0 : 0 ≤ b) (hb1 : b < (hb.length : Int)) (he : findR ha (rdB hb b) = a) :
    ∀ d k i : Nat, i + d = hb.length → d < k → tartanlaw13_ColsMoved.l0 k a b true ((List.range hb.length).map fun q : Nat => (⟨findR ha (rdB hb (q : Int)), (q : Int)⟩ : PS)) (i : Nat) ha ra hb rb = some true := by
  have hlen : ((List.range hb.length).map fun q : Nat => (⟨findR ha (rdB hb (q : Int)), (q : Int)⟩ : PS)).length = hb.length := by simp
  have hget : ∀ i : Nat, i < hb.length → rd_T37 ((List.range hb.length).map fun q : Nat => (⟨findR ha (rdB hb (q : Int)), (q : Int)⟩ : PS)) (i : Int) = ⟨findR ha (rdB hb (i : Int)), (i : Int)⟩ := by
    intro i hi
    rw [Gr.rdP_get (by rw [hlen]; exact hi)]; simp
  intro d
  induction d with
  | zero =>
    intro k i hi hk
    obtain ⟨k, rfl⟩ : ∃ m, k = m + 1 := ⟨k - 1, by omega⟩
    simp only [tartanlaw13_ColsMoved.l0]
    obtain ⟨n, rfl⟩ : ∃ n : Nat, b = n := ⟨b.toNat, by omega⟩
    rw [hlen, if_neg (by omega), if_pos trivial, if_pos hb0, if_pos hb1, hget n (by omega), he]
    simp
  | succ d ih =>
    intro k i hi hk
    obtain ⟨k, rfl⟩ : ∃ m, k = m + 1 := ⟨k - 1, by omega⟩
    have hil : i < hb.length := by omega
    have hm : rdB hb (i : Int) ∈ ha := h _ (by rw [rdB_get hil]; exact List.getElem_mem _)
    obtain ⟨p, ep, hp, e⟩ := findR_pos (findR_mem.2 hm)
    simp only [tartanlaw13_ColsMoved.l0]
    rw [hlen, if_pos (by omega), if_pos (by omega), hget i hil]
    simp only [ep]
    have e2 : rdOf ByteArray.empty ha (p : Int) = rdOf ByteArray.empty hb (i : Int) := (rdB_get hp).trans e
    rw [if_pos trivial, if_neg (by omega), if_neg (by omega), if_pos (by omega), if_pos (by omega), if_pos (by omega), e2, if_pos rfl, wrap_upF _ (by omega)]
    exact ih k (i + 1) (by omega) (by omega)
theorem pure_ColsMoved : ∀ (x0 : S25) (x1 : Int) (x2 : Int) (x3 : Bool), okT25 x0 → okT3 x1 → okT3 x2 → okT4 x3 → ∃ k, tartanlaw13_ColsMoved.f k x0.f0 x0.f1 x1 x2 x3 = some true := by
  intro x0 x1 x2 x3 o0 _ _ _
  obtain ⟨k, hk⟩ := fuel13
  refine ⟨k + 60, ?_⟩
  unfold tartanlaw13_ColsMoved.f
  rw [works13, Option.bind_some, if_pos rfl]
  obtain ⟨b, e, hb⟩ := fewT x0.f0 x0.f1 (k := k + 60) (by omega)
  rw [e, Option.bind_some]
  cases b with
  | false => rw [if_neg (by decide)]
  | true =>
    have s0 := hb rfl
    have h1 := s0.h
    have h2 := s0.r
    have hs : okS x0.f0 := o0.1.2
    rw [if_pos rfl, movec_f _ _ _ _ (s0.okE hs), Option.bind_some]
    by_cases e1 : (madeT x0.f0 x0.f1 (xIn2 x1 x0.f0.length x2 x0.f0.length) (putL (dropL x0.f0 x1.toNat) x2.toNat (x0.f0.getD x1.toNat ByteArray.empty)) (x0.f1.map fun l => putL (dropL l x1.toNat) x2.toNat (l.getD x1.toNat ByteArray.empty))).2.2 = 0
    · obtain ⟨c1, q0, c2, e4⟩ := made_ok e1
      obtain ⟨⟨p1, p2⟩, q1, q2⟩ := xIn2_zero q0
      rw [if_pos e1, e4]
      dsimp only
      have hlt : x1.toNat < x0.f0.length := by omega
      have n0 := check_ndE c1
      have hw := rows_of_check c1
      have hlen' : (putL (dropL x0.f0 x1.toNat) x2.toNat (x0.f0.getD x1.toNat ByteArray.empty)).length = x0.f0.length := by rw [len_putL, dropL_length hlt]; omega
      have hmem := fun x => mem_move ByteArray.empty (k := x2.toNat) hlt x
      have hat : (putL (dropL x0.f0 x1.toNat) x2.toNat (x0.f0.getD x1.toNat ByteArray.empty))[x2.toNat]? = some (x0.f0.getD x1.toNat ByteArray.empty) := putL_at _ (by rw [dropL_length hlt]; omega)
      have hok := okS_put (okS_drop hs x1.toNat) x2.toNat (okS_getD hs x1.toNat)
      generalize putL (dropL x0.f0 x1.toNat) x2.toNat (x0.f0.getD x1.toNat ByteArray.empty) = hd' at *
      have hR : ∀ y ∈ x0.f1.map (fun l => putL (dropL l x1.toNat) x2.toNat (l.getD x1.toNat ByteArray.empty)), y.length = x0.f0.length := fun y hy => by
        obtain ⟨z, hz, rfl⟩ := List.mem_map.1 hy
        have := hw z (.inr hz)
        rw [len_putL, dropL_length (by omega)]; omega
      have hC : okCells (x0.f1.map fun l => putL (dropL l x1.toNat) x2.toNat (l.getD x1.toNat ByteArray.empty)) = true := by
        unfold okCells
        refine List.all_eq_true.2 fun y hy => List.all_eq_true.2 fun c hc => decide_eq_true ?_
        obtain ⟨z, hz, rfl⟩ := List.mem_map.1 hy
        have hz2 : okS z := (o0.2.2 z hz).2
        exact okS_put (okS_drop hz2 x1.toNat) x2.toNat (okS_getD hz2 x1.toNat) c hc
      have hRl : (x0.f1.map fun l => putL (dropL l x1.toNat) x2.toNat (l.getD x1.toNat ByteArray.empty)).length = x0.f1.length := List.length_map _
      generalize (x0.f1.map fun l => putL (dropL l x1.toNat) x2.toNat (l.getD x1.toNat ByteArray.empty)) = rows' at *
      have s1 : Sm hd' rows' := ⟨by omega, by omega, fun j hj => by rw [hR _ (List.mem_of_getElem? (some_getD [] hj))]; exact h1⟩
      rw [align_some s0 s1 (s0.ok hs) (s1.ok hok) (okCells_of o0) hC x3, Option.bind_some, align_zero c1 c2]
      simp only [if_true]
      have hmore : moreR x0.f0 x0.f1 hd' rows' = [] := more_nil (ps_nil n0 fun x h => (hmem x).2 h)
      have hL : (if x3 = true then bothR x0.f0 x0.f1 hd' rows' else namedR x0.f0 hd') = (List.range hd'.length).map fun q : Nat => (⟨findR x0.f0 (rdB hd' (q : Int)), (q : Int)⟩ : PS) := by
        rw [both_nil hmore, named_all (fun x h => (hmem x).1 h)]
        split <;> rfl
      rw [hL]
      have hne : ((((List.range hd'.length).map fun q : Nat => (⟨findR x0.f0 (rdB hd' (q : Int)), (q : Int)⟩ : PS)).length : Int) != (x0.f0.length : Int)) = false := by simp [hlen']
      rw [hne]
      show tartanlaw13_ColsMoved.j0 ((k + 59) + 1) x1 x2 true _ false x0.f0 x0.f1 hd' rows' = some true
      simp only [tartanlaw13_ColsMoved.j0]
      rw [if_neg (by decide)]
      have hx2 : x2.toNat < hd'.length := by omega
      have hg : rdB hd' x2 = x0.f0[x1.toNat] := by
        have := rdB_get hx2
        rw [Int.toNat_of_nonneg q1] at this
        rw [this]
        have h3 := (List.getElem?_eq_some_iff.1 hat).2
        rw [h3, List.getD_eq_getElem?_getD, List.getElem?_eq_getElem hlt]; rfl
      have hfind : findR x0.f0 (rdB hd' x2) = x1 := by
        rw [find_at n0 hlt hg.symm]; omega
      exact moved_l0 x0.f0 x0.f1 hd' rows' x1 x2 (by omega) (fun x h => (hmem x).1 h) q1 (by omega) hfind hd'.length (k + 59) 0 (by omega) (by omega)
    · rw [if_neg e1]
end Go.Proofs.Ytoefeboikkhdkaa.X
end
