/- The texts that the law EditRows0 wants, part 4 of 8: what is kept of them. -/
import Derived.Test.YtaolakknkhggnaaCEditRows03
section
namespace Go.Proofs.Ytaolakknkhggnaa.X
open Go.RowKit Go.Proofs.YtaolakknkhggnaaW.PrintWords Go.Proofs.YtaolakknkhggnaaW.PrintLast Go.Proofs.YtaolakknkhggnaaW.PrintMore
attribute [local go_sem] max2_int min2_int max_two min_two max_three min_three max_four min_four   -- for this text's walks alone
set_option linter.unusedVariables false
set_option linter.unusedSimpArgs false
mutual
def tartanref05_wrong.j0 : Nat → Int → Int → Bool → Bool → Int → Bool → Int → Int → Int → ByteArray → List ByteArray → List Int → Option (Int)
 | 0, _, _, _, _, _, _, _, _, _, _, _, _ => none
 | k + 1, x5, x6, x7, x8, x25, x54, x132000, x132001, x132002, x132003, x132004, x132005 => if x54 = true then (if x7 = true then (some 0) else (some 11)) else (if x25 = 3 then (if x7 = true then ((tartanref05_in.f x132002 x5).bind fun t135 => (if t135 = true then (some 0) else (some 11))) else (some 11)) else (if x25 = 4 then ((tartanref05_in.f x132001 (wrap64 (x6 + 1))).bind fun t136 => (if t136 = true then (some 0) else (some 11))) else (if x25 = 5 then (if x8 = true then (some 0) else (some 11)) else (if x25 = 6 then (if x8 = true then ((tartanref05_in.f x132002 x6).bind fun t137 => (if t137 = true then (some 0) else (some 11))) else (some 11)) else (if x25 = 7 then (if x8 = true then ((tartanref05_in.f x132002 x5).bind fun t138 => (if t138 = true then (some 0) else (some 11))) else (some 11)) else (tartanref05_wrong.l0 k x5 0 x132000 x132001 x132002 x132003 x132004 x132005))))))
def tartanref05_wrong.l0 : Nat → Int → Int → Int → Int → Int → ByteArray → List ByteArray → List Int → Option (Int)
 | 0, _, _, _, _, _, _, _, _ => none
 | k + 1, x5, x9, x132000, x132001, x132002, x132003, x132004, x132005 => if x9 < (x132005.length : Int) then (if 0 ≤ x9 then ((tartanref05_in.f (rd x132005 x9) x5).bind fun t140 => (if t140 = true then (tartanref05_wrong.l0 k x5 (wrap64 (x9 + 1)) x132000 x132001 x132002 x132003 x132004 x132005) else (some 11))) else (none)) else (some 0)
end
def tartanref05_wrong.f (k : Nat) (l0_0 : List ByteArray) (l0_1 : List (List ByteArray)) (a1_0 : Int) (a1_1 : Int) (a1_2 : Int) (a1_3 : ByteArray) (l1_4 : List ByteArray) (l1_5 : List Int) : Option (Int) := (tartanref05_in.f a1_1 (l0_0.length : Int)).bind fun t132 => ((tartanref05_in.f a1_1 (l0_1.length : Int)).bind fun t133 => (if a1_0 = 0 then ((tartanref05_in.f a1_1 (wrap64 ((l0_0.length : Int) + 1))).bind fun t134 => (if t134 = true then (if (l1_4.length : Int) = (l0_1.length : Int) then (some 0) else (some 9)) else (some 11))) else (if a1_0 = 1 then (tartanref05_wrong.j0 k (l0_0.length : Int) (l0_1.length : Int) t132 t133 a1_0 (a1_0 == 1) a1_0 a1_1 a1_2 a1_3 l1_4 l1_5) else (tartanref05_wrong.j0 k (l0_0.length : Int) (l0_1.length : Int) t132 t133 a1_0 (a1_0 == 2) a1_0 a1_1 a1_2 a1_3 l1_4 l1_5))))
set_option maxHeartbeats 8000000 in
set_option maxRecDepth 100000 in
theorem tartanref05_wrong.calls (k : Nat) (A0_0 : Option Addr) (c0_0 : Nat) (l0_0 : List ByteArray) (A0_1 : Option Addr) (c0_1 : Nat) (l0_1 : List (List ByteArray)) (a1_0 : Int) (a1_1 : Int) (a1_2 : Int) (a1_3 : ByteArray) (A1_4 : Option Addr) (c1_4 : Nat) (l1_4 : List ByteArray) (A1_5 : Option Addr) (c1_5 : Nat) (l1_5 : List Int) (r : Int) (w : World) (hr0_0 : Kd.C Kd.string w A0_0 l0_0.length l0_0) (hc0_0 : l0_0.length ≤ c0_0) (hr0_1 : Kd.C (Kd.slice 9 Kd.string) w A0_1 l0_1.length l0_1) (hc0_1 : l0_1.length ≤ c0_1) (hr1_4 : Kd.C Kd.string w A1_4 l1_4.length l1_4) (hc1_4 : l1_4.length ≤ c1_4) (hr1_5 : Kd.C (Kd.int .i64) w A1_5 l1_5.length l1_5) (hc1_5 : l1_5.length ≤ c1_5) (h : tartanref05_wrong.f k l0_0 l0_1 a1_0 a1_1 a1_2 a1_3 l1_4 l1_5 = some r) :
  Calls Try.prog 32 #[.agg #[.slice A0_0 l0_0.length c0_0, .slice A0_1 l0_1.length c0_1], .agg #[.int .i64 a1_0, .int .i64 a1_1, .int .i64 a1_2, .string a1_3, .slice A1_4 l1_4.length c1_4, .slice A1_5 l1_5.length c1_5]] w fun e w' => e = .returned (.int .i64 r) ∧ Below w.heap.size w w' := by
 have hu25 := Try.underlying25
 have hu28 := Try.underlying28
 have HR0_0 := Aside0.mk hr0_0
 have HC0_0 := Aside0.mk hc0_0
 clear hr0_0 hc0_0
 have HR0_1 := Aside0.mk hr0_1
 have HC0_1 := Aside0.mk hc0_1
 clear hr0_1 hc0_1
 have HR1_4 := Aside0.mk hr1_4
 have HC1_4 := Aside0.mk hc1_4
 clear hr1_4 hc1_4
 have HR1_5 := Aside0.mk hr1_5
 have HC1_5 := Aside0.mk hc1_5
 clear hr1_5 hc1_5
 have HB := Aside0.mk (Below.refl w.heap.size w)
 have H : ((tartanref05_in.f a1_1 (l0_0.length : Int)).bind fun t132 => ((tartanref05_in.f a1_1 (l0_1.length : Int)).bind fun t133 => (if a1_0 = 0 then ((tartanref05_in.f a1_1 (wrap64 ((l0_0.length : Int) + 1))).bind fun t134 => (if t134 = true then (if (l1_4.length : Int) = (l0_1.length : Int) then (some 0) else (some 9)) else (some 11))) else (if a1_0 = 1 then (tartanref05_wrong.j0 k (l0_0.length : Int) (l0_1.length : Int) t132 t133 a1_0 (a1_0 == 1) a1_0 a1_1 a1_2 a1_3 l1_4 l1_5) else (tartanref05_wrong.j0 k (l0_0.length : Int) (l0_1.length : Int) t132 t133 a1_0 (a1_0 == 2) a1_0 a1_1 a1_2 a1_3 l1_4 l1_5))))) = some r := h
 clear h
 replace H := Option.bind_eq_some_iff.mp H
 obtain ⟨t132, A30, H⟩ := H
 replace H : ((tartanref05_in.f a1_1 (l0_1.length : Int)).bind fun t133 => (if a1_0 = 0 then ((tartanref05_in.f a1_1 (wrap64 ((l0_0.length : Int) + 1))).bind fun t134 => (if t134 = true then (if (l1_4.length : Int) = (l0_1.length : Int) then (some 0) else (some 9)) else (some 11))) else (if a1_0 = 1 then (tartanref05_wrong.j0 k (l0_0.length : Int) (l0_1.length : Int) t132 t133 a1_0 (a1_0 == 1) a1_0 a1_1 a1_2 a1_3 l1_4 l1_5) else (tartanref05_wrong.j0 k (l0_0.length : Int) (l0_1.length : Int) t132 t133 a1_0 (a1_0 == 2) a1_0 a1_1 a1_2 a1_3 l1_4 l1_5)))) = some r := H
 have A3 := Aside0.mk A30
 clear A30
 replace H := Option.bind_eq_some_iff.mp H
 obtain ⟨t133, A40, H⟩ := H
 replace H : (if a1_0 = 0 then ((tartanref05_in.f a1_1 (wrap64 ((l0_0.length : Int) + 1))).bind fun t134 => (if t134 = true then (if (l1_4.length : Int) = (l0_1.length : Int) then (some 0) else (some 9)) else (some 11))) else (if a1_0 = 1 then (tartanref05_wrong.j0 k (l0_0.length : Int) (l0_1.length : Int) t132 t133 a1_0 (a1_0 == 1) a1_0 a1_1 a1_2 a1_3 l1_4 l1_5) else (tartanref05_wrong.j0 k (l0_0.length : Int) (l0_1.length : Int) t132 t133 a1_0 (a1_0 == 2) a1_0 a1_1 a1_2 a1_3 l1_4 l1_5))) = some r := H
 have A4 := Aside0.mk A40
 clear A40
 by_cases c5 : a1_0 = 0
 ·rw [if_pos c5] at H
  have c5b0 : (a1_0 == 0) = true := beq_iff_eq.mpr c5
  have c5b1 : (a1_0 != 0) = false := bne_eq_false_iff_eq.mpr c5
  clear c5
  replace H := Option.bind_eq_some_iff.mp H
  obtain ⟨t134, A60, H⟩ := H
  replace H : (if t134 = true then (if (l1_4.length : Int) = (l0_1.length : Int) then (some 0) else (some 9)) else (some 11)) = some r := H
  have A6 := Aside0.mk A60
  clear A60
  by_cases c7 : t134 = true
  ·subst c7
   have H1 : (if (l1_4.length : Int) = (l0_1.length : Int) then (some 0) else (some 9)) = some r := by first | (rw [if_pos rfl] at H; exact H) | (rw [if_pos trivial] at H; exact H) | simpa using H
   clear H
   have H := H1
   clear H1
   by_cases c8 : (l1_4.length : Int) = (l0_1.length : Int)
   ·rw [if_pos c8] at H
    have c8b0 : ((l1_4.length : Int) == (l0_1.length : Int)) = true := beq_iff_eq.mpr c8
    have c8b1 : ((l1_4.length : Int) != (l0_1.length : Int)) = false := bne_eq_false_iff_eq.mpr c8
    have c8b2 : (l1_4.length == l0_1.length) = true := by first | simpa using c8 | (simp at c8 ⊢; omega)
    clear c8
    obtain rfl := Option.some.inj H
    go_enter Try.func32, Try.ntmps32
    go_wp2_with (first | ((with_reducible refine gate_dst (N := 2) rfl ?_); refine box_event ?hg (N := 2) ?hd (cs := #[.slice A0_0 l0_0.length c0_0, .slice A0_1 l0_1.length c0_1]) (t := 25) ?hr ?_; (case hd => rfl); (case hg => rfl); (case hr => first | (go_simp; done) | (go_simp; rfl)); intro gb130 hg w9 hbox hb; have n0_ := Aside0.mk (below_step (by repeat (first | (with_reducible first | exact HB.out | apply below_alloc | apply pw_below_drewN | apply below_drew1) | exact HB.out)) hb); have n1_ := Aside0.mk (hbox); have n2_ := Aside0.mk ((by rw [hg]; exact (below_size (by repeat (first | (with_reducible first | exact HB.out | apply below_alloc | apply pw_below_drewN | apply below_drew1) | exact HB.out))) : w.heap.size ≤ gb130)); have n3_ := Aside0.mk ((by rw [hg]; exact (below_size (by repeat (first | (with_reducible first | exact HB.out | apply below_alloc | apply pw_below_drewN | apply below_drew1) | exact HB.out))) : w.heap.size ≤ gb130)); clear HB; have HB := n0_; have BK130 := n1_; have GW130 := n2_; have GE130 := n3_; clear n0_ n1_ n2_ n3_; clear hb hbox hg) | ((with_reducible refine gate_dst (N := 3) rfl ?_); refine box_event ?hg (N := 3) ?hd (cs := #[.int .i64 a1_0, .int .i64 a1_1, .int .i64 a1_2, .string a1_3, .slice A1_4 l1_4.length c1_4, .slice A1_5 l1_5.length c1_5]) (t := 28) ?hr ?_; (case hd => rfl); (case hg => rfl); (case hr => first | (go_simp; done) | (go_simp; rfl)); intro gb131 hg w10 hbox hb; have n0_ := Aside0.mk (blk_below (g := gb130) (o := .cells #[.slice A0_0 l0_0.length c0_0, .slice A0_1 l0_1.length c0_1] 25 (0, 0)) (by (with_reducible repeat (first | refine blk_drewN ?_ _ | refine blk_drew ?_ | refine blk_alloc ?_ _)); exact BK130.out) hb); have n1_ := Aside0.mk (below_step (by repeat (first | (with_reducible first | exact HB.out | apply below_alloc | apply pw_below_drewN | apply below_drew1 | refine below_set ?_ GE130.out) | exact HB.out)) hb); have n2_ := Aside0.mk (hbox); have n3_ := Aside0.mk ((by rw [hg]; exact (below_size (by repeat (first | (with_reducible first | exact HB.out | apply below_alloc | apply pw_below_drewN | apply below_drew1 | refine below_set ?_ GE130.out) | exact HB.out))) : w.heap.size ≤ gb131)); have n4_ := Aside0.mk ((by rw [hg]; exact (below_size (by repeat (first | (with_reducible first | exact HB.out | apply below_alloc | apply pw_below_drewN | apply below_drew1 | refine below_set ?_ GE130.out) | exact HB.out))) : w.heap.size ≤ gb131)); have n5_ := Aside0.mk ((by rw [hg]; exact Nat.ne_of_lt (blk_lt (g := gb130) (o := .cells #[.slice A0_0 l0_0.length c0_0, .slice A0_1 l0_1.length c0_1] 25 (0, 0)) (by (with_reducible repeat (first | refine blk_drewN ?_ _ | refine blk_drew ?_ | refine blk_alloc ?_ _)); exact BK130.out)) : gb130 ≠ gb131)); have n6_ := Aside0.mk ((by rw [hg]; exact Nat.ne_of_gt (blk_lt (g := gb130) (o := .cells #[.slice A0_0 l0_0.length c0_0, .slice A0_1 l0_1.length c0_1] 25 (0, 0)) (by (with_reducible repeat (first | refine blk_drewN ?_ _ | refine blk_drew ?_ | refine blk_alloc ?_ _)); exact BK130.out)) : gb131 ≠ gb130)); clear BK130; clear HB; have BK130 := n0_; have HB := n1_; have BK131 := n2_; have GW131 := n3_; have GE131 := n4_; have NB130_131 := n5_; have NB131_130 := n6_; clear n0_ n1_ n2_ n3_ n4_ n5_ n6_; clear hb hbox hg; have hnb11 := NB130_131.out; have hnc11 := NB131_130.out; have hcz12_0 : w10.cell? ⟨gb130, 0, none⟩ = some (.slice A0_0 l0_0.length c0_0) := (blk_cell BK130.out 0).trans rfl; have hcz12_1 : w10.cell? ⟨gb130, 1, none⟩ = some (.slice A0_1 l0_1.length c0_1) := (blk_cell BK130.out 1).trans rfl; have hfz12_0 := blk_frozen BK130.out 0; have hfz12_1 := blk_frozen BK130.out 1; have hcz13_0 : w10.cell? ⟨gb131, 0, none⟩ = some (.int .i64 a1_0) := (blk_cell BK131.out 0).trans rfl; have hcz13_1 : w10.cell? ⟨gb131, 1, none⟩ = some (.int .i64 a1_1) := (blk_cell BK131.out 1).trans rfl; have hcz13_2 : w10.cell? ⟨gb131, 2, none⟩ = some (.int .i64 a1_2) := (blk_cell BK131.out 2).trans rfl; have hcz13_3 : w10.cell? ⟨gb131, 3, none⟩ = some (.string a1_3) := (blk_cell BK131.out 3).trans rfl; have hcz13_4 : w10.cell? ⟨gb131, 4, none⟩ = some (.slice A1_4 l1_4.length c1_4) := (blk_cell BK131.out 4).trans rfl; have hcz13_5 : w10.cell? ⟨gb131, 5, none⟩ = some (.slice A1_5 l1_5.length c1_5) := (blk_cell BK131.out 5).trans rfl; have hfz13_0 := blk_frozen BK131.out 0; have hfz13_1 := blk_frozen BK131.out 1; have hfz13_2 := blk_frozen BK131.out 2; have hfz13_3 := blk_frozen BK131.out 3; have hfz13_4 := blk_frozen BK131.out 4; have hfz13_5 := blk_frozen BK131.out 5) | (go_at_call 71; (with_reducible refine (tartanref05_in.calls a1_1 (l0_0.length : Int) t132 _ A3.out).mono ?_); rintro e w' ⟨rfl, ⟨nd, rfl⟩⟩; (try first | exact ⟨rfl, _, World.drewN_drewN _ _ _⟩ | exact ⟨rfl, _, Eq.trans (World.drewN_drewN _ _ _) (congrArg (World.drewN _) (Nat.add_assoc _ _ _))⟩)) | (go_at_call 71; (with_reducible refine (tartanref05_in.calls a1_1 (l0_1.length : Int) t133 _ A4.out).mono ?_); rintro e w' ⟨rfl, ⟨nd, rfl⟩⟩; (try first | exact ⟨rfl, _, World.drewN_drewN _ _ _⟩ | exact ⟨rfl, _, Eq.trans (World.drewN_drewN _ _ _) (congrArg (World.drewN _) (Nat.add_assoc _ _ _))⟩)) | (go_at_call 71; (with_reducible refine (tartanref05_in.calls a1_1 (wrap64 ((l0_0.length : Int) + 1)) true _ A6.out).mono ?_); rintro e w' ⟨rfl, ⟨nd, rfl⟩⟩; (try first | exact ⟨rfl, _, World.drewN_drewN _ _ _⟩ | exact ⟨rfl, _, Eq.trans (World.drewN_drewN _ _ _) (congrArg (World.drewN _) (Nat.add_assoc _ _ _))⟩)))
    repeat (go_quiet (first | ((with_reducible refine gate_dst (N := 2) rfl ?_); refine box_event ?hg (N := 2) ?hd (cs := #[.slice A0_0 l0_0.length c0_0, .slice A0_1 l0_1.length c0_1]) (t := 25) ?hr ?_; (case hd => rfl); (case hg => rfl); (case hr => first | (go_simp; done) | (go_simp; rfl)); intro gb130 hg w9 hbox hb; have n0_ := Aside0.mk (below_step (by repeat (first | (with_reducible first | exact HB.out | apply below_alloc | apply pw_below_drewN | apply below_drew1) | exact HB.out)) hb); have n1_ := Aside0.mk (hbox); have n2_ := Aside0.mk ((by rw [hg]; exact (below_size (by repeat (first | (with_reducible first | exact HB.out | apply below_alloc | apply pw_below_drewN | apply below_drew1) | exact HB.out))) : w.heap.size ≤ gb130)); have n3_ := Aside0.mk ((by rw [hg]; exact (below_size (by repeat (first | (with_reducible first | exact HB.out | apply below_alloc | apply pw_below_drewN | apply below_drew1) | exact HB.out))) : w.heap.size ≤ gb130)); clear HB; have HB := n0_; have BK130 := n1_; have GW130 := n2_; have GE130 := n3_; clear n0_ n1_ n2_ n3_; clear hb hbox hg) | ((with_reducible refine gate_dst (N := 3) rfl ?_); refine box_event ?hg (N := 3) ?hd (cs := #[.int .i64 a1_0, .int .i64 a1_1, .int .i64 a1_2, .string a1_3, .slice A1_4 l1_4.length c1_4, .slice A1_5 l1_5.length c1_5]) (t := 28) ?hr ?_; (case hd => rfl); (case hg => rfl); (case hr => first | (go_simp; done) | (go_simp; rfl)); intro gb131 hg w10 hbox hb; have n0_ := Aside0.mk (blk_below (g := gb130) (o := .cells #[.slice A0_0 l0_0.length c0_0, .slice A0_1 l0_1.length c0_1] 25 (0, 0)) (by (with_reducible repeat (first | refine blk_drewN ?_ _ | refine blk_drew ?_ | refine blk_alloc ?_ _)); exact BK130.out) hb); have n1_ := Aside0.mk (below_step (by repeat (first | (with_reducible first | exact HB.out | apply below_alloc | apply pw_below_drewN | apply below_drew1 | refine below_set ?_ GE130.out) | exact HB.out)) hb); have n2_ := Aside0.mk (hbox); have n3_ := Aside0.mk ((by rw [hg]; exact (below_size (by repeat (first | (with_reducible first | exact HB.out | apply below_alloc | apply pw_below_drewN | apply below_drew1 | refine below_set ?_ GE130.out) | exact HB.out))) : w.heap.size ≤ gb131)); have n4_ := Aside0.mk ((by rw [hg]; exact (below_size (by repeat (first | (with_reducible first | exact HB.out | apply below_alloc | apply pw_below_drewN | apply below_drew1 | refine below_set ?_ GE130.out) | exact HB.out))) : w.heap.size ≤ gb131)); have n5_ := Aside0.mk ((by rw [hg]; exact Nat.ne_of_lt (blk_lt (g := gb130) (o := .cells #[.slice A0_0 l0_0.length c0_0, .slice A0_1 l0_1.length c0_1] 25 (0, 0)) (by (with_reducible repeat (first | refine blk_drewN ?_ _ | refine blk_drew ?_ | refine blk_alloc ?_ _)); exact BK130.out)) : gb130 ≠ gb131)); have n6_ := Aside0.mk ((by rw [hg]; exact Nat.ne_of_gt (blk_lt (g := gb130) (o := .cells #[.slice A0_0 l0_0.length c0_0, .slice A0_1 l0_1.length c0_1] 25 (0, 0)) (by (with_reducible repeat (first | refine blk_drewN ?_ _ | refine blk_drew ?_ | refine blk_alloc ?_ _)); exact BK130.out)) : gb131 ≠ gb130)); clear BK130; clear HB; have BK130 := n0_; have HB := n1_; have BK131 := n2_; have GW131 := n3_; have GE131 := n4_; have NB130_131 := n5_; have NB131_130 := n6_; clear n0_ n1_ n2_ n3_ n4_ n5_ n6_; clear hb hbox hg; have hnb11 := NB130_131.out; have hnc11 := NB131_130.out; have hcz12_0 : w10.cell? ⟨gb130, 0, none⟩ = some (.slice A0_0 l0_0.length c0_0) := (blk_cell BK130.out 0).trans rfl; have hcz12_1 : w10.cell? ⟨gb130, 1, none⟩ = some (.slice A0_1 l0_1.length c0_1) := (blk_cell BK130.out 1).trans rfl; have hfz12_0 := blk_frozen BK130.out 0; have hfz12_1 := blk_frozen BK130.out 1; have hcz13_0 : w10.cell? ⟨gb131, 0, none⟩ = some (.int .i64 a1_0) := (blk_cell BK131.out 0).trans rfl; have hcz13_1 : w10.cell? ⟨gb131, 1, none⟩ = some (.int .i64 a1_1) := (blk_cell BK131.out 1).trans rfl; have hcz13_2 : w10.cell? ⟨gb131, 2, none⟩ = some (.int .i64 a1_2) := (blk_cell BK131.out 2).trans rfl; have hcz13_3 : w10.cell? ⟨gb131, 3, none⟩ = some (.string a1_3) := (blk_cell BK131.out 3).trans rfl; have hcz13_4 : w10.cell? ⟨gb131, 4, none⟩ = some (.slice A1_4 l1_4.length c1_4) := (blk_cell BK131.out 4).trans rfl; have hcz13_5 : w10.cell? ⟨gb131, 5, none⟩ = some (.slice A1_5 l1_5.length c1_5) := (blk_cell BK131.out 5).trans rfl; have hfz13_0 := blk_frozen BK131.out 0; have hfz13_1 := blk_frozen BK131.out 1; have hfz13_2 := blk_frozen BK131.out 2; have hfz13_3 := blk_frozen BK131.out 3; have hfz13_4 := blk_frozen BK131.out 4; have hfz13_5 := blk_frozen BK131.out 5) | (go_at_call 71; (with_reducible refine (tartanref05_in.calls a1_1 (l0_0.length : Int) t132 _ A3.out).mono ?_); rintro e w' ⟨rfl, ⟨nd, rfl⟩⟩; (try first | exact ⟨rfl, _, World.drewN_drewN _ _ _⟩ | exact ⟨rfl, _, Eq.trans (World.drewN_drewN _ _ _) (congrArg (World.drewN _) (Nat.add_assoc _ _ _))⟩)) | (go_at_call 71; (with_reducible refine (tartanref05_in.calls a1_1 (l0_1.length : Int) t133 _ A4.out).mono ?_); rintro e w' ⟨rfl, ⟨nd, rfl⟩⟩; (try first | exact ⟨rfl, _, World.drewN_drewN _ _ _⟩ | exact ⟨rfl, _, Eq.trans (World.drewN_drewN _ _ _) (congrArg (World.drewN _) (Nat.add_assoc _ _ _))⟩)) | (go_at_call 71; (with_reducible refine (tartanref05_in.calls a1_1 (wrap64 ((l0_0.length : Int) + 1)) true _ A6.out).mono ?_); rintro e w' ⟨rfl, ⟨nd, rfl⟩⟩; (try first | exact ⟨rfl, _, World.drewN_drewN _ _ _⟩ | exact ⟨rfl, _, Eq.trans (World.drewN_drewN _ _ _) (congrArg (World.drewN _) (Nat.add_assoc _ _ _))⟩))); try go_wp2_with (first | ((with_reducible refine gate_dst (N := 2) rfl ?_); refine box_event ?hg (N := 2) ?hd (cs := #[.slice A0_0 l0_0.length c0_0, .slice A0_1 l0_1.length c0_1]) (t := 25) ?hr ?_; (case hd => rfl); (case hg => rfl); (case hr => first | (go_simp; done) | (go_simp; rfl)); intro gb130 hg w9 hbox hb; have n0_ := Aside0.mk (below_step (by repeat (first | (with_reducible first | exact HB.out | apply below_alloc | apply pw_below_drewN | apply below_drew1) | exact HB.out)) hb); have n1_ := Aside0.mk (hbox); have n2_ := Aside0.mk ((by rw [hg]; exact (below_size (by repeat (first | (with_reducible first | exact HB.out | apply below_alloc | apply pw_below_drewN | apply below_drew1) | exact HB.out))) : w.heap.size ≤ gb130)); have n3_ := Aside0.mk ((by rw [hg]; exact (below_size (by repeat (first | (with_reducible first | exact HB.out | apply below_alloc | apply pw_below_drewN | apply below_drew1) | exact HB.out))) : w.heap.size ≤ gb130)); clear HB; have HB := n0_; have BK130 := n1_; have GW130 := n2_; have GE130 := n3_; clear n0_ n1_ n2_ n3_; clear hb hbox hg) | ((with_reducible refine gate_dst (N := 3) rfl ?_); refine box_event ?hg (N := 3) ?hd (cs := #[.int .i64 a1_0, .int .i64 a1_1, .int .i64 a1_2, .string a1_3, .slice A1_4 l1_4.length c1_4, .slice A1_5 l1_5.length c1_5]) (t := 28) ?hr ?_; (case hd => rfl); (case hg => rfl); (case hr => first | (go_simp; done) | (go_simp; rfl)); intro gb131 hg w10 hbox hb; have n0_ := Aside0.mk (blk_below (g := gb130) (o := .cells #[.slice A0_0 l0_0.length c0_0, .slice A0_1 l0_1.length c0_1] 25 (0, 0)) (by (with_reducible repeat (first | refine blk_drewN ?_ _ | refine blk_drew ?_ | refine blk_alloc ?_ _)); exact BK130.out) hb); have n1_ := Aside0.mk (below_step (by repeat (first | (with_reducible first | exact HB.out | apply below_alloc | apply pw_below_drewN | apply below_drew1 | refine below_set ?_ GE130.out) | exact HB.out)) hb); have n2_ := Aside0.mk (hbox); have n3_ := Aside0.mk ((by rw [hg]; exact (below_size (by repeat (first | (with_reducible first | exact HB.out | apply below_alloc | apply pw_below_drewN | apply below_drew1 | refine below_set ?_ GE130.out) | exact HB.out))) : w.heap.size ≤ gb131)); have n4_ := Aside0.mk ((by rw [hg]; exact (below_size (by repeat (first | (with_reducible first | exact HB.out | apply below_alloc | apply pw_below_drewN | apply below_drew1 | refine below_set ?_ GE130.out) | exact HB.out))) : w.heap.size ≤ gb131)); have n5_ := Aside0.mk ((by rw [hg]; exact Nat.ne_of_lt (blk_lt (g := gb130) (o := .cells #[.slice A0_0 l0_0.length c0_0, .slice A0_1 l0_1.length c0_1] 25 (0, 0)) (by (with_reducible repeat (first | refine blk_drewN ?_ _ | refine blk_drew ?_ | refine blk_alloc ?_ _)); exact BK130.out)) : gb130 ≠ gb131)); have n6_ := Aside0.mk ((by rw [hg]; exact Nat.ne_of_gt (blk_lt (g := gb130) (o := .cells #[.slice A0_0 l0_0.length c0_0, .slice A0_1 l0_1.length c0_1] 25 (0, 0)) (by (with_reducible repeat (first | refine blk_drewN ?_ _ | refine blk_drew ?_ | refine blk_alloc ?_ _)); exact BK130.out)) : gb131 ≠ gb130)); clear BK130; clear HB; have BK130 := n0_; have HB := n1_; have BK131 := n2_; have GW131 := n3_; have GE131 := n4_; have NB130_131 := n5_; have NB131_130 := n6_; clear n0_ n1_ n2_ n3_ n4_ n5_ n6_; clear hb hbox hg; have hnb11 := NB130_131.out; have hnc11 := NB131_130.out; have hcz12_0 : w10.cell? ⟨gb130, 0, none⟩ = some (.slice A0_0 l0_0.length c0_0) := (blk_cell BK130.out 0).trans rfl; have hcz12_1 : w10.cell? ⟨gb130, 1, none⟩ = some (.slice A0_1 l0_1.length c0_1) := (blk_cell BK130.out 1).trans rfl; have hfz12_0 := blk_frozen BK130.out 0; have hfz12_1 := blk_frozen BK130.out 1; have hcz13_0 : w10.cell? ⟨gb131, 0, none⟩ = some (.int .i64 a1_0) := (blk_cell BK131.out 0).trans rfl; have hcz13_1 : w10.cell? ⟨gb131, 1, none⟩ = some (.int .i64 a1_1) := (blk_cell BK131.out 1).trans rfl; have hcz13_2 : w10.cell? ⟨gb131, 2, none⟩ = some (.int .i64 a1_2) := (blk_cell BK131.out 2).trans rfl; have hcz13_3 : w10.cell? ⟨gb131, 3, none⟩ = some (.string a1_3) := (blk_cell BK131.out 3).trans rfl; have hcz13_4 : w10.cell? ⟨gb131, 4, none⟩ = some (.slice A1_4 l1_4.length c1_4) := (blk_cell BK131.out 4).trans rfl; have hcz13_5 : w10.cell? ⟨gb131, 5, none⟩ = some (.slice A1_5 l1_5.length c1_5) := (blk_cell BK131.out 5).trans rfl; have hfz13_0 := blk_frozen BK131.out 0; have hfz13_1 := blk_frozen BK131.out 1; have hfz13_2 := blk_frozen BK131.out 2; have hfz13_3 := blk_frozen BK131.out 3; have hfz13_4 := blk_frozen BK131.out 4; have hfz13_5 := blk_frozen BK131.out 5) | (go_at_call 71; (with_reducible refine (tartanref05_in.calls a1_1 (l0_0.length : Int) t132 _ A3.out).mono ?_); rintro e w' ⟨rfl, ⟨nd, rfl⟩⟩; (try first | exact ⟨rfl, _, World.drewN_drewN _ _ _⟩ | exact ⟨rfl, _, Eq.trans (World.drewN_drewN _ _ _) (congrArg (World.drewN _) (Nat.add_assoc _ _ _))⟩)) | (go_at_call 71; (with_reducible refine (tartanref05_in.calls a1_1 (l0_1.length : Int) t133 _ A4.out).mono ?_); rintro e w' ⟨rfl, ⟨nd, rfl⟩⟩; (try first | exact ⟨rfl, _, World.drewN_drewN _ _ _⟩ | exact ⟨rfl, _, Eq.trans (World.drewN_drewN _ _ _) (congrArg (World.drewN _) (Nat.add_assoc _ _ _))⟩)) | (go_at_call 71; (with_reducible refine (tartanref05_in.calls a1_1 (wrap64 ((l0_0.length : Int) + 1)) true _ A6.out).mono ?_); rintro e w' ⟨rfl, ⟨nd, rfl⟩⟩; (try first | exact ⟨rfl, _, World.drewN_drewN _ _ _⟩ | exact ⟨rfl, _, Eq.trans (World.drewN_drewN _ _ _) (congrArg (World.drewN _) (Nat.add_assoc _ _ _))⟩))))
    go_ret
    exact ⟨by first | rfl | (simp [errW_none, errW_some] <;> rfl) | (simp [*, errW_none, errW_some] <;> rfl), by repeat (first | (with_reducible first | exact HB.out | apply below_alloc | apply pw_below_drewN | apply below_drew1 | refine below_set ?_ GE130.out | refine below_set ?_ GE131.out) | exact HB.out)⟩
   ·rw [if_neg c8] at H
    have c8b0 : ((l1_4.length : Int) == (l0_1.length : Int)) = false := beq_eq_false_iff_ne.mpr c8
    have c8b1 : ((l1_4.length : Int) != (l0_1.length : Int)) = true := bne_iff_ne.mpr c8
    have c8b2 : (l1_4.length == l0_1.length) = false := by first | simpa using c8 | (simp at c8 ⊢; omega)
    obtain rfl := Option.some.inj H
    go_enter Try.func32, Try.ntmps32
    go_wp2_with (first | ((with_reducible refine gate_dst (N := 2) rfl ?_); refine box_event ?hg (N := 2) ?hd (cs := #[.slice A0_0 l0_0.length c0_0, .slice A0_1 l0_1.length c0_1]) (t := 25) ?hr ?_; (case hd => rfl); (case hg => rfl); (case hr => first | (go_simp; done) | (go_simp; rfl)); intro gb130 hg w14 hbox hb; have n0_ := Aside0.mk (below_step (by repeat (first | (with_reducible first | exact HB.out | apply below_alloc | apply pw_below_drewN | apply below_drew1) | exact HB.out)) hb); have n1_ := Aside0.mk (hbox); have n2_ := Aside0.mk ((by rw [hg]; exact (below_size (by repeat (first | (with_reducible first | exact HB.out | apply below_alloc | apply pw_below_drewN | apply below_drew1) | exact HB.out))) : w.heap.size ≤ gb130)); have n3_ := Aside0.mk ((by rw [hg]; exact (below_size (by repeat (first | (with_reducible first | exact HB.out | apply below_alloc | apply pw_below_drewN | apply below_drew1) | exact HB.out))) : w.heap.size ≤ gb130)); clear HB; have HB := n0_; have BK130 := n1_; have GW130 := n2_; have GE130 := n3_; clear n0_ n1_ n2_ n3_; clear hb hbox hg) | ((with_reducible refine gate_dst (N := 3) rfl ?_); refine box_event ?hg (N := 3) ?hd (cs := #[.int .i64 a1_0, .int .i64 a1_1, .int .i64 a1_2, .string a1_3, .slice A1_4 l1_4.length c1_4, .slice A1_5 l1_5.length c1_5]) (t := 28) ?hr ?_; (case hd => rfl); (case hg => rfl); (case hr => first | (go_simp; done) | (go_simp; rfl)); intro gb131 hg w15 hbox hb; have n0_ := Aside0.mk (blk_below (g := gb130) (o := .cells #[.slice A0_0 l0_0.length c0_0, .slice A0_1 l0_1.length c0_1] 25 (0, 0)) (by (with_reducible repeat (first | refine blk_drewN ?_ _ | refine blk_drew ?_ | refine blk_alloc ?_ _)); exact BK130.out) hb); have n1_ := Aside0.mk (below_step (by repeat (first | (with_reducible first | exact HB.out | apply below_alloc | apply pw_below_drewN | apply below_drew1 | refine below_set ?_ GE130.out) | exact HB.out)) hb); have n2_ := Aside0.mk (hbox); have n3_ := Aside0.mk ((by rw [hg]; exact (below_size (by repeat (first | (with_reducible first | exact HB.out | apply below_alloc | apply pw_below_drewN | apply below_drew1 | refine below_set ?_ GE130.out) | exact HB.out))) : w.heap.size ≤ gb131)); have n4_ := Aside0.mk ((by rw [hg]; exact (below_size (by repeat (first | (with_reducible first | exact HB.out | apply below_alloc | apply pw_below_drewN | apply below_drew1 | refine below_set ?_ GE130.out) | exact HB.out))) : w.heap.size ≤ gb131)); have n5_ := Aside0.mk ((by rw [hg]; exact Nat.ne_of_lt (blk_lt (g := gb130) (o := .cells #[.slice A0_0 l0_0.length c0_0, .slice A0_1 l0_1.length c0_1] 25 (0, 0)) (by (with_reducible repeat (first | refine blk_drewN ?_ _ | refine blk_drew ?_ | refine blk_alloc ?_ _)); exact BK130.out)) : gb130 ≠ gb131)); have n6_ := Aside0.mk ((by rw [hg]; exact Nat.ne_of_gt (blk_lt (g := gb130) (o := .cells #[.slice A0_0 l0_0.length c0_0, .slice A0_1 l0_1.length c0_1] 25 (0, 0)) (by (with_reducible repeat (first | refine blk_drewN ?_ _ | refine blk_drew ?_ | refine blk_alloc ?_ _)); exact BK130.out)) : gb131 ≠ gb130)); clear BK130; clear HB; have BK130 := n0_; have HB := n1_; have BK131 := n2_; have GW131 := n3_; have GE131 := n4_; have NB130_131 := n5_; have NB131_130 := n6_; clear n0_ n1_ n2_ n3_ n4_ n5_ n6_; clear hb hbox hg; have hnb16 := NB130_131.out; have hnc16 := NB131_130.out; have hcz17_0 : w15.cell? ⟨gb130, 0, none⟩ = some (.slice A0_0 l0_0.length c0_0) := (blk_cell BK130.out 0).trans rfl; have hcz17_1 : w15.cell? ⟨gb130, 1, none⟩ = some (.slice A0_1 l0_1.length c0_1) := (blk_cell BK130.out 1).trans rfl; have hfz17_0 := blk_frozen BK130.out 0; have hfz17_1 := blk_frozen BK130.out 1; have hcz18_0 : w15.cell? ⟨gb131, 0, none⟩ = some (.int .i64 a1_0) := (blk_cell BK131.out 0).trans rfl; have hcz18_1 : w15.cell? ⟨gb131, 1, none⟩ = some (.int .i64 a1_1) := (blk_cell BK131.out 1).trans rfl; have hcz18_2 : w15.cell? ⟨gb131, 2, none⟩ = some (.int .i64 a1_2) := (blk_cell BK131.out 2).trans rfl; have hcz18_3 : w15.cell? ⟨gb131, 3, none⟩ = some (.string a1_3) := (blk_cell BK131.out 3).trans rfl; have hcz18_4 : w15.cell? ⟨gb131, 4, none⟩ = some (.slice A1_4 l1_4.length c1_4) := (blk_cell BK131.out 4).trans rfl; have hcz18_5 : w15.cell? ⟨gb131, 5, none⟩ = some (.slice A1_5 l1_5.length c1_5) := (blk_cell BK131.out 5).trans rfl; have hfz18_0 := blk_frozen BK131.out 0; have hfz18_1 := blk_frozen BK131.out 1; have hfz18_2 := blk_frozen BK131.out 2; have hfz18_3 := blk_frozen BK131.out 3; have hfz18_4 := blk_frozen BK131.out 4; have hfz18_5 := blk_frozen BK131.out 5) | (go_at_call 71; (with_reducible refine (tartanref05_in.calls a1_1 (l0_0.length : Int) t132 _ A3.out).mono ?_); rintro e w' ⟨rfl, ⟨nd, rfl⟩⟩; (try first | exact ⟨rfl, _, World.drewN_drewN _ _ _⟩ | exact ⟨rfl, _, Eq.trans (World.drewN_drewN _ _ _) (congrArg (World.drewN _) (Nat.add_assoc _ _ _))⟩)) | (go_at_call 71; (with_reducible refine (tartanref05_in.calls a1_1 (l0_1.length : Int) t133 _ A4.out).mono ?_); rintro e w' ⟨rfl, ⟨nd, rfl⟩⟩; (try first | exact ⟨rfl, _, World.drewN_drewN _ _ _⟩ | exact ⟨rfl, _, Eq.trans (World.drewN_drewN _ _ _) (congrArg (World.drewN _) (Nat.add_assoc _ _ _))⟩)) | (go_at_call 71; (with_reducible refine (tartanref05_in.calls a1_1 (wrap64 ((l0_0.length : Int) + 1)) true _ A6.out).mono ?_); rintro e w' ⟨rfl, ⟨nd, rfl⟩⟩; (try first | exact ⟨rfl, _, World.drewN_drewN _ _ _⟩ | exact ⟨rfl, _, Eq.trans (World.drewN_drewN _ _ _) (congrArg (World.drewN _) (Nat.add_assoc _ _ _))⟩)))
    repeat (go_quiet (first | ((with_reducible refine gate_dst (N := 2) rfl ?_); refine box_event ?hg (N := 2) ?hd (cs := #[.slice A0_0 l0_0.length c0_0, .slice A0_1 l0_1.length c0_1]) (t := 25) ?hr ?_; (case hd => rfl); (case hg => rfl); (case hr => first | (go_simp; done) | (go_simp; rfl)); intro gb130 hg w14 hbox hb; have n0_ := Aside0.mk (below_step (by repeat (first | (with_reducible first | exact HB.out | apply below_alloc | apply pw_below_drewN | apply below_drew1) | exact HB.out)) hb); have n1_ := Aside0.mk (hbox); have n2_ := Aside0.mk ((by rw [hg]; exact (below_size (by repeat (first | (with_reducible first | exact HB.out | apply below_alloc | apply pw_below_drewN | apply below_drew1) | exact HB.out))) : w.heap.size ≤ gb130)); have n3_ := Aside0.mk ((by rw [hg]; exact (below_size (by repeat (first | (with_reducible first | exact HB.out | apply below_alloc | apply pw_below_drewN | apply below_drew1) | exact HB.out))) : w.heap.size ≤ gb130)); clear HB; have HB := n0_; have BK130 := n1_; have GW130 := n2_; have GE130 := n3_; clear n0_ n1_ n2_ n3_; clear hb hbox hg) | ((with_reducible refine gate_dst (N := 3) rfl ?_); refine box_event ?hg (N := 3) ?hd (cs := #[.int .i64 a1_0, .int .i64 a1_1, .int .i64 a1_2, .string a1_3, .slice A1_4 l1_4.length c1_4, .slice A1_5 l1_5.length c1_5]) (t := 28) ?hr ?_; (case hd => rfl); (case hg => rfl); (case hr => first | (go_simp; done) | (go_simp; rfl)); intro gb131 hg w15 hbox hb; have n0_ := Aside0.mk (blk_below (g := gb130) (o := .cells #[.slice A0_0 l0_0.length c0_0, .slice A0_1 l0_1.length c0_1] 25 (0, 0)) (by (with_reducible repeat (first | refine blk_drewN ?_ _ | refine blk_drew ?_ | refine blk_alloc ?_ _)); exact BK130.out) hb); have n1_ := Aside0.mk (below_step (by repeat (first | (with_reducible first | exact HB.out | apply below_alloc | apply pw_below_drewN | apply below_drew1 | refine below_set ?_ GE130.out) | exact HB.out)) hb); have n2_ := Aside0.mk (hbox); have n3_ := Aside0.mk ((by rw [hg]; exact (below_size (by repeat (first | (with_reducible first | exact HB.out | apply below_alloc | apply pw_below_drewN | apply below_drew1 | refine below_set ?_ GE130.out) | exact HB.out))) : w.heap.size ≤ gb131)); have n4_ := Aside0.mk ((by rw [hg]; exact (below_size (by repeat (first | (with_reducible first | exact HB.out | apply below_alloc | apply pw_below_drewN | apply below_drew1 | refine below_set ?_ GE130.out) | exact HB.out))) : w.heap.size ≤ gb131)); have n5_ := Aside0.mk ((by rw [hg]; exact Nat.ne_of_lt (blk_lt (g := gb130) (o := .cells #[.slice A0_0 l0_0.length c0_0, .slice A0_1 l0_1.length c0_1] 25 (0, 0)) (by (with_reducible repeat (first | refine blk_drewN ?_ _ | refine blk_drew ?_ | refine blk_alloc ?_ _)); exact BK130.out)) : gb130 ≠ gb131)); have n6_ := Aside0.mk ((by rw [hg]; exact Nat.ne_of_gt (blk_lt (g := gb130) (o := .cells #[.slice A0_0 l0_0.length c0_0, .slice A0_1 l0_1.length c0_1] 25 (0, 0)) (by (with_reducible repeat (first | refine blk_drewN ?_ _ | refine blk_drew ?_ | refine blk_alloc ?_ _)); exact BK130.out)) : gb131 ≠ gb130)); clear BK130; clear HB; have BK130 := n0_; have HB := n1_; have BK131 := n2_; have GW131 := n3_; have GE131 := n4_; have NB130_131 := n5_; have NB131_130 := n6_; clear n0_ n1_ n2_ n3_ n4_ n5_ n6_; clear hb hbox hg; have hnb16 := NB130_131.out; have hnc16 := NB131_130.out; have hcz17_0 : w15.cell? ⟨gb130, 0, none⟩ = some (.slice A0_0 l0_0.length c0_0) := (blk_cell BK130.out 0).trans rfl; have hcz17_1 : w15.cell? ⟨gb130, 1, none⟩ = some (.slice A0_1 l0_1.length c0_1) := (blk_cell BK130.out 1).trans rfl; have hfz17_0 := blk_frozen BK130.out 0; have hfz17_1 := blk_frozen BK130.out 1; have hcz18_0 : w15.cell? ⟨gb131, 0, none⟩ = some (.int .i64 a1_0) := (blk_cell BK131.out 0).trans rfl; have hcz18_1 : w15.cell? ⟨gb131, 1, none⟩ = some (.int .i64 a1_1) := (blk_cell BK131.out 1).trans rfl; have hcz18_2 : w15.cell? ⟨gb131, 2, none⟩ = some (.int .i64 a1_2) := (blk_cell BK131.out 2).trans rfl; have hcz18_3 : w15.cell? ⟨gb131, 3, none⟩ = some (.string a1_3) := (blk_cell BK131.out 3).trans rfl; have hcz18_4 : w15.cell? ⟨gb131, 4, none⟩ = some (.slice A1_4 l1_4.length c1_4) := (blk_cell BK131.out 4).trans rfl; have hcz18_5 : w15.cell? ⟨gb131, 5, none⟩ = some (.slice A1_5 l1_5.length c1_5) := (blk_cell BK131.out 5).trans rfl; have hfz18_0 := blk_frozen BK131.out 0; have hfz18_1 := blk_frozen BK131.out 1; have hfz18_2 := blk_frozen BK131.out 2; have hfz18_3 := blk_frozen BK131.out 3; have hfz18_4 := blk_frozen BK131.out 4; have hfz18_5 := blk_frozen BK131.out 5) | (go_at_call 71; (with_reducible refine (tartanref05_in.calls a1_1 (l0_0.length : Int) t132 _ A3.out).mono ?_); rintro e w' ⟨rfl, ⟨nd, rfl⟩⟩; (try first | exact ⟨rfl, _, World.drewN_drewN _ _ _⟩ | exact ⟨rfl, _, Eq.trans (World.drewN_drewN _ _ _) (congrArg (World.drewN _) (Nat.add_assoc _ _ _))⟩)) | (go_at_call 71; (with_reducible refine (tartanref05_in.calls a1_1 (l0_1.length : Int) t133 _ A4.out).mono ?_); rintro e w' ⟨rfl, ⟨nd, rfl⟩⟩; (try first | exact ⟨rfl, _, World.drewN_drewN _ _ _⟩ | exact ⟨rfl, _, Eq.trans (World.drewN_drewN _ _ _) (congrArg (World.drewN _) (Nat.add_assoc _ _ _))⟩)) | (go_at_call 71; (with_reducible refine (tartanref05_in.calls a1_1 (wrap64 ((l0_0.length : Int) + 1)) true _ A6.out).mono ?_); rintro e w' ⟨rfl, ⟨nd, rfl⟩⟩; (try first | exact ⟨rfl, _, World.drewN_drewN _ _ _⟩ | exact ⟨rfl, _, Eq.trans (World.drewN_drewN _ _ _) (congrArg (World.drewN _) (Nat.add_assoc _ _ _))⟩))); try go_wp2_with (first | ((with_reducible refine gate_dst (N := 2) rfl ?_); refine box_event ?hg (N := 2) ?hd (cs := #[.slice A0_0 l0_0.length c0_0, .slice A0_1 l0_1.length c0_1]) (t := 25) ?hr ?_; (case hd => rfl); (case hg => rfl); (case hr => first | (go_simp; done) | (go_simp; rfl)); intro gb130 hg w14 hbox hb; have n0_ := Aside0.mk (below_step (by repeat (first | (with_reducible first | exact HB.out | apply below_alloc | apply pw_below_drewN | apply below_drew1) | exact HB.out)) hb); have n1_ := Aside0.mk (hbox); have n2_ := Aside0.mk ((by rw [hg]; exact (below_size (by repeat (first | (with_reducible first | exact HB.out | apply below_alloc | apply pw_below_drewN | apply below_drew1) | exact HB.out))) : w.heap.size ≤ gb130)); have n3_ := Aside0.mk ((by rw [hg]; exact (below_size (by repeat (first | (with_reducible first | exact HB.out | apply below_alloc | apply pw_below_drewN | apply below_drew1) | exact HB.out))) : w.heap.size ≤ gb130)); clear HB; have HB := n0_; have BK130 := n1_; have GW130 := n2_; have GE130 := n3_; clear n0_ n1_ n2_ n3_; clear hb hbox hg) | ((with_reducible refine gate_dst (N := 3) rfl ?_); refine box_event ?hg (N := 3) ?hd (cs := #[.int .i64 a1_0, .int .i64 a1_1, .int .i64 a1_2, .string a1_3, .slice A1_4 l1_4.length c1_4, .slice A1_5 l1_5.length c1_5]) (t := 28) ?hr ?_; (case hd => rfl); (case hg => rfl); (case hr => first | (go_simp; done) | (go_simp; rfl)); intro gb131 hg w15 hbox hb; have n0_ := Aside0.mk (blk_below (g := gb130) (o := .cells #[.slice A0_0 l0_0.length c0_0, .slice A0_1 l0_1.length c0_1] 25 (0, 0)) (by (with_reducible repeat (first | refine blk_drewN ?_ _ | refine blk_drew ?_ | refine blk_alloc ?_ _)); exact BK130.out) hb); have n1_ := Aside0.mk (below_step (by repeat (first | (with_reducible first | exact HB.out | apply below_alloc | apply pw_below_drewN | apply below_drew1 | refine below_set ?_ GE130.out) | exact HB.out)) hb); have n2_ := Aside0.mk (hbox); have n3_ := Aside0.mk ((by rw [hg]; exact (below_size (by repeat (first | (with_reducible first | exact HB.out | apply below_alloc | apply pw_below_drewN | apply below_drew1 | refine below_set ?_ GE130.out) | exact HB.out))) : w.heap.size ≤ gb131)); have n4_ := Aside0.mk ((by rw [hg]; exact (below_size (by repeat (first | (with_reducible first | exact HB.out | apply below_alloc | apply pw_below_drewN | apply below_drew1 | refine below_set ?_ GE130.out) | exact HB.out))) : w.heap.size ≤ gb131)); have n5_ := Aside0.mk ((by rw [hg]; exact Nat.ne_of_lt (blk_lt (g := gb130) (o := .cells #[.slice A0_0 l0_0.length c0_0, .slice A0_1 l0_1.length c0_1] 25 (0, 0)) (by (with_reducible repeat (first | refine blk_drewN ?_ _ | refine blk_drew ?_ | refine blk_alloc ?_ _)); exact BK130.out)) : gb130 ≠ gb131)); have n6_ := Aside0.mk ((by rw [hg]; exact Nat.ne_of_gt (blk_lt (g := gb130) (o := .cells #[.slice A0_0 l0_0.length c0_0, .slice A0_1 l0_1.length c0_1] 25 (0, 0)) (by (with_reducible repeat (first | refine blk_drewN ?_ _ | refine blk_drew ?_ | refine blk_alloc ?_ _)); exact BK130.out)) : gb131 ≠ gb130)); clear BK130; clear HB; have BK130 := n0_; have HB := n1_; have BK131 := n2_; have GW131 := n3_; have GE131 := n4_; have NB130_131 := n5_; have NB131_130 := n6_; clear n0_ n1_ n2_ n3_ n4_ n5_ n6_; clear hb hbox hg; have hnb16 := NB130_131.out; have hnc16 := NB131_130.out; have hcz17_0 : w15.cell? ⟨gb130, 0, none⟩ = some (.slice A0_0 l0_0.length c0_0) := (blk_cell BK130.out 0).trans rfl; have hcz17_1 : w15.cell? ⟨gb130, 1, none⟩ = some (.slice A0_1 l0_1.length c0_1) := (blk_cell BK130.out 1).trans rfl; have hfz17_0 := blk_frozen BK130.out 0; have hfz17_1 := blk_frozen BK130.out 1; have hcz18_0 : w15.cell? ⟨gb131, 0, none⟩ = some (.int .i64 a1_0) := (blk_cell BK131.out 0).trans rfl; have hcz18_1 : w15.cell? ⟨gb131, 1, none⟩ = some (.int .i64 a1_1) := (blk_cell BK131.out 1).trans rfl; have hcz18_2 : w15.cell? ⟨gb131, 2, none⟩ = some (.int .i64 a1_2) := (blk_cell BK131.out 2).trans rfl; have hcz18_3 : w15.cell? ⟨gb131, 3, none⟩ = some (.string a1_3) := (blk_cell BK131.out 3).trans rfl; have hcz18_4 : w15.cell? ⟨gb131, 4, none⟩ = some (.slice A1_4 l1_4.length c1_4) := (blk_cell BK131.out 4).trans rfl; have hcz18_5 : w15.cell? ⟨gb131, 5, none⟩ = some (.slice A1_5 l1_5.length c1_5) := (blk_cell BK131.out 5).trans rfl; have hfz18_0 := blk_frozen BK131.out 0; have hfz18_1 := blk_frozen BK131.out 1; have hfz18_2 := blk_frozen BK131.out 2; have hfz18_3 := blk_frozen BK131.out 3; have hfz18_4 := blk_frozen BK131.out 4; have hfz18_5 := blk_frozen BK131.out 5) | (go_at_call 71; (with_reducible refine (tartanref05_in.calls a1_1 (l0_0.length : Int) t132 _ A3.out).mono ?_); rintro e w' ⟨rfl, ⟨nd, rfl⟩⟩; (try first | exact ⟨rfl, _, World.drewN_drewN _ _ _⟩ | exact ⟨rfl, _, Eq.trans (World.drewN_drewN _ _ _) (congrArg (World.drewN _) (Nat.add_assoc _ _ _))⟩)) | (go_at_call 71; (with_reducible refine (tartanref05_in.calls a1_1 (l0_1.length : Int) t133 _ A4.out).mono ?_); rintro e w' ⟨rfl, ⟨nd, rfl⟩⟩; (try first | exact ⟨rfl, _, World.drewN_drewN _ _ _⟩ | exact ⟨rfl, _, Eq.trans (World.drewN_drewN _ _ _) (congrArg (World.drewN _) (Nat.add_assoc _ _ _))⟩)) | (go_at_call 71; (with_reducible refine (tartanref05_in.calls a1_1 (wrap64 ((l0_0.length : Int) + 1)) true _ A6.out).mono ?_); rintro e w' ⟨rfl, ⟨nd, rfl⟩⟩; (try first | exact ⟨rfl, _, World.drewN_drewN _ _ _⟩ | exact ⟨rfl, _, Eq.trans (World.drewN_drewN _ _ _) (congrArg (World.drewN _) (Nat.add_assoc _ _ _))⟩))))
    go_ret
    exact ⟨by first | rfl | (simp [errW_none, errW_some] <;> rfl) | (simp [*, errW_none, errW_some] <;> rfl), by repeat (first | (with_reducible first | exact HB.out | apply below_alloc | apply pw_below_drewN | apply below_drew1 | refine below_set ?_ GE130.out | refine below_set ?_ GE131.out) | exact HB.out)⟩
  ·replace c7 := Bool.eq_false_iff.mpr c7
   subst c7
   have H1 : (some 11) = some r := by rw [if_neg (show ¬ (false = true) by decide)] at H; exact H
   clear H
   have H := H1
   clear H1
   obtain rfl := Option.some.inj H
   go_enter Try.func32, Try.ntmps32
   go_wp2_with (first | ((with_reducible refine gate_dst (N := 2) rfl ?_); refine box_event ?hg (N := 2) ?hd (cs := #[.slice A0_0 l0_0.length c0_0, .slice A0_1 l0_1.length c0_1]) (t := 25) ?hr ?_; (case hd => rfl); (case hg => rfl); (case hr => first | (go_simp; done) | (go_simp; rfl)); intro gb130 hg w19 hbox hb; have n0_ := Aside0.mk (below_step (by repeat (first | (with_reducible first | exact HB.out | apply below_alloc | apply pw_below_drewN | apply below_drew1) | exact HB.out)) hb); have n1_ := Aside0.mk (hbox); have n2_ := Aside0.mk ((by rw [hg]; exact (below_size (by repeat (first | (with_reducible first | exact HB.out | apply below_alloc | apply pw_below_drewN | apply below_drew1) | exact HB.out))) : w.heap.size ≤ gb130)); have n3_ := Aside0.mk ((by rw [hg]; exact (below_size (by repeat (first | (with_reducible first | exact HB.out | apply below_alloc | apply pw_below_drewN | apply below_drew1) | exact HB.out))) : w.heap.size ≤ gb130)); clear HB; have HB := n0_; have BK130 := n1_; have GW130 := n2_; have GE130 := n3_; clear n0_ n1_ n2_ n3_; clear hb hbox hg) | ((with_reducible refine gate_dst (N := 3) rfl ?_); refine box_event ?hg (N := 3) ?hd (cs := #[.int .i64 a1_0, .int .i64 a1_1, .int .i64 a1_2, .string a1_3, .slice A1_4 l1_4.length c1_4, .slice A1_5 l1_5.length c1_5]) (t := 28) ?hr ?_; (case hd => rfl); (case hg => rfl); (case hr => first | (go_simp; done) | (go_simp; rfl)); intro gb131 hg w20 hbox hb; have n0_ := Aside0.mk (blk_below (g := gb130) (o := .cells #[.slice A0_0 l0_0.length c0_0, .slice A0_1 l0_1.length c0_1] 25 (0, 0)) (by (with_reducible repeat (first | refine blk_drewN ?_ _ | refine blk_drew ?_ | refine blk_alloc ?_ _)); exact BK130.out) hb); have n1_ := Aside0.mk (below_step (by repeat (first | (with_reducible first | exact HB.out | apply below_alloc | apply pw_below_drewN | apply below_drew1 | refine below_set ?_ GE130.out) | exact HB.out)) hb); have n2_ := Aside0.mk (hbox); have n3_ := Aside0.mk ((by rw [hg]; exact (below_size (by repeat (first | (with_reducible first | exact HB.out | apply below_alloc | apply pw_below_drewN | apply below_drew1 | refine below_set ?_ GE130.out) | exact HB.out))) : w.heap.size ≤ gb131)); have n4_ := Aside0.mk ((by rw [hg]; exact (below_size (by repeat (first | (with_reducible first | exact HB.out | apply below_alloc | apply pw_below_drewN | apply below_drew1 | refine below_set ?_ GE130.out) | exact HB.out))) : w.heap.size ≤ gb131)); have n5_ := Aside0.mk ((by rw [hg]; exact Nat.ne_of_lt (blk_lt (g := gb130) (o := .cells #[.slice A0_0 l0_0.length c0_0, .slice A0_1 l0_1.length c0_1] 25 (0, 0)) (by (with_reducible repeat (first | refine blk_drewN ?_ _ | refine blk_drew ?_ | refine blk_alloc ?_ _)); exact BK130.out)) : gb130 ≠ gb131)); have n6_ := Aside0.mk ((by rw [hg]; exact Nat.ne_of_gt (blk_lt (g := gb130) (o := .cells #[.slice A0_0 l0_0.length c0_0, .slice A0_1 l0_1.length c0_1] 25 (0, 0)) (by (with_reducible repeat (first | refine blk_drewN ?_ _ | refine blk_drew ?_ | refine blk_alloc ?_ _)); exact BK130.out)) : gb131 ≠ gb130)); clear BK130; clear HB; have BK130 := n0_; have HB := n1_; have BK131 := n2_; have GW131 := n3_; have GE131 := n4_; have NB130_131 := n5_; have NB131_130 := n6_; clear n0_ n1_ n2_ n3_ n4_ n5_ n6_; clear hb hbox hg; have hnb21 := NB130_131.out; have hnc21 := NB131_130.out; have hcz22_0 : w20.cell? ⟨gb130, 0, none⟩ = some (.slice A0_0 l0_0.length c0_0) := (blk_cell BK130.out 0).trans rfl; have hcz22_1 : w20.cell? ⟨gb130, 1, none⟩ = some (.slice A0_1 l0_1.length c0_1) := (blk_cell BK130.out 1).trans rfl; have hfz22_0 := blk_frozen BK130.out 0; have hfz22_1 := blk_frozen BK130.out 1; have hcz23_0 : w20.cell? ⟨gb131, 0, none⟩ = some (.int .i64 a1_0) := (blk_cell BK131.out 0).trans rfl; have hcz23_1 : w20.cell? ⟨gb131, 1, none⟩ = some (.int .i64 a1_1) := (blk_cell BK131.out 1).trans rfl; have hcz23_2 : w20.cell? ⟨gb131, 2, none⟩ = some (.int .i64 a1_2) := (blk_cell BK131.out 2).trans rfl; have hcz23_3 : w20.cell? ⟨gb131, 3, none⟩ = some (.string a1_3) := (blk_cell BK131.out 3).trans rfl; have hcz23_4 : w20.cell? ⟨gb131, 4, none⟩ = some (.slice A1_4 l1_4.length c1_4) := (blk_cell BK131.out 4).trans rfl; have hcz23_5 : w20.cell? ⟨gb131, 5, none⟩ = some (.slice A1_5 l1_5.length c1_5) := (blk_cell BK131.out 5).trans rfl; have hfz23_0 := blk_frozen BK131.out 0; have hfz23_1 := blk_frozen BK131.out 1; have hfz23_2 := blk_frozen BK131.out 2; have hfz23_3 := blk_frozen BK131.out 3; have hfz23_4 := blk_frozen BK131.out 4; have hfz23_5 := blk_frozen BK131.out 5) | (go_at_call 71; (with_reducible refine (tartanref05_in.calls a1_1 (l0_0.length : Int) t132 _ A3.out).mono ?_); rintro e w' ⟨rfl, ⟨nd, rfl⟩⟩; (try first | exact ⟨rfl, _, World.drewN_drewN _ _ _⟩ | exact ⟨rfl, _, Eq.trans (World.drewN_drewN _ _ _) (congrArg (World.drewN _) (Nat.add_assoc _ _ _))⟩)) | (go_at_call 71; (with_reducible refine (tartanref05_in.calls a1_1 (l0_1.length : Int) t133 _ A4.out).mono ?_); rintro e w' ⟨rfl, ⟨nd, rfl⟩⟩; (try first | exact ⟨rfl, _, World.drewN_drewN _ _ _⟩ | exact ⟨rfl, _, Eq.trans (World.drewN_drewN _ _ _) (congrArg (World.drewN _) (Nat.add_assoc _ _ _))⟩)) | (go_at_call 71; (with_reducible refine (tartanref05_in.calls a1_1 (wrap64 ((l0_0.length : Int) + 1)) false _ A6.out).mono ?_); rintro e w' ⟨rfl, ⟨nd, rfl⟩⟩; (try first | exact ⟨rfl, _, World.drewN_drewN _ _ _⟩ | exact ⟨rfl, _, Eq.trans (World.drewN_drewN _ _ _) (congrArg (World.drewN _) (Nat.add_assoc _ _ _))⟩)))
   repeat (go_quiet (first | ((with_reducible refine gate_dst (N := 2) rfl ?_); refine box_event ?hg (N := 2) ?hd (cs := #[.slice A0_0 l0_0.length c0_0, .slice A0_1 l0_1.length c0_1]) (t := 25) ?hr ?_; (case hd => rfl); (case hg => rfl); (case hr => first | (go_simp; done) | (go_simp; rfl)); intro gb130 hg w19 hbox hb; have n0_ := Aside0.mk (below_step (by repeat (first | (with_reducible first | exact HB.out | apply below_alloc | apply pw_below_drewN | apply below_drew1) | exact HB.out)) hb); have n1_ := Aside0.mk (hbox); have n2_ := Aside0.mk ((by rw [hg]; exact (below_size (by repeat (first | (with_reducible first | exact HB.out | apply below_alloc | apply pw_below_drewN | apply below_drew1) | exact HB.out))) : w.heap.size ≤ gb130)); have n3_ := Aside0.mk ((by rw [hg]; exact (below_size (by repeat (first | (with_reducible first | exact HB.out | apply below_alloc | apply pw_below_drewN | apply below_drew1) | exact HB.out))) : w.heap.size ≤ gb130)); clear HB; have HB := n0_; have BK130 := n1_; have GW130 := n2_; have GE130 := n3_; clear n0_ n1_ n2_ n3_; clear hb hbox hg) | ((with_reducible refine gate_dst (N := 3) rfl ?_); refine box_event ?hg (N := 3) ?hd (cs := #[.int .i64 a1_0, .int .i64 a1_1, .int .i64 a1_2, .string a1_3, .slice A1_4 l1_4.length c1_4, .slice A1_5 l1_5.length c1_5]) (t := 28) ?hr ?_; (case hd => rfl); (case hg => rfl); (case hr => first | (go_simp; done) | (go_simp; rfl)); intro gb131 hg w20 hbox hb; have n0_ := Aside0.mk (blk_below (g := gb130) (o := .cells #[.slice A0_0 l0_0.length c0_0, .slice A0_1 l0_1.length c0_1] 25 (0, 0)) (by (with_reducible repeat (first | refine blk_drewN ?_ _ | refine blk_drew ?_ | refine blk_alloc ?_ _)); exact BK130.out) hb); have n1_ := Aside0.mk (below_step (by repeat (first | (with_reducible first | exact HB.out | apply below_alloc | apply pw_below_drewN | apply below_drew1 | refine below_set ?_ GE130.out) | exact HB.out)) hb); have n2_ := Aside0.mk (hbox); have n3_ := Aside0.mk ((by rw [hg]; exact (below_size (by repeat (first | (with_reducible first | exact HB.out | apply below_alloc | apply pw_below_drewN | apply below_drew1 | refine below_set ?_ GE130.out) | exact HB.out))) : w.heap.size ≤ gb131)); have n4_ := Aside0.mk ((by rw [hg]; exact (below_size (by repeat (first | (with_reducible first | exact HB.out | apply below_alloc | apply pw_below_drewN | apply below_drew1 | refine below_set ?_ GE130.out) | exact HB.out))) : w.heap.size ≤ gb131)); have n5_ := Aside0.mk ((by rw [hg]; exact Nat.ne_of_lt (blk_lt (g := gb130) (o := .cells #[.slice A0_0 l0_0.length c0_0, .slice A0_1 l0_1.length c0_1] 25 (0, 0)) (by (with_reducible repeat (first | refine blk_drewN ?_ _ | refine blk_drew ?_ | refine blk_alloc ?_ _)); exact BK130.out)) : gb130 ≠ gb131)); have n6_ := Aside0.mk ((by rw [hg]; exact Nat.ne_of_gt (blk_lt (g := gb130) (o := .cells #[.slice A0_0 l0_0.length c0_0, .slice A0_1 l0_1.length c0_1] 25 (0, 0)) (by (with_reducible repeat (first | refine blk_drewN ?_ _ | refine blk_drew ?_ | refine blk_alloc ?_ _)); exact BK130.out)) : gb131 ≠ gb130)); clear BK130; clear HB; have BK130 := n0_; have HB := n1_; have BK131 := n2_; have GW131 := n3_; have GE131 := n4_; have NB130_131 := n5_; have NB131_130 := n6_; clear n0_ n1_ n2_ n3_ n4_ n5_ n6_; clear hb hbox hg; have hnb21 := NB130_131.out; have hnc21 := NB131_130.out; have hcz22_0 : w20.cell? ⟨gb130, 0, none⟩ = some (.slice A0_0 l0_0.length c0_0) := (blk_cell BK130.out 0).trans rfl; have hcz22_1 : w20.cell? ⟨gb130, 1, none⟩ = some (.slice A0_1 l0_1.length c0_1) := (blk_cell BK130.out 1).trans rfl; have hfz22_0 := blk_frozen BK130.out 0; have hfz22_1 := blk_frozen BK130.out 1; have hcz23_0 : w20.cell? ⟨gb131, 0, none⟩ = some (.int .i64 a1_0) := (blk_cell BK131.out 0).trans rfl; have hcz23_1 : w20.cell? ⟨gb131, 1, none⟩ = some (.int .i64 a1_1) := (blk_cell BK131.out 1).trans rfl; have hcz23_2 : w20.cell? ⟨gb131, 2, none⟩ = some (.int .i64 a1_2) := (blk_cell BK131.out 2).trans rfl; have hcz23_3 : w20.cell? ⟨gb131, 3, none⟩ = some (.string a1_3) := (blk_cell BK131.out 3).trans rfl; have hcz23_4 : w20.cell? ⟨gb131, 4, none⟩ = some (.slice A1_4 l1_4.length c1_4) := (blk_cell BK131.out 4).trans rfl; have hcz23_5 : w20.cell? ⟨gb131, 5, none⟩ = some (.slice A1_5 l1_5.length c1_5) := (blk_cell BK131.out 5).trans rfl; have hfz23_0 := blk_frozen BK131.out 0; have hfz23_1 := blk_frozen BK131.out 1; have hfz23_2 := blk_frozen BK131.out 2; have hfz23_3 := blk_frozen BK131.out 3; have hfz23_4 := blk_frozen BK131.out 4; have hfz23_5 := blk_frozen BK131.out 5) | (go_at_call 71; (with_reducible refine (tartanref05_in.calls a1_1 (l0_0.length : Int) t132 _ A3.out).mono ?_); rintro e w' ⟨rfl, ⟨nd, rfl⟩⟩; (try first | exact ⟨rfl, _, World.drewN_drewN _ _ _⟩ | exact ⟨rfl, _, Eq.trans (World.drewN_drewN _ _ _) (congrArg (World.drewN _) (Nat.add_assoc _ _ _))⟩)) | (go_at_call 71; (with_reducible refine (tartanref05_in.calls a1_1 (l0_1.length : Int) t133 _ A4.out).mono ?_); rintro e w' ⟨rfl, ⟨nd, rfl⟩⟩; (try first | exact ⟨rfl, _, World.drewN_drewN _ _ _⟩ | exact ⟨rfl, _, Eq.trans (World.drewN_drewN _ _ _) (congrArg (World.drewN _) (Nat.add_assoc _ _ _))⟩)) | (go_at_call 71; (with_reducible refine (tartanref05_in.calls a1_1 (wrap64 ((l0_0.length : Int) + 1)) false _ A6.out).mono ?_); rintro e w' ⟨rfl, ⟨nd, rfl⟩⟩; (try first | exact ⟨rfl, _, World.drewN_drewN _ _ _⟩ | exact ⟨rfl, _, Eq.trans (World.drewN_drewN _ _ _) (congrArg (World.drewN _) (Nat.add_assoc _ _ _))⟩))); try go_wp2_with (first | ((with_reducible refine gate_dst (N := 2) rfl ?_); refine box_event ?hg (N := 2) ?hd (cs := #[.slice A0_0 l0_0.length c0_0, .slice A0_1 l0_1.length c0_1]) (t := 25) ?hr ?_; (case hd => rfl); (case hg => rfl); (case hr => first | (go_simp; done) | (go_simp; rfl)); intro gb130 hg w19 hbox hb; have n0_ := Aside0.mk (below_step (by repeat (first | (with_reducible first | exact HB.out | apply below_alloc | apply pw_below_drewN | apply below_drew1) | exact HB.out)) hb); have n1_ := Aside0.mk (hbox); have n2_ := Aside0.mk ((by rw [hg]; exact (below_size (by repeat (first | (with_reducible first | exact HB.out | apply below_alloc | apply pw_below_drewN | apply below_drew1) | exact HB.out))) : w.heap.size ≤ gb130)); have n3_ := Aside0.mk ((by rw [hg]; exact (below_size (by repeat (first | (with_reducible first | exact HB.out | apply below_alloc | apply pw_below_drewN | apply below_drew1) | exact HB.out))) : w.heap.size ≤ gb130)); clear HB; have HB := n0_; have BK130 := n1_; have GW130 := n2_; have GE130 := n3_; clear n0_ n1_ n2_ n3_; clear hb hbox hg) | ((with_reducible refine gate_dst (N := 3) rfl ?_); refine box_event ?hg (N := 3) ?hd (cs := #[.int .i64 a1_0, .int .i64 a1_1, .int .i64 a1_2, .string a1_3, .slice A1_4 l1_4.length c1_4, .slice A1_5 l1_5.length c1_5]) (t := 28) ?hr ?_; (case hd => rfl); (case hg => rfl); (case hr => first | (go_simp; done) | (go_simp; rfl)); intro gb131 hg w20 hbox hb; have n0_ := Aside0.mk (blk_below (g := gb130) (o := .cells #[.slice A0_0 l0_0.length c0_0, .slice A0_1 l0_1.length c0_1] 25 (0, 0)) (by (with_reducible repeat (first | refine blk_drewN ?_ _ | refine blk_drew ?_ | refine blk_alloc ?_ _)); exact BK130.out) hb); have n1_ := Aside0.mk (below_step (by repeat (first | (with_reducible first | exact HB.out | apply below_alloc | apply pw_below_drewN | apply below_drew1 | refine below_set ?_ GE130.out) | exact HB.out)) hb); have n2_ := Aside0.mk (hbox); have n3_ := Aside0.mk ((by rw [hg]; exact (below_size (by repeat (first | (with_reducible first | exact HB.out | apply below_alloc | apply pw_below_drewN | apply below_drew1 | refine below_set ?_ GE130.out) | exact HB.out))) : w.heap.size ≤ gb131)); have n4_ := Aside0.mk ((by rw [hg]; exact (below_size (by repeat (first | (with_reducible first | exact HB.out | apply below_alloc | apply pw_below_drewN | apply below_drew1 | refine below_set ?_ GE130.out) | exact HB.out))) : w.heap.size ≤ gb131)); have n5_ := Aside0.mk ((by rw [hg]; exact Nat.ne_of_lt (blk_lt (g := gb130) (o := .cells #[.slice A0_0 l0_0.length c0_0, .slice A0_1 l0_1.length c0_1] 25 (0, 0)) (by (with_reducible repeat (first | refine blk_drewN ?_ _ | refine blk_drew ?_ | refine blk_alloc ?_ _)); exact BK130.out)) : gb130 ≠ gb131)); have n6_ := Aside0.mk ((by rw [hg]; exact Nat.ne_of_gt (blk_lt (g := gb130) (o := .cells #[.slice A0_0 l0_0.length c0_0, .slice A0_1 l0_1.length c0_1] 25 (0, 0)) (by (with_reducible repeat (first | refine blk_drewN ?_ _ | refine blk_drew ?_ | refine blk_alloc ?_ _)); exact BK130.out)) : gb131 ≠ gb130)); clear BK130; clear HB; have BK130 := n0_; have HB := n1_; have BK131 := n2_; have GW131 := n3_; have GE131 := n4_; have NB130_131 := n5_; have NB131_130 := n6_; clear n0_ n1_ n2_ n3_ n4_ n5_ n6_; clear hb hbox hg; have hnb21 := NB130_131.out; have hnc21 := NB131_130.out; have hcz22_0 : w20.cell? ⟨gb130, 0, none⟩ = some (.slice A0_0 l0_0.length c0_0) := (blk_cell BK130.out 0).trans rfl; have hcz22_1 : w20.cell? ⟨gb130, 1, none⟩ = some (.slice A0_1 l0_1.length c0_1) := (blk_cell BK130.out 1).trans rfl; have hfz22_0 := blk_frozen BK130.out 0; have hfz22_1 := blk_frozen BK130.out 1; have hcz23_0 : w20.cell? ⟨gb131, 0, none⟩ = some (.int .i64 a1_0) := (blk_cell BK131.out 0).trans rfl; have hcz23_1 : w20.cell? ⟨gb131, 1, none⟩ = some (.int .i64 a1_1) := (blk_cell BK131.out 1).trans rfl; have hcz23_2 : w20.cell? ⟨gb131, 2, none⟩ = some (.int .i64 a1_2) := (blk_cell BK131.out 2).trans rfl; have hcz23_3 : w20.cell? ⟨gb131, 3, none⟩ = some (.string a1_3) := (blk_cell BK131.out 3).trans rfl; have hcz23_4 : w20.cell? ⟨gb131, 4, none⟩ = some (.slice A1_4 l1_4.length c1_4) := (blk_cell BK131.out 4).trans rfl; have hcz23_5 : w20.cell? ⟨gb131, 5, none⟩ = some (.slice A1_5 l1_5.length c1_5) := (blk_cell BK131.out 5).trans rfl; have hfz23_0 := blk_frozen BK131.out 0; have hfz23_1 := blk_frozen BK131.out 1; have hfz23_2 := blk_frozen BK131.out 2; have hfz23_3 := blk_frozen BK131.out 3; have hfz23_4 := blk_frozen BK131.out 4; have hfz23_5 := blk_frozen BK131.out 5) | (go_at_call 71; (with_reducible refine (tartanref05_in.calls a1_1 (l0_0.length : Int) t132 _ A3.out).mono ?_); rintro e w' ⟨rfl, ⟨nd, rfl⟩⟩; (try first | exact ⟨rfl, _, World.drewN_drewN _ _ _⟩ | exact ⟨rfl, _, Eq.trans (World.drewN_drewN _ _ _) (congrArg (World.drewN _) (Nat.add_assoc _ _ _))⟩)) | (go_at_call 71; (with_reducible refine (tartanref05_in.calls a1_1 (l0_1.length : Int) t133 _ A4.out).mono ?_); rintro e w' ⟨rfl, ⟨nd, rfl⟩⟩; (try first | exact ⟨rfl, _, World.drewN_drewN _ _ _⟩ | exact ⟨rfl, _, Eq.trans (World.drewN_drewN _ _ _) (congrArg (World.drewN _) (Nat.add_assoc _ _ _))⟩)) | (go_at_call 71; (with_reducible refine (tartanref05_in.calls a1_1 (wrap64 ((l0_0.length : Int) + 1)) false _ A6.out).mono ?_); rintro e w' ⟨rfl, ⟨nd, rfl⟩⟩; (try first | exact ⟨rfl, _, World.drewN_drewN _ _ _⟩ | exact ⟨rfl, _, Eq.trans (World.drewN_drewN _ _ _) (congrArg (World.drewN _) (Nat.add_assoc _ _ _))⟩))))
   go_ret
   exact ⟨by first | rfl | (simp [errW_none, errW_some] <;> rfl) | (simp [*, errW_none, errW_some] <;> rfl), by repeat (first | (with_reducible first | exact HB.out | apply below_alloc | apply pw_below_drewN | apply below_drew1 | refine below_set ?_ GE130.out | refine below_set ?_ GE131.out) | exact HB.out)⟩
 ·rw [if_neg c5] at H
  have c5b0 : (a1_0 == 0) = false := beq_eq_false_iff_ne.mpr c5
  have c5b1 : (a1_0 != 0) = true := bne_iff_ne.mpr c5
  have HC24 := Aside0.mk H
  clear H
  go_enter Try.func32, Try.ntmps32
  go_upto_if 54 with (first | ((with_reducible refine gate_dst (N := 2) rfl ?_); refine box_event ?hg (N := 2) ?hd (cs := #[.slice A0_0 l0_0.length c0_0, .slice A0_1 l0_1.length c0_1]) (t := 25) ?hr ?_; (case hd => rfl); (case hg => rfl); (case hr => first | (go_simp; done) | (go_simp; rfl)); intro gb130 hg w25 hbox hb; have n0_ := Aside0.mk (below_step (by repeat (first | (with_reducible first | exact HB.out | apply below_alloc | apply pw_below_drewN | apply below_drew1) | exact HB.out)) hb); have n1_ := Aside0.mk (hbox); have n2_ := Aside0.mk ((by rw [hg]; exact (below_size (by repeat (first | (with_reducible first | exact HB.out | apply below_alloc | apply pw_below_drewN | apply below_drew1) | exact HB.out))) : w.heap.size ≤ gb130)); have n3_ := Aside0.mk ((by rw [hg]; exact (below_size (by repeat (first | (with_reducible first | exact HB.out | apply below_alloc | apply pw_below_drewN | apply below_drew1) | exact HB.out))) : w.heap.size ≤ gb130)); clear HB; have HB := n0_; have BK130 := n1_; have GW130 := n2_; have GE130 := n3_; clear n0_ n1_ n2_ n3_; clear hb hbox hg) | ((with_reducible refine gate_dst (N := 3) rfl ?_); refine box_event ?hg (N := 3) ?hd (cs := #[.int .i64 a1_0, .int .i64 a1_1, .int .i64 a1_2, .string a1_3, .slice A1_4 l1_4.length c1_4, .slice A1_5 l1_5.length c1_5]) (t := 28) ?hr ?_; (case hd => rfl); (case hg => rfl); (case hr => first | (go_simp; done) | (go_simp; rfl)); intro gb131 hg w26 hbox hb; have n0_ := Aside0.mk (blk_below (g := gb130) (o := .cells #[.slice A0_0 l0_0.length c0_0, .slice A0_1 l0_1.length c0_1] 25 (0, 0)) (by (with_reducible repeat (first | refine blk_drewN ?_ _ | refine blk_drew ?_ | refine blk_alloc ?_ _)); exact BK130.out) hb); have n1_ := Aside0.mk (below_step (by repeat (first | (with_reducible first | exact HB.out | apply below_alloc | apply pw_below_drewN | apply below_drew1 | refine below_set ?_ GE130.out) | exact HB.out)) hb); have n2_ := Aside0.mk (hbox); have n3_ := Aside0.mk ((by rw [hg]; exact (below_size (by repeat (first | (with_reducible first | exact HB.out | apply below_alloc | apply pw_below_drewN | apply below_drew1 | refine below_set ?_ GE130.out) | exact HB.out))) : w.heap.size ≤ gb131)); have n4_ := Aside0.mk ((by rw [hg]; exact (below_size (by repeat (first | (with_reducible first | exact HB.out | apply below_alloc | apply pw_below_drewN | apply below_drew1 | refine below_set ?_ GE130.out) | exact HB.out))) : w.heap.size ≤ gb131)); have n5_ := Aside0.mk ((by rw [hg]; exact Nat.ne_of_lt (blk_lt (g := gb130) (o := .cells #[.slice A0_0 l0_0.length c0_0, .slice A0_1 l0_1.length c0_1] 25 (0, 0)) (by (with_reducible repeat (first | refine blk_drewN ?_ _ | refine blk_drew ?_ | refine blk_alloc ?_ _)); exact BK130.out)) : gb130 ≠ gb131)); have n6_ := Aside0.mk ((by rw [hg]; exact Nat.ne_of_gt (blk_lt (g := gb130) (o := .cells #[.slice A0_0 l0_0.length c0_0, .slice A0_1 l0_1.length c0_1] 25 (0, 0)) (by (with_reducible repeat (first | refine blk_drewN ?_ _ | refine blk_drew ?_ | refine blk_alloc ?_ _)); exact BK130.out)) : gb131 ≠ gb130)); clear BK130; clear HB; have BK130 := n0_; have HB := n1_; have BK131 := n2_; have GW131 := n3_; have GE131 := n4_; have NB130_131 := n5_; have NB131_130 := n6_; clear n0_ n1_ n2_ n3_ n4_ n5_ n6_; clear hb hbox hg; have hnb27 := NB130_131.out; have hnc27 := NB131_130.out; have hcz28_0 : w26.cell? ⟨gb130, 0, none⟩ = some (.slice A0_0 l0_0.length c0_0) := (blk_cell BK130.out 0).trans rfl; have hcz28_1 : w26.cell? ⟨gb130, 1, none⟩ = some (.slice A0_1 l0_1.length c0_1) := (blk_cell BK130.out 1).trans rfl; have hfz28_0 := blk_frozen BK130.out 0; have hfz28_1 := blk_frozen BK130.out 1; have hcz29_0 : w26.cell? ⟨gb131, 0, none⟩ = some (.int .i64 a1_0) := (blk_cell BK131.out 0).trans rfl; have hcz29_1 : w26.cell? ⟨gb131, 1, none⟩ = some (.int .i64 a1_1) := (blk_cell BK131.out 1).trans rfl; have hcz29_2 : w26.cell? ⟨gb131, 2, none⟩ = some (.int .i64 a1_2) := (blk_cell BK131.out 2).trans rfl; have hcz29_3 : w26.cell? ⟨gb131, 3, none⟩ = some (.string a1_3) := (blk_cell BK131.out 3).trans rfl; have hcz29_4 : w26.cell? ⟨gb131, 4, none⟩ = some (.slice A1_4 l1_4.length c1_4) := (blk_cell BK131.out 4).trans rfl; have hcz29_5 : w26.cell? ⟨gb131, 5, none⟩ = some (.slice A1_5 l1_5.length c1_5) := (blk_cell BK131.out 5).trans rfl; have hfz29_0 := blk_frozen BK131.out 0; have hfz29_1 := blk_frozen BK131.out 1; have hfz29_2 := blk_frozen BK131.out 2; have hfz29_3 := blk_frozen BK131.out 3; have hfz29_4 := blk_frozen BK131.out 4; have hfz29_5 := blk_frozen BK131.out 5) | (go_at_call 71; (with_reducible refine (tartanref05_in.calls a1_1 (l0_0.length : Int) t132 _ A3.out).mono ?_); rintro e w' ⟨rfl, ⟨nd, rfl⟩⟩; (try first | exact ⟨rfl, _, World.drewN_drewN _ _ _⟩ | exact ⟨rfl, _, Eq.trans (World.drewN_drewN _ _ _) (congrArg (World.drewN _) (Nat.add_assoc _ _ _))⟩)) | (go_at_call 71; (with_reducible refine (tartanref05_in.calls a1_1 (l0_1.length : Int) t133 _ A4.out).mono ?_); rintro e w' ⟨rfl, ⟨nd, rfl⟩⟩; (try first | exact ⟨rfl, _, World.drewN_drewN _ _ _⟩ | exact ⟨rfl, _, Eq.trans (World.drewN_drewN _ _ _) (congrArg (World.drewN _) (Nat.add_assoc _ _ _))⟩)))
  repeat (go_quiet (first | ((with_reducible refine gate_dst (N := 2) rfl ?_); refine box_event ?hg (N := 2) ?hd (cs := #[.slice A0_0 l0_0.length c0_0, .slice A0_1 l0_1.length c0_1]) (t := 25) ?hr ?_; (case hd => rfl); (case hg => rfl); (case hr => first | (go_simp; done) | (go_simp; rfl)); intro gb130 hg w25 hbox hb; have n0_ := Aside0.mk (below_step (by repeat (first | (with_reducible first | exact HB.out | apply below_alloc | apply pw_below_drewN | apply below_drew1) | exact HB.out)) hb); have n1_ := Aside0.mk (hbox); have n2_ := Aside0.mk ((by rw [hg]; exact (below_size (by repeat (first | (with_reducible first | exact HB.out | apply below_alloc | apply pw_below_drewN | apply below_drew1) | exact HB.out))) : w.heap.size ≤ gb130)); have n3_ := Aside0.mk ((by rw [hg]; exact (below_size (by repeat (first | (with_reducible first | exact HB.out | apply below_alloc | apply pw_below_drewN | apply below_drew1) | exact HB.out))) : w.heap.size ≤ gb130)); clear HB; have HB := n0_; have BK130 := n1_; have GW130 := n2_; have GE130 := n3_; clear n0_ n1_ n2_ n3_; clear hb hbox hg) | ((with_reducible refine gate_dst (N := 3) rfl ?_); refine box_event ?hg (N := 3) ?hd (cs := #[.int .i64 a1_0, .int .i64 a1_1, .int .i64 a1_2, .string a1_3, .slice A1_4 l1_4.length c1_4, .slice A1_5 l1_5.length c1_5]) (t := 28) ?hr ?_; (case hd => rfl); (case hg => rfl); (case hr => first | (go_simp; done) | (go_simp; rfl)); intro gb131 hg w26 hbox hb; have n0_ := Aside0.mk (blk_below (g := gb130) (o := .cells #[.slice A0_0 l0_0.length c0_0, .slice A0_1 l0_1.length c0_1] 25 (0, 0)) (by (with_reducible repeat (first | refine blk_drewN ?_ _ | refine blk_drew ?_ | refine blk_alloc ?_ _)); exact BK130.out) hb); have n1_ := Aside0.mk (below_step (by repeat (first | (with_reducible first | exact HB.out | apply below_alloc | apply pw_below_drewN | apply below_drew1 | refine below_set ?_ GE130.out) | exact HB.out)) hb); have n2_ := Aside0.mk (hbox); have n3_ := Aside0.mk ((by rw [hg]; exact (below_size (by repeat (first | (with_reducible first | exact HB.out | apply below_alloc | apply pw_below_drewN | apply below_drew1 | refine below_set ?_ GE130.out) | exact HB.out))) : w.heap.size ≤ gb131)); have n4_ := Aside0.mk ((by rw [hg]; exact (below_size (by repeat (first | (with_reducible first | exact HB.out | apply below_alloc | apply pw_below_drewN | apply below_drew1 | refine below_set ?_ GE130.out) | exact HB.out))) : w.heap.size ≤ gb131)); have n5_ := Aside0.mk ((by rw [hg]; exact Nat.ne_of_lt (blk_lt (g := gb130) (o := .cells #[.slice A0_0 l0_0.length c0_0, .slice A0_1 l0_1.length c0_1] 25 (0, 0)) (by (with_reducible repeat (first | refine blk_drewN ?_ _ | refine blk_drew ?_ | refine blk_alloc ?_ _)); exact BK130.out)) : gb130 ≠ gb131)); have n6_ := Aside0.mk ((by rw [hg]; exact Nat.ne_of_gt (blk_lt (g := gb130) (o := .cells #[.slice A0_0 l0_0.length c0_0, .slice A0_1 l0_1.length c0_1] 25 (0, 0)) (by (with_reducible repeat (first | refine blk_drewN ?_ _ | refine blk_drew ?_ | refine blk_alloc ?_ _)); exact BK130.out)) : gb131 ≠ gb130)); clear BK130; clear HB; have BK130 := n0_; have HB := n1_; have BK131 := n2_; have GW131 := n3_; have GE131 := n4_; have NB130_131 := n5_; have NB131_130 := n6_; clear n0_ n1_ n2_ n3_ n4_ n5_ n6_; clear hb hbox hg; have hnb27 := NB130_131.out; have hnc27 := NB131_130.out; have hcz28_0 : w26.cell? ⟨gb130, 0, none⟩ = some (.slice A0_0 l0_0.length c0_0) := (blk_cell BK130.out 0).trans rfl; have hcz28_1 : w26.cell? ⟨gb130, 1, none⟩ = some (.slice A0_1 l0_1.length c0_1) := (blk_cell BK130.out 1).trans rfl; have hfz28_0 := blk_frozen BK130.out 0; have hfz28_1 := blk_frozen BK130.out 1; have hcz29_0 : w26.cell? ⟨gb131, 0, none⟩ = some (.int .i64 a1_0) := (blk_cell BK131.out 0).trans rfl; have hcz29_1 : w26.cell? ⟨gb131, 1, none⟩ = some (.int .i64 a1_1) := (blk_cell BK131.out 1).trans rfl; have hcz29_2 : w26.cell? ⟨gb131, 2, none⟩ = some (.int .i64 a1_2) := (blk_cell BK131.out 2).trans rfl; have hcz29_3 : w26.cell? ⟨gb131, 3, none⟩ = some (.string a1_3) := (blk_cell BK131.out 3).trans rfl; have hcz29_4 : w26.cell? ⟨gb131, 4, none⟩ = some (.slice A1_4 l1_4.length c1_4) := (blk_cell BK131.out 4).trans rfl; have hcz29_5 : w26.cell? ⟨gb131, 5, none⟩ = some (.slice A1_5 l1_5.length c1_5) := (blk_cell BK131.out 5).trans rfl; have hfz29_0 := blk_frozen BK131.out 0; have hfz29_1 := blk_frozen BK131.out 1; have hfz29_2 := blk_frozen BK131.out 2; have hfz29_3 := blk_frozen BK131.out 3; have hfz29_4 := blk_frozen BK131.out 4; have hfz29_5 := blk_frozen BK131.out 5) | (go_at_call 71; (with_reducible refine (tartanref05_in.calls a1_1 (l0_0.length : Int) t132 _ A3.out).mono ?_); rintro e w' ⟨rfl, ⟨nd, rfl⟩⟩; (try first | exact ⟨rfl, _, World.drewN_drewN _ _ _⟩ | exact ⟨rfl, _, Eq.trans (World.drewN_drewN _ _ _) (congrArg (World.drewN _) (Nat.add_assoc _ _ _))⟩)) | (go_at_call 71; (with_reducible refine (tartanref05_in.calls a1_1 (l0_1.length : Int) t133 _ A4.out).mono ?_); rintro e w' ⟨rfl, ⟨nd, rfl⟩⟩; (try first | exact ⟨rfl, _, World.drewN_drewN _ _ _⟩ | exact ⟨rfl, _, Eq.trans (World.drewN_drewN _ _ _) (congrArg (World.drewN _) (Nat.add_assoc _ _ _))⟩))); go_upto_if 54 with (first | ((with_reducible refine gate_dst (N := 2) rfl ?_); refine box_event ?hg (N := 2) ?hd (cs := #[.slice A0_0 l0_0.length c0_0, .slice A0_1 l0_1.length c0_1]) (t := 25) ?hr ?_; (case hd => rfl); (case hg => rfl); (case hr => first | (go_simp; done) | (go_simp; rfl)); intro gb130 hg w25 hbox hb; have n0_ := Aside0.mk (below_step (by repeat (first | (with_reducible first | exact HB.out | apply below_alloc | apply pw_below_drewN | apply below_drew1) | exact HB.out)) hb); have n1_ := Aside0.mk (hbox); have n2_ := Aside0.mk ((by rw [hg]; exact (below_size (by repeat (first | (with_reducible first | exact HB.out | apply below_alloc | apply pw_below_drewN | apply below_drew1) | exact HB.out))) : w.heap.size ≤ gb130)); have n3_ := Aside0.mk ((by rw [hg]; exact (below_size (by repeat (first | (with_reducible first | exact HB.out | apply below_alloc | apply pw_below_drewN | apply below_drew1) | exact HB.out))) : w.heap.size ≤ gb130)); clear HB; have HB := n0_; have BK130 := n1_; have GW130 := n2_; have GE130 := n3_; clear n0_ n1_ n2_ n3_; clear hb hbox hg) | ((with_reducible refine gate_dst (N := 3) rfl ?_); refine box_event ?hg (N := 3) ?hd (cs := #[.int .i64 a1_0, .int .i64 a1_1, .int .i64 a1_2, .string a1_3, .slice A1_4 l1_4.length c1_4, .slice A1_5 l1_5.length c1_5]) (t := 28) ?hr ?_; (case hd => rfl); (case hg => rfl); (case hr => first | (go_simp; done) | (go_simp; rfl)); intro gb131 hg w26 hbox hb; have n0_ := Aside0.mk (blk_below (g := gb130) (o := .cells #[.slice A0_0 l0_0.length c0_0, .slice A0_1 l0_1.length c0_1] 25 (0, 0)) (by (with_reducible repeat (first | refine blk_drewN ?_ _ | refine blk_drew ?_ | refine blk_alloc ?_ _)); exact BK130.out) hb); have n1_ := Aside0.mk (below_step (by repeat (first | (with_reducible first | exact HB.out | apply below_alloc | apply pw_below_drewN | apply below_drew1 | refine below_set ?_ GE130.out) | exact HB.out)) hb); have n2_ := Aside0.mk (hbox); have n3_ := Aside0.mk ((by rw [hg]; exact (below_size (by repeat (first | (with_reducible first | exact HB.out | apply below_alloc | apply pw_below_drewN | apply below_drew1 | refine below_set ?_ GE130.out) | exact HB.out))) : w.heap.size ≤ gb131)); have n4_ := Aside0.mk ((by rw [hg]; exact (below_size (by repeat (first | (with_reducible first | exact HB.out | apply below_alloc | apply pw_below_drewN | apply below_drew1 | refine below_set ?_ GE130.out) | exact HB.out))) : w.heap.size ≤ gb131)); have n5_ := Aside0.mk ((by rw [hg]; exact Nat.ne_of_lt (blk_lt (g := gb130) (o := .cells #[.slice A0_0 l0_0.length c0_0, .slice A0_1 l0_1.length c0_1] 25 (0, 0)) (by (with_reducible repeat (first | refine blk_drewN ?_ _ | refine blk_drew ?_ | refine blk_alloc ?_ _)); exact BK130.out)) : gb130 ≠ gb131)); have n6_ := Aside0.mk ((by rw [hg]; exact Nat.ne_of_gt (blk_lt (g := gb130) (o := .cells #[.slice A0_0 l0_0.length c0_0, .slice A0_1 l0_1.length c0_1] 25 (0, 0)) (by (with_reducible repeat (first | refine blk_drewN ?_ _ | refine blk_drew ?_ | refine blk_alloc ?_ _)); exact BK130.out)) : gb131 ≠ gb130)); clear BK130; clear HB; have BK130 := n0_; have HB := n1_; have BK131 := n2_; have GW131 := n3_; have GE131 := n4_; have NB130_131 := n5_; have NB131_130 := n6_; clear n0_ n1_ n2_ n3_ n4_ n5_ n6_; clear hb hbox hg; have hnb27 := NB130_131.out; have hnc27 := NB131_130.out; have hcz28_0 : w26.cell? ⟨gb130, 0, none⟩ = some (.slice A0_0 l0_0.length c0_0) := (blk_cell BK130.out 0).trans rfl; have hcz28_1 : w26.cell? ⟨gb130, 1, none⟩ = some (.slice A0_1 l0_1.length c0_1) := (blk_cell BK130.out 1).trans rfl; have hfz28_0 := blk_frozen BK130.out 0; have hfz28_1 := blk_frozen BK130.out 1; have hcz29_0 : w26.cell? ⟨gb131, 0, none⟩ = some (.int .i64 a1_0) := (blk_cell BK131.out 0).trans rfl; have hcz29_1 : w26.cell? ⟨gb131, 1, none⟩ = some (.int .i64 a1_1) := (blk_cell BK131.out 1).trans rfl; have hcz29_2 : w26.cell? ⟨gb131, 2, none⟩ = some (.int .i64 a1_2) := (blk_cell BK131.out 2).trans rfl; have hcz29_3 : w26.cell? ⟨gb131, 3, none⟩ = some (.string a1_3) := (blk_cell BK131.out 3).trans rfl; have hcz29_4 : w26.cell? ⟨gb131, 4, none⟩ = some (.slice A1_4 l1_4.length c1_4) := (blk_cell BK131.out 4).trans rfl; have hcz29_5 : w26.cell? ⟨gb131, 5, none⟩ = some (.slice A1_5 l1_5.length c1_5) := (blk_cell BK131.out 5).trans rfl; have hfz29_0 := blk_frozen BK131.out 0; have hfz29_1 := blk_frozen BK131.out 1; have hfz29_2 := blk_frozen BK131.out 2; have hfz29_3 := blk_frozen BK131.out 3; have hfz29_4 := blk_frozen BK131.out 4; have hfz29_5 := blk_frozen BK131.out 5) | (go_at_call 71; (with_reducible refine (tartanref05_in.calls a1_1 (l0_0.length : Int) t132 _ A3.out).mono ?_); rintro e w' ⟨rfl, ⟨nd, rfl⟩⟩; (try first | exact ⟨rfl, _, World.drewN_drewN _ _ _⟩ | exact ⟨rfl, _, Eq.trans (World.drewN_drewN _ _ _) (congrArg (World.drewN _) (Nat.add_assoc _ _ _))⟩)) | (go_at_call 71; (with_reducible refine (tartanref05_in.calls a1_1 (l0_1.length : Int) t133 _ A4.out).mono ?_); rintro e w' ⟨rfl, ⟨nd, rfl⟩⟩; (try first | exact ⟨rfl, _, World.drewN_drewN _ _ _⟩ | exact ⟨rfl, _, Eq.trans (World.drewN_drewN _ _ _) (congrArg (World.drewN _) (Nat.add_assoc _ _ _))⟩))))
  (try simp only [Act.put, List.setIfInBounds_toArray, List.set_cons_zero, List.set_cons_succ])
  go_cut [54] (fun v54 wc => ∃ (kq : Nat) (x54_23 : Bool), v54 = .bool x54_23 ∧ Aside0 (tartanref05_wrong.j0 kq (l0_0.length : Int) (l0_1.length : Int) t132 t133 a1_0 x54_23 a1_0 a1_1 a1_2 a1_3 l1_4 l1_5 = some r) ∧ Aside0 (kq ≤ k) ∧ Aside0 (wc.heap[gb130]? = some (.cells #[(.slice A0_0 l0_0.length c0_0), (.slice A0_1 l0_1.length c0_1)] 25 (0, 0))) ∧ Aside0 (wc.heap[gb131]? = some (.cells #[.int .i64 a1_0, .int .i64 a1_1, .int .i64 a1_2, .string a1_3, (.slice A1_4 l1_4.length c1_4), (.slice A1_5 l1_5.length c1_5)] 28 (0, 0))) ∧ Aside0 (Below w.heap.size w wc))
  case first =>
   have H := HC24.out
   clear HC24
   by_cases c30 : a1_0 = 1
   ·rw [if_pos c30] at H
    have c30b0 : (a1_0 == 1) = true := beq_iff_eq.mpr c30
    have c30b1 : (a1_0 != 1) = false := bne_eq_false_iff_eq.mpr c30
    clear c30
    (first | rw [c30b0] | (simp only [i64_w, i32_w]; rw [c30b0]) | skip)
    have H' := Aside0.mk H
    clear H
    go_wp2
    repeat (go_quiet (fail); try go_wp2)
    go_meet
    case rel => exact ⟨_, ((a1_0 == 1)), (by first | rfl | (simp; done) | (simp [*]; done)), H', ⟨by first | omega | exact Nat.le_refl _⟩, ⟨by (with_reducible repeat (first | refine blk_drewN ?_ _ | refine blk_drew ?_ | refine blk_alloc ?_ _)); exact BK130.out⟩, ⟨by (with_reducible repeat (first | refine blk_drewN ?_ _ | refine blk_drew ?_ | refine blk_alloc ?_ _)); exact BK131.out⟩, ⟨by repeat (first | (with_reducible first | exact HB.out | apply below_alloc | apply pw_below_drewN | apply below_drew1 | refine below_set ?_ GE130.out | refine below_set ?_ GE131.out) | exact HB.out)⟩⟩
   ·rw [if_neg c30] at H
    have c30b0 : (a1_0 == 1) = false := beq_eq_false_iff_ne.mpr c30
    have c30b1 : (a1_0 != 1) = true := bne_iff_ne.mpr c30
    (first | rw [c30b0] | (simp only [i64_w, i32_w]; rw [c30b0]) | skip)
    have H' := Aside0.mk H
    clear H
    go_wp2
    repeat (go_quiet (fail); try go_wp2)
    go_meet
    case rel => exact ⟨_, ((a1_0 == 2)), (by first | rfl | (simp; done) | (simp [*]; done)), H', ⟨by first | omega | exact Nat.le_refl _⟩, ⟨by (with_reducible repeat (first | refine blk_drewN ?_ _ | refine blk_drew ?_ | refine blk_alloc ?_ _)); exact BK130.out⟩, ⟨by (with_reducible repeat (first | refine blk_drewN ?_ _ | refine blk_drew ?_ | refine blk_alloc ?_ _)); exact BK131.out⟩, ⟨by repeat (first | (with_reducible first | exact HB.out | apply below_alloc | apply pw_below_drewN | apply below_drew1 | refine below_set ?_ GE130.out | refine below_set ?_ GE131.out) | exact HB.out)⟩⟩
  case rest =>
   clear HC24
   try clear c1
   try clear c2
   try clear p2
   try clear c3
   try clear c5
   try clear c5b0
   try clear c5b1
   try clear p6
   try clear c7
   try clear c8
   try clear c8b0
   try clear c8b1
   try clear c8b2
   try clear c11
   try clear c16
   try clear c21
   try clear c27
   try clear c30
   try clear c30b0
   try clear c30b1
   try clear hcz12_0
   try clear hcz12_1
   try clear hcz13_0
   try clear hcz13_1
   try clear hcz13_2
   try clear hcz13_3
   try clear hcz13_4
   try clear hcz13_5
   try clear hcz17_0
   try clear hcz17_1
   try clear hcz18_0
   try clear hcz18_1
   try clear hcz18_2
   try clear hcz18_3
   try clear hcz18_4
   try clear hcz18_5
   try clear hcz22_0
   try clear hcz22_1
   try clear hcz23_0
   try clear hcz23_1
   try clear hcz23_2
   try clear hcz23_3
   try clear hcz23_4
   try clear hcz23_5
   try clear hcz28_0
   try clear hcz28_1
   try clear hcz29_0
   try clear hcz29_1
   try clear hcz29_2
   try clear hcz29_3
   try clear hcz29_4
   try clear hcz29_5
   try clear hfz12_0
   try clear hfz12_1
   try clear hfz13_0
   try clear hfz13_1
   try clear hfz13_2
   try clear hfz13_3
   try clear hfz13_4
   try clear hfz13_5
   try clear hfz17_0
   try clear hfz17_1
   try clear hfz18_0
   try clear hfz18_1
   try clear hfz18_2
   try clear hfz18_3
   try clear hfz18_4
   try clear hfz18_5
   try clear hfz22_0
   try clear hfz22_1
   try clear hfz23_0
   try clear hfz23_1
   try clear hfz23_2
   try clear hfz23_3
   try clear hfz23_4
   try clear hfz23_5
   try clear hfz28_0
   try clear hfz28_1
   try clear hfz29_0
   try clear hfz29_1
   try clear hfz29_2
   try clear hfz29_3
   try clear hfz29_4
   try clear hfz29_5
   obtain ⟨kq, x54_23, rfl, HA, HJ23, BK130, BK131, HB⟩ := hcut
   cases kq with
   | zero => exact absurd HA.out (by simp [tartanref05_wrong.j0])
   | succ kj23 =>
    have H := HA.out
    clear HA
    simp only [tartanref05_wrong.j0] at H
    by_cases c31 : x54_23 = true
    ·subst c31
     have H1 : (if t132 = true then (some 0) else (some 11)) = some r := by first | (rw [if_pos rfl] at H; exact H) | (rw [if_pos trivial] at H; exact H) | simpa using H
     clear H
     have H := H1
     clear H1
     by_cases c32 : t132 = true
     ·subst c32
      have H1 : (some 0) = some r := by first | (rw [if_pos rfl] at H; exact H) | (rw [if_pos trivial] at H; exact H) | simpa using H
      clear H
      have H := H1
      clear H1
      obtain rfl := Option.some.inj H
      go_wp2
      repeat (go_quiet (fail); try go_wp2)
      go_ret
      exact ⟨by first | rfl | (simp [errW_none, errW_some] <;> rfl) | (simp [*, errW_none, errW_some] <;> rfl), by repeat (first | (with_reducible first | exact HB.out | apply below_alloc | apply pw_below_drewN | apply below_drew1 | refine below_set ?_ GE130.out | refine below_set ?_ GE131.out) | exact HB.out)⟩
     ·replace c32 := Bool.eq_false_iff.mpr c32
      subst c32
      have H1 : (some 11) = some r := by rw [if_neg (show ¬ (false = true) by decide)] at H; exact H
      clear H
      have H := H1
      clear H1
      obtain rfl := Option.some.inj H
      go_wp2
      repeat (go_quiet (fail); try go_wp2)
      go_ret
      exact ⟨by first | rfl | (simp [errW_none, errW_some] <;> rfl) | (simp [*, errW_none, errW_some] <;> rfl), by repeat (first | (with_reducible first | exact HB.out | apply below_alloc | apply pw_below_drewN | apply below_drew1 | refine below_set ?_ GE130.out | refine below_set ?_ GE131.out) | exact HB.out)⟩
    ·replace c31 := Bool.eq_false_iff.mpr c31
     subst c31
     have H1 : (if a1_0 = 3 then (if t132 = true then ((tartanref05_in.f a1_2 (l0_0.length : Int)).bind fun t135 => (if t135 = true then (some 0) else (some 11))) else (some 11)) else (if a1_0 = 4 then ((tartanref05_in.f a1_1 (wrap64 ((l0_1.length : Int) + 1))).bind fun t136 => (if t136 = true then (some 0) else (some 11))) else (if a1_0 = 5 then (if t133 = true then (some 0) else (some 11)) else (if a1_0 = 6 then (if t133 = true then ((tartanref05_in.f a1_2 (l0_1.length : Int)).bind fun t137 => (if t137 = true then (some 0) else (some 11))) else (some 11)) else (if a1_0 = 7 then (if t133 = true then ((tartanref05_in.f a1_2 (l0_0.length : Int)).bind fun t138 => (if t138 = true then (some 0) else (some 11))) else (some 11)) else (tartanref05_wrong.l0 kj23 (l0_0.length : Int) 0 a1_0 a1_1 a1_2 a1_3 l1_4 l1_5)))))) = some r := by rw [if_neg (show ¬ (false = true) by decide)] at H; exact H
     clear H
     have H := H1
     clear H1
     by_cases c33 : a1_0 = 3
     ·rw [if_pos c33] at H
      have c33b0 : (a1_0 == 3) = true := beq_iff_eq.mpr c33
      have c33b1 : (a1_0 != 3) = false := bne_eq_false_iff_eq.mpr c33
      clear c33
      by_cases c34 : t132 = true
      ·subst c34
       have H1 : ((tartanref05_in.f a1_2 (l0_0.length : Int)).bind fun t135 => (if t135 = true then (some 0) else (some 11))) = some r := by first | (rw [if_pos rfl] at H; exact H) | (rw [if_pos trivial] at H; exact H) | simpa using H
       clear H
       have H := H1
       clear H1
       replace H := Option.bind_eq_some_iff.mp H
       obtain ⟨t135, A350, H⟩ := H
       replace H : (if t135 = true then (some 0) else (some 11)) = some r := H
       have A35 := Aside0.mk A350
       clear A350
       by_cases c36 : t135 = true
       ·subst c36
        have H1 : (some 0) = some r := by first | (rw [if_pos rfl] at H; exact H) | (rw [if_pos trivial] at H; exact H) | simpa using H
        clear H
        have H := H1
        clear H1
        obtain rfl := Option.some.inj H
        have hnb37 := NB131_130.out
        have hnc37 := NB130_131.out
        have hcz38_0 : wc.cell? ⟨gb131, 0, none⟩ = some (.int .i64 a1_0) := (blk_cell BK131.out 0).trans rfl
        have hcz38_1 : wc.cell? ⟨gb131, 1, none⟩ = some (.int .i64 a1_1) := (blk_cell BK131.out 1).trans rfl
        have hcz38_2 : wc.cell? ⟨gb131, 2, none⟩ = some (.int .i64 a1_2) := (blk_cell BK131.out 2).trans rfl
        have hcz38_3 : wc.cell? ⟨gb131, 3, none⟩ = some (.string a1_3) := (blk_cell BK131.out 3).trans rfl
        have hcz38_4 : wc.cell? ⟨gb131, 4, none⟩ = some (.slice A1_4 l1_4.length c1_4) := (blk_cell BK131.out 4).trans rfl
        have hcz38_5 : wc.cell? ⟨gb131, 5, none⟩ = some (.slice A1_5 l1_5.length c1_5) := (blk_cell BK131.out 5).trans rfl
        have hfz38_0 := blk_frozen BK131.out 0
        have hfz38_1 := blk_frozen BK131.out 1
        have hfz38_2 := blk_frozen BK131.out 2
        have hfz38_3 := blk_frozen BK131.out 3
        have hfz38_4 := blk_frozen BK131.out 4
        have hfz38_5 := blk_frozen BK131.out 5
        go_wp2_with (first | (go_at_call 71; (with_reducible refine (tartanref05_in.calls a1_2 (l0_0.length : Int) true _ A35.out).mono ?_); rintro e w' ⟨rfl, ⟨nd, rfl⟩⟩; (try first | exact ⟨rfl, _, World.drewN_drewN _ _ _⟩ | exact ⟨rfl, _, Eq.trans (World.drewN_drewN _ _ _) (congrArg (World.drewN _) (Nat.add_assoc _ _ _))⟩)))
        repeat (go_quiet (first | (go_at_call 71; (with_reducible refine (tartanref05_in.calls a1_2 (l0_0.length : Int) true _ A35.out).mono ?_); rintro e w' ⟨rfl, ⟨nd, rfl⟩⟩; (try first | exact ⟨rfl, _, World.drewN_drewN _ _ _⟩ | exact ⟨rfl, _, Eq.trans (World.drewN_drewN _ _ _) (congrArg (World.drewN _) (Nat.add_assoc _ _ _))⟩))); try go_wp2_with (first | (go_at_call 71; (with_reducible refine (tartanref05_in.calls a1_2 (l0_0.length : Int) true _ A35.out).mono ?_); rintro e w' ⟨rfl, ⟨nd, rfl⟩⟩; (try first | exact ⟨rfl, _, World.drewN_drewN _ _ _⟩ | exact ⟨rfl, _, Eq.trans (World.drewN_drewN _ _ _) (congrArg (World.drewN _) (Nat.add_assoc _ _ _))⟩))))
        go_ret
        exact ⟨by first | rfl | (simp [errW_none, errW_some] <;> rfl) | (simp [*, errW_none, errW_some] <;> rfl), by repeat (first | (with_reducible first | exact HB.out | apply below_alloc | apply pw_below_drewN | apply below_drew1 | refine below_set ?_ GE130.out | refine below_set ?_ GE131.out) | exact HB.out)⟩
       ·replace c36 := Bool.eq_false_iff.mpr c36
        subst c36
        have H1 : (some 11) = some r := by rw [if_neg (show ¬ (false = true) by decide)] at H; exact H
        clear H
        have H := H1
        clear H1
        obtain rfl := Option.some.inj H
        have hnb39 := NB131_130.out
        have hnc39 := NB130_131.out
        have hcz40_0 : wc.cell? ⟨gb131, 0, none⟩ = some (.int .i64 a1_0) := (blk_cell BK131.out 0).trans rfl
        have hcz40_1 : wc.cell? ⟨gb131, 1, none⟩ = some (.int .i64 a1_1) := (blk_cell BK131.out 1).trans rfl
        have hcz40_2 : wc.cell? ⟨gb131, 2, none⟩ = some (.int .i64 a1_2) := (blk_cell BK131.out 2).trans rfl
        have hcz40_3 : wc.cell? ⟨gb131, 3, none⟩ = some (.string a1_3) := (blk_cell BK131.out 3).trans rfl
        have hcz40_4 : wc.cell? ⟨gb131, 4, none⟩ = some (.slice A1_4 l1_4.length c1_4) := (blk_cell BK131.out 4).trans rfl
        have hcz40_5 : wc.cell? ⟨gb131, 5, none⟩ = some (.slice A1_5 l1_5.length c1_5) := (blk_cell BK131.out 5).trans rfl
        have hfz40_0 := blk_frozen BK131.out 0
        have hfz40_1 := blk_frozen BK131.out 1
        have hfz40_2 := blk_frozen BK131.out 2
        have hfz40_3 := blk_frozen BK131.out 3
        have hfz40_4 := blk_frozen BK131.out 4
        have hfz40_5 := blk_frozen BK131.out 5
        go_wp2_with (first | (go_at_call 71; (with_reducible refine (tartanref05_in.calls a1_2 (l0_0.length : Int) false _ A35.out).mono ?_); rintro e w' ⟨rfl, ⟨nd, rfl⟩⟩; (try first | exact ⟨rfl, _, World.drewN_drewN _ _ _⟩ | exact ⟨rfl, _, Eq.trans (World.drewN_drewN _ _ _) (congrArg (World.drewN _) (Nat.add_assoc _ _ _))⟩)))
        repeat (go_quiet (first | (go_at_call 71; (with_reducible refine (tartanref05_in.calls a1_2 (l0_0.length : Int) false _ A35.out).mono ?_); rintro e w' ⟨rfl, ⟨nd, rfl⟩⟩; (try first | exact ⟨rfl, _, World.drewN_drewN _ _ _⟩ | exact ⟨rfl, _, Eq.trans (World.drewN_drewN _ _ _) (congrArg (World.drewN _) (Nat.add_assoc _ _ _))⟩))); try go_wp2_with (first | (go_at_call 71; (with_reducible refine (tartanref05_in.calls a1_2 (l0_0.length : Int) false _ A35.out).mono ?_); rintro e w' ⟨rfl, ⟨nd, rfl⟩⟩; (try first | exact ⟨rfl, _, World.drewN_drewN _ _ _⟩ | exact ⟨rfl, _, Eq.trans (World.drewN_drewN _ _ _) (congrArg (World.drewN _) (Nat.add_assoc _ _ _))⟩))))
        go_ret
        exact ⟨by first | rfl | (simp [errW_none, errW_some] <;> rfl) | (simp [*, errW_none, errW_some] <;> rfl), by repeat (first | (with_reducible first | exact HB.out | apply below_alloc | apply pw_below_drewN | apply below_drew1 | refine below_set ?_ GE130.out | refine below_set ?_ GE131.out) | exact HB.out)⟩
      ·replace c34 := Bool.eq_false_iff.mpr c34
       subst c34
       have H1 : (some 11) = some r := by rw [if_neg (show ¬ (false = true) by decide)] at H; exact H
       clear H
       have H := H1
       clear H1
       obtain rfl := Option.some.inj H
       go_wp2
       repeat (go_quiet (fail); try go_wp2)
       go_ret
       exact ⟨by first | rfl | (simp [errW_none, errW_some] <;> rfl) | (simp [*, errW_none, errW_some] <;> rfl), by repeat (first | (with_reducible first | exact HB.out | apply below_alloc | apply pw_below_drewN | apply below_drew1 | refine below_set ?_ GE130.out | refine below_set ?_ GE131.out) | exact HB.out)⟩
     ·rw [if_neg c33] at H
      have c33b0 : (a1_0 == 3) = false := beq_eq_false_iff_ne.mpr c33
      have c33b1 : (a1_0 != 3) = true := bne_iff_ne.mpr c33
      by_cases c41 : a1_0 = 4
      ·rw [if_pos c41] at H
       have c41b0 : (a1_0 == 4) = true := beq_iff_eq.mpr c41
       have c41b1 : (a1_0 != 4) = false := bne_eq_false_iff_eq.mpr c41
       clear c41
       replace H := Option.bind_eq_some_iff.mp H
       obtain ⟨t136, A420, H⟩ := H
       replace H : (if t136 = true then (some 0) else (some 11)) = some r := H
       have A42 := Aside0.mk A420
       clear A420
       by_cases c43 : t136 = true
       ·subst c43
        have H1 : (some 0) = some r := by first | (rw [if_pos rfl] at H; exact H) | (rw [if_pos trivial] at H; exact H) | simpa using H
        clear H
        have H := H1
        clear H1
        obtain rfl := Option.some.inj H
        have hnb44 := NB131_130.out
        have hnc44 := NB130_131.out
        have hcz45_0 : wc.cell? ⟨gb131, 0, none⟩ = some (.int .i64 a1_0) := (blk_cell BK131.out 0).trans rfl
        have hcz45_1 : wc.cell? ⟨gb131, 1, none⟩ = some (.int .i64 a1_1) := (blk_cell BK131.out 1).trans rfl
        have hcz45_2 : wc.cell? ⟨gb131, 2, none⟩ = some (.int .i64 a1_2) := (blk_cell BK131.out 2).trans rfl
        have hcz45_3 : wc.cell? ⟨gb131, 3, none⟩ = some (.string a1_3) := (blk_cell BK131.out 3).trans rfl
        have hcz45_4 : wc.cell? ⟨gb131, 4, none⟩ = some (.slice A1_4 l1_4.length c1_4) := (blk_cell BK131.out 4).trans rfl
        have hcz45_5 : wc.cell? ⟨gb131, 5, none⟩ = some (.slice A1_5 l1_5.length c1_5) := (blk_cell BK131.out 5).trans rfl
        have hfz45_0 := blk_frozen BK131.out 0
        have hfz45_1 := blk_frozen BK131.out 1
        have hfz45_2 := blk_frozen BK131.out 2
        have hfz45_3 := blk_frozen BK131.out 3
        have hfz45_4 := blk_frozen BK131.out 4
        have hfz45_5 := blk_frozen BK131.out 5
        go_wp2_with (first | (go_at_call 71; (with_reducible refine (tartanref05_in.calls a1_1 (wrap64 ((l0_1.length : Int) + 1)) true _ A42.out).mono ?_); rintro e w' ⟨rfl, ⟨nd, rfl⟩⟩; (try first | exact ⟨rfl, _, World.drewN_drewN _ _ _⟩ | exact ⟨rfl, _, Eq.trans (World.drewN_drewN _ _ _) (congrArg (World.drewN _) (Nat.add_assoc _ _ _))⟩)))
        repeat (go_quiet (first | (go_at_call 71; (with_reducible refine (tartanref05_in.calls a1_1 (wrap64 ((l0_1.length : Int) + 1)) true _ A42.out).mono ?_); rintro e w' ⟨rfl, ⟨nd, rfl⟩⟩; (try first | exact ⟨rfl, _, World.drewN_drewN _ _ _⟩ | exact ⟨rfl, _, Eq.trans (World.drewN_drewN _ _ _) (congrArg (World.drewN _) (Nat.add_assoc _ _ _))⟩))); try go_wp2_with (first | (go_at_call 71; (with_reducible refine (tartanref05_in.calls a1_1 (wrap64 ((l0_1.length : Int) + 1)) true _ A42.out).mono ?_); rintro e w' ⟨rfl, ⟨nd, rfl⟩⟩; (try first | exact ⟨rfl, _, World.drewN_drewN _ _ _⟩ | exact ⟨rfl, _, Eq.trans (World.drewN_drewN _ _ _) (congrArg (World.drewN _) (Nat.add_assoc _ _ _))⟩))))
        go_ret
        exact ⟨by first | rfl | (simp [errW_none, errW_some] <;> rfl) | (simp [*, errW_none, errW_some] <;> rfl), by repeat (first | (with_reducible first | exact HB.out | apply below_alloc | apply pw_below_drewN | apply below_drew1 | refine below_set ?_ GE130.out | refine below_set ?_ GE131.out) | exact HB.out)⟩
       ·replace c43 := Bool.eq_false_iff.mpr c43
        subst c43
        have H1 : (some 11) = some r := by rw [if_neg (show ¬ (false = true) by decide)] at H; exact H
        clear H
        have H := H1
        clear H1
        obtain rfl := Option.some.inj H
        have hnb46 := NB131_130.out
        have hnc46 := NB130_131.out
        have hcz47_0 : wc.cell? ⟨gb131, 0, none⟩ = some (.int .i64 a1_0) := (blk_cell BK131.out 0).trans rfl
        have hcz47_1 : wc.cell? ⟨gb131, 1, none⟩ = some (.int .i64 a1_1) := (blk_cell BK131.out 1).trans rfl
        have hcz47_2 : wc.cell? ⟨gb131, 2, none⟩ = some (.int .i64 a1_2) := (blk_cell BK131.out 2).trans rfl
        have hcz47_3 : wc.cell? ⟨gb131, 3, none⟩ = some (.string a1_3) := (blk_cell BK131.out 3).trans rfl
        have hcz47_4 : wc.cell? ⟨gb131, 4, none⟩ = some (.slice A1_4 l1_4.length c1_4) := (blk_cell BK131.out 4).trans rfl
        have hcz47_5 : wc.cell? ⟨gb131, 5, none⟩ = some (.slice A1_5 l1_5.length c1_5) := (blk_cell BK131.out 5).trans rfl
        have hfz47_0 := blk_frozen BK131.out 0
        have hfz47_1 := blk_frozen BK131.out 1
        have hfz47_2 := blk_frozen BK131.out 2
        have hfz47_3 := blk_frozen BK131.out 3
        have hfz47_4 := blk_frozen BK131.out 4
        have hfz47_5 := blk_frozen BK131.out 5
        go_wp2_with (first | (go_at_call 71; (with_reducible refine (tartanref05_in.calls a1_1 (wrap64 ((l0_1.length : Int) + 1)) false _ A42.out).mono ?_); rintro e w' ⟨rfl, ⟨nd, rfl⟩⟩; (try first | exact ⟨rfl, _, World.drewN_drewN _ _ _⟩ | exact ⟨rfl, _, Eq.trans (World.drewN_drewN _ _ _) (congrArg (World.drewN _) (Nat.add_assoc _ _ _))⟩)))
        repeat (go_quiet (first | (go_at_call 71; (with_reducible refine (tartanref05_in.calls a1_1 (wrap64 ((l0_1.length : Int) + 1)) false _ A42.out).mono ?_); rintro e w' ⟨rfl, ⟨nd, rfl⟩⟩; (try first | exact ⟨rfl, _, World.drewN_drewN _ _ _⟩ | exact ⟨rfl, _, Eq.trans (World.drewN_drewN _ _ _) (congrArg (World.drewN _) (Nat.add_assoc _ _ _))⟩))); try go_wp2_with (first | (go_at_call 71; (with_reducible refine (tartanref05_in.calls a1_1 (wrap64 ((l0_1.length : Int) + 1)) false _ A42.out).mono ?_); rintro e w' ⟨rfl, ⟨nd, rfl⟩⟩; (try first | exact ⟨rfl, _, World.drewN_drewN _ _ _⟩ | exact ⟨rfl, _, Eq.trans (World.drewN_drewN _ _ _) (congrArg (World.drewN _) (Nat.add_assoc _ _ _))⟩))))
        go_ret
        exact ⟨by first | rfl | (simp [errW_none, errW_some] <;> rfl) | (simp [*, errW_none, errW_some] <;> rfl), by repeat (first | (with_reducible first | exact HB.out | apply below_alloc | apply pw_below_drewN | apply below_drew1 | refine below_set ?_ GE130.out | refine below_set ?_ GE131.out) | exact HB.out)⟩
      ·rw [if_neg c41] at H
       have c41b0 : (a1_0 == 4) = false := beq_eq_false_iff_ne.mpr c41
       have c41b1 : (a1_0 != 4) = true := bne_iff_ne.mpr c41
       by_cases c48 : a1_0 = 5
       ·rw [if_pos c48] at H
        have c48b0 : (a1_0 == 5) = true := beq_iff_eq.mpr c48
        have c48b1 : (a1_0 != 5) = false := bne_eq_false_iff_eq.mpr c48
        clear c48
        by_cases c49 : t133 = true
        ·subst c49
         have H1 : (some 0) = some r := by first | (rw [if_pos rfl] at H; exact H) | (rw [if_pos trivial] at H; exact H) | simpa using H
         clear H
         have H := H1
         clear H1
         obtain rfl := Option.some.inj H
         go_wp2
         repeat (go_quiet (fail); try go_wp2)
         go_ret
         exact ⟨by first | rfl | (simp [errW_none, errW_some] <;> rfl) | (simp [*, errW_none, errW_some] <;> rfl), by repeat (first | (with_reducible first | exact HB.out | apply below_alloc | apply pw_below_drewN | apply below_drew1 | refine below_set ?_ GE130.out | refine below_set ?_ GE131.out) | exact HB.out)⟩
        ·replace c49 := Bool.eq_false_iff.mpr c49
         subst c49
         have H1 : (some 11) = some r := by rw [if_neg (show ¬ (false = true) by decide)] at H; exact H
         clear H
         have H := H1
         clear H1
         obtain rfl := Option.some.inj H
         go_wp2
         repeat (go_quiet (fail); try go_wp2)
         go_ret
         exact ⟨by first | rfl | (simp [errW_none, errW_some] <;> rfl) | (simp [*, errW_none, errW_some] <;> rfl), by repeat (first | (with_reducible first | exact HB.out | apply below_alloc | apply pw_below_drewN | apply below_drew1 | refine below_set ?_ GE130.out | refine below_set ?_ GE131.out) | exact HB.out)⟩
       ·rw [if_neg c48] at H
        have c48b0 : (a1_0 == 5) = false := beq_eq_false_iff_ne.mpr c48
        have c48b1 : (a1_0 != 5) = true := bne_iff_ne.mpr c48
        by_cases c50 : a1_0 = 6
        ·rw [if_pos c50] at H
         have c50b0 : (a1_0 == 6) = true := beq_iff_eq.mpr c50
         have c50b1 : (a1_0 != 6) = false := bne_eq_false_iff_eq.mpr c50
         clear c50
         by_cases c51 : t133 = true
         ·subst c51
          have H1 : ((tartanref05_in.f a1_2 (l0_1.length : Int)).bind fun t137 => (if t137 = true then (some 0) else (some 11))) = some r := by first | (rw [if_pos rfl] at H; exact H) | (rw [if_pos trivial] at H; exact H) | simpa using H
          clear H
          have H := H1
          clear H1
          replace H := Option.bind_eq_some_iff.mp H
          obtain ⟨t137, A520, H⟩ := H
          replace H : (if t137 = true then (some 0) else (some 11)) = some r := H
          have A52 := Aside0.mk A520
          clear A520
          by_cases c53 : t137 = true
          ·subst c53
           have H1 : (some 0) = some r := by first | (rw [if_pos rfl] at H; exact H) | (rw [if_pos trivial] at H; exact H) | simpa using H
           clear H
           have H := H1
           clear H1
           obtain rfl := Option.some.inj H
           have hnb54 := NB131_130.out
           have hnc54 := NB130_131.out
           have hcz55_0 : wc.cell? ⟨gb131, 0, none⟩ = some (.int .i64 a1_0) := (blk_cell BK131.out 0).trans rfl
           have hcz55_1 : wc.cell? ⟨gb131, 1, none⟩ = some (.int .i64 a1_1) := (blk_cell BK131.out 1).trans rfl
           have hcz55_2 : wc.cell? ⟨gb131, 2, none⟩ = some (.int .i64 a1_2) := (blk_cell BK131.out 2).trans rfl
           have hcz55_3 : wc.cell? ⟨gb131, 3, none⟩ = some (.string a1_3) := (blk_cell BK131.out 3).trans rfl
           have hcz55_4 : wc.cell? ⟨gb131, 4, none⟩ = some (.slice A1_4 l1_4.length c1_4) := (blk_cell BK131.out 4).trans rfl
           have hcz55_5 : wc.cell? ⟨gb131, 5, none⟩ = some (.slice A1_5 l1_5.length c1_5) := (blk_cell BK131.out 5).trans rfl
           have hfz55_0 := blk_frozen BK131.out 0
           have hfz55_1 := blk_frozen BK131.out 1
           have hfz55_2 := blk_frozen BK131.out 2
           have hfz55_3 := blk_frozen BK131.out 3
           have hfz55_4 := blk_frozen BK131.out 4
           have hfz55_5 := blk_frozen BK131.out 5
           go_wp2_with (first | (go_at_call 71; (with_reducible refine (tartanref05_in.calls a1_2 (l0_1.length : Int) true _ A52.out).mono ?_); rintro e w' ⟨rfl, ⟨nd, rfl⟩⟩; (try first | exact ⟨rfl, _, World.drewN_drewN _ _ _⟩ | exact ⟨rfl, _, Eq.trans (World.drewN_drewN _ _ _) (congrArg (World.drewN _) (Nat.add_assoc _ _ _))⟩)))
           repeat (go_quiet (first | (go_at_call 71; (with_reducible refine (tartanref05_in.calls a1_2 (l0_1.length : Int) true _ A52.out).mono ?_); rintro e w' ⟨rfl, ⟨nd, rfl⟩⟩; (try first | exact ⟨rfl, _, World.drewN_drewN _ _ _⟩ | exact ⟨rfl, _, Eq.trans (World.drewN_drewN _ _ _) (congrArg (World.drewN _) (Nat.add_assoc _ _ _))⟩))); try go_wp2_with (first | (go_at_call 71; (with_reducible refine (tartanref05_in.calls a1_2 (l0_1.length : Int) true _ A52.out).mono ?_); rintro e w' ⟨rfl, ⟨nd, rfl⟩⟩; (try first | exact ⟨rfl, _, World.drewN_drewN _ _ _⟩ | exact ⟨rfl, _, Eq.trans (World.drewN_drewN _ _ _) (congrArg (World.drewN _) (Nat.add_assoc _ _ _))⟩))))
           go_ret
           exact ⟨by first | rfl | (simp [errW_none, errW_some] <;> rfl) | (simp [*, errW_none, errW_some] <;> rfl), by repeat (first | (with_reducible first | exact HB.out | apply below_alloc | apply pw_below_drewN | apply below_drew1 | refine below_set ?_ GE130.out | refine below_set ?_ GE131.out) | exact HB.out)⟩
          ·replace c53 := Bool.eq_false_iff.mpr c53
           subst c53
           have H1 : (some 11) = some r := by rw [if_neg (show ¬ (false = true) by decide)] at H; exact H
           clear H
           have H := H1
           clear H1
           obtain rfl := Option.some.inj H
           have hnb56 := NB131_130.out
           have hnc56 := NB130_131.out
           have hcz57_0 : wc.cell? ⟨gb131, 0, none⟩ = some (.int .i64 a1_0) := (blk_cell BK131.out 0).trans rfl
           have hcz57_1 : wc.cell? ⟨gb131, 1, none⟩ = some (.int .i64 a1_1) := (blk_cell BK131.out 1).trans rfl
           have hcz57_2 : wc.cell? ⟨gb131, 2, none⟩ = some (.int .i64 a1_2) := (blk_cell BK131.out 2).trans rfl
           have hcz57_3 : wc.cell? ⟨gb131, 3, none⟩ = some (.string a1_3) := (blk_cell BK131.out 3).trans rfl
           have hcz57_4 : wc.cell? ⟨gb131, 4, none⟩ = some (.slice A1_4 l1_4.length c1_4) := (blk_cell BK131.out 4).trans rfl
           have hcz57_5 : wc.cell? ⟨gb131, 5, none⟩ = some (.slice A1_5 l1_5.length c1_5) := (blk_cell BK131.out 5).trans rfl
           have hfz57_0 := blk_frozen BK131.out 0
           have hfz57_1 := blk_frozen BK131.out 1
           have hfz57_2 := blk_frozen BK131.out 2
           have hfz57_3 := blk_frozen BK131.out 3
           have hfz57_4 := blk_frozen BK131.out 4
           have hfz57_5 := blk_frozen BK131.out 5
           go_wp2_with (first | (go_at_call 71; (with_reducible refine (tartanref05_in.calls a1_2 (l0_1.length : Int) false _ A52.out).mono ?_); rintro e w' ⟨rfl, ⟨nd, rfl⟩⟩; (try first | exact ⟨rfl, _, World.drewN_drewN _ _ _⟩ | exact ⟨rfl, _, Eq.trans (World.drewN_drewN _ _ _) (congrArg (World.drewN _) (Nat.add_assoc _ _ _))⟩)))
           repeat (go_quiet (first | (go_at_call 71; (with_reducible refine (tartanref05_in.calls a1_2 (l0_1.length : Int) false _ A52.out).mono ?_); rintro e w' ⟨rfl, ⟨nd, rfl⟩⟩; (try first | exact ⟨rfl, _, World.drewN_drewN _ _ _⟩ | exact ⟨rfl, _, Eq.trans (World.drewN_drewN _ _ _) (congrArg (World.drewN _) (Nat.add_assoc _ _ _))⟩))); try go_wp2_with (first | (go_at_call 71; (with_reducible refine (tartanref05_in.calls a1_2 (l0_1.length : Int) false _ A52.out).mono ?_); rintro e w' ⟨rfl, ⟨nd, rfl⟩⟩; (try first | exact ⟨rfl, _, World.drewN_drewN _ _ _⟩ | exact ⟨rfl, _, Eq.trans (World.drewN_drewN _ _ _) (congrArg (World.drewN _) (Nat.add_assoc _ _ _))⟩))))
           go_ret
           exact ⟨by first | rfl | (simp [errW_none, errW_some] <;> rfl) | (simp [*, errW_none, errW_some] <;> rfl), by repeat (first | (with_reducible first | exact HB.out | apply below_alloc | apply pw_below_drewN | apply below_drew1 | refine below_set ?_ GE130.out | refine below_set ?_ GE131.out) | exact HB.out)⟩
         ·replace c51 := Bool.eq_false_iff.mpr c51
          subst c51
          have H1 : (some 11) = some r := by rw [if_neg (show ¬ (false = true) by decide)] at H; exact H
          clear H
          have H := H1
          clear H1
          obtain rfl := Option.some.inj H
          go_wp2
          repeat (go_quiet (fail); try go_wp2)
          go_ret
          exact ⟨by first | rfl | (simp [errW_none, errW_some] <;> rfl) | (simp [*, errW_none, errW_some] <;> rfl), by repeat (first | (with_reducible first | exact HB.out | apply below_alloc | apply pw_below_drewN | apply below_drew1 | refine below_set ?_ GE130.out | refine below_set ?_ GE131.out) | exact HB.out)⟩
        ·rw [if_neg c50] at H
         have c50b0 : (a1_0 == 6) = false := beq_eq_false_iff_ne.mpr c50
         have c50b1 : (a1_0 != 6) = true := bne_iff_ne.mpr c50
         by_cases c58 : a1_0 = 7
         ·rw [if_pos c58] at H
          have c58b0 : (a1_0 == 7) = true := beq_iff_eq.mpr c58
          have c58b1 : (a1_0 != 7) = false := bne_eq_false_iff_eq.mpr c58
          clear c58
          by_cases c59 : t133 = true
          ·subst c59
           have H1 : ((tartanref05_in.f a1_2 (l0_0.length : Int)).bind fun t138 => (if t138 = true then (some 0) else (some 11))) = some r := by first | (rw [if_pos rfl] at H; exact H) | (rw [if_pos trivial] at H; exact H) | simpa using H
           clear H
           have H := H1
           clear H1
           replace H := Option.bind_eq_some_iff.mp H
           obtain ⟨t138, A600, H⟩ := H
           replace H : (if t138 = true then (some 0) else (some 11)) = some r := H
           have A60 := Aside0.mk A600
           clear A600
           by_cases c61 : t138 = true
           ·subst c61
            have H1 : (some 0) = some r := by first | (rw [if_pos rfl] at H; exact H) | (rw [if_pos trivial] at H; exact H) | simpa using H
            clear H
            have H := H1
            clear H1
            obtain rfl := Option.some.inj H
            have hnb62 := NB131_130.out
            have hnc62 := NB130_131.out
            have hcz63_0 : wc.cell? ⟨gb131, 0, none⟩ = some (.int .i64 a1_0) := (blk_cell BK131.out 0).trans rfl
            have hcz63_1 : wc.cell? ⟨gb131, 1, none⟩ = some (.int .i64 a1_1) := (blk_cell BK131.out 1).trans rfl
            have hcz63_2 : wc.cell? ⟨gb131, 2, none⟩ = some (.int .i64 a1_2) := (blk_cell BK131.out 2).trans rfl
            have hcz63_3 : wc.cell? ⟨gb131, 3, none⟩ = some (.string a1_3) := (blk_cell BK131.out 3).trans rfl
            have hcz63_4 : wc.cell? ⟨gb131, 4, none⟩ = some (.slice A1_4 l1_4.length c1_4) := (blk_cell BK131.out 4).trans rfl
            have hcz63_5 : wc.cell? ⟨gb131, 5, none⟩ = some (.slice A1_5 l1_5.length c1_5) := (blk_cell BK131.out 5).trans rfl
            have hfz63_0 := blk_frozen BK131.out 0
            have hfz63_1 := blk_frozen BK131.out 1
            have hfz63_2 := blk_frozen BK131.out 2
            have hfz63_3 := blk_frozen BK131.out 3
            have hfz63_4 := blk_frozen BK131.out 4
            have hfz63_5 := blk_frozen BK131.out 5
            go_wp2_with (first | (go_at_call 71; (with_reducible refine (tartanref05_in.calls a1_2 (l0_0.length : Int) true _ A60.out).mono ?_); rintro e w' ⟨rfl, ⟨nd, rfl⟩⟩; (try first | exact ⟨rfl, _, World.drewN_drewN _ _ _⟩ | exact ⟨rfl, _, Eq.trans (World.drewN_drewN _ _ _) (congrArg (World.drewN _) (Nat.add_assoc _ _ _))⟩)))
            repeat (go_quiet (first | (go_at_call 71; (with_reducible refine (tartanref05_in.calls a1_2 (l0_0.length : Int) true _ A60.out).mono ?_); rintro e w' ⟨rfl, ⟨nd, rfl⟩⟩; (try first | exact ⟨rfl, _, World.drewN_drewN _ _ _⟩ | exact ⟨rfl, _, Eq.trans (World.drewN_drewN _ _ _) (congrArg (World.drewN _) (Nat.add_assoc _ _ _))⟩))); try go_wp2_with (first | (go_at_call 71; (with_reducible refine (tartanref05_in.calls a1_2 (l0_0.length : Int) true _ A60.out).mono ?_); rintro e w' ⟨rfl, ⟨nd, rfl⟩⟩; (try first | exact ⟨rfl, _, World.drewN_drewN _ _ _⟩ | exact ⟨rfl, _, Eq.trans (World.drewN_drewN _ _ _) (congrArg (World.drewN _) (Nat.add_assoc _ _ _))⟩))))
            go_ret
            exact ⟨by first | rfl | (simp [errW_none, errW_some] <;> rfl) | (simp [*, errW_none, errW_some] <;> rfl), by repeat (first | (with_reducible first | exact HB.out | apply below_alloc | apply pw_below_drewN | apply below_drew1 | refine below_set ?_ GE130.out | refine below_set ?_ GE131.out) | exact HB.out)⟩
           ·replace c61 := Bool.eq_false_iff.mpr c61
            subst c61
            have H1 : (some 11) = some r := by rw [if_neg (show ¬ (false = true) by decide)] at H; exact H
            clear H
            have H := H1
            clear H1
            obtain rfl := Option.some.inj H
            have hnb64 := NB131_130.out
            have hnc64 := NB130_131.out
            have hcz65_0 : wc.cell? ⟨gb131, 0, none⟩ = some (.int .i64 a1_0) := (blk_cell BK131.out 0).trans rfl
            have hcz65_1 : wc.cell? ⟨gb131, 1, none⟩ = some (.int .i64 a1_1) := (blk_cell BK131.out 1).trans rfl
            have hcz65_2 : wc.cell? ⟨gb131, 2, none⟩ = some (.int .i64 a1_2) := (blk_cell BK131.out 2).trans rfl
            have hcz65_3 : wc.cell? ⟨gb131, 3, none⟩ = some (.string a1_3) := (blk_cell BK131.out 3).trans rfl
            have hcz65_4 : wc.cell? ⟨gb131, 4, none⟩ = some (.slice A1_4 l1_4.length c1_4) := (blk_cell BK131.out 4).trans rfl
            have hcz65_5 : wc.cell? ⟨gb131, 5, none⟩ = some (.slice A1_5 l1_5.length c1_5) := (blk_cell BK131.out 5).trans rfl
            have hfz65_0 := blk_frozen BK131.out 0
            have hfz65_1 := blk_frozen BK131.out 1
            have hfz65_2 := blk_frozen BK131.out 2
            have hfz65_3 := blk_frozen BK131.out 3
            have hfz65_4 := blk_frozen BK131.out 4
            have hfz65_5 := blk_frozen BK131.out 5
            go_wp2_with (first | (go_at_call 71; (with_reducible refine (tartanref05_in.calls a1_2 (l0_0.length : Int) false _ A60.out).mono ?_); rintro e w' ⟨rfl, ⟨nd, rfl⟩⟩; (try first | exact ⟨rfl, _, World.drewN_drewN _ _ _⟩ | exact ⟨rfl, _, Eq.trans (World.drewN_drewN _ _ _) (congrArg (World.drewN _) (Nat.add_assoc _ _ _))⟩)))
            repeat (go_quiet (first | (go_at_call 71; (with_reducible refine (tartanref05_in.calls a1_2 (l0_0.length : Int) false _ A60.out).mono ?_); rintro e w' ⟨rfl, ⟨nd, rfl⟩⟩; (try first | exact ⟨rfl, _, World.drewN_drewN _ _ _⟩ | exact ⟨rfl, _, Eq.trans (World.drewN_drewN _ _ _) (congrArg (World.drewN _) (Nat.add_assoc _ _ _))⟩))); try go_wp2_with (first | (go_at_call 71; (with_reducible refine (tartanref05_in.calls a1_2 (l0_0.length : Int) false _ A60.out).mono ?_); rintro e w' ⟨rfl, ⟨nd, rfl⟩⟩; (try first | exact ⟨rfl, _, World.drewN_drewN _ _ _⟩ | exact ⟨rfl, _, Eq.trans (World.drewN_drewN _ _ _) (congrArg (World.drewN _) (Nat.add_assoc _ _ _))⟩))))
            go_ret
            exact ⟨by first | rfl | (simp [errW_none, errW_some] <;> rfl) | (simp [*, errW_none, errW_some] <;> rfl), by repeat (first | (with_reducible first | exact HB.out | apply below_alloc | apply pw_below_drewN | apply below_drew1 | refine below_set ?_ GE130.out | refine below_set ?_ GE131.out) | exact HB.out)⟩
          ·replace c59 := Bool.eq_false_iff.mpr c59
           subst c59
           have H1 : (some 11) = some r := by rw [if_neg (show ¬ (false = true) by decide)] at H; exact H
           clear H
           have H := H1
           clear H1
           obtain rfl := Option.some.inj H
           go_wp2
           repeat (go_quiet (fail); try go_wp2)
           go_ret
           exact ⟨by first | rfl | (simp [errW_none, errW_some] <;> rfl) | (simp [*, errW_none, errW_some] <;> rfl), by repeat (first | (with_reducible first | exact HB.out | apply below_alloc | apply pw_below_drewN | apply below_drew1 | refine below_set ?_ GE130.out | refine below_set ?_ GE131.out) | exact HB.out)⟩
         ·rw [if_neg c58] at H
          have c58b0 : (a1_0 == 7) = false := beq_eq_false_iff_ne.mpr c58
          have c58b1 : (a1_0 != 7) = true := bne_iff_ne.mpr c58
          have H' := Aside0.mk H
          clear H
          go_wp2
          repeat (go_quiet (fail); try go_wp2)
          go_loopg [9] kj23 (fun kq v9 w' => ∃ (x9_2 : Int), v9 = .int .i64 x9_2 ∧ Aside0 (tartanref05_wrong.l0 kq (l0_0.length : Int) x9_2 a1_0 a1_1 a1_2 a1_3 l1_4 l1_5 = some r) ∧ Aside0 (kq ≤ kj23) ∧ Aside0 (w'.heap[gb130]? = some (.cells #[(.slice A0_0 l0_0.length c0_0), (.slice A0_1 l0_1.length c0_1)] 25 (0, 0))) ∧ Aside0 (w'.heap[gb131]? = some (.cells #[.int .i64 a1_0, .int .i64 a1_1, .int .i64 a1_2, .string a1_3, (.slice A1_4 l1_4.length c1_4), (.slice A1_5 l1_5.length c1_5)] 28 (0, 0))) ∧ Aside0 (Below w.heap.size w w'))
          case atStart => exact ⟨(0), (by first | rfl | (simp; done) | (simp [*]; done)), H', ⟨Nat.le_refl _⟩, ⟨by (with_reducible repeat (first | refine blk_drewN ?_ _ | refine blk_drew ?_ | refine blk_alloc ?_ _)); exact BK130.out⟩, ⟨by (with_reducible repeat (first | refine blk_drewN ?_ _ | refine blk_drew ?_ | refine blk_alloc ?_ _)); exact BK131.out⟩, ⟨by repeat (first | (with_reducible first | exact HB.out | apply below_alloc | apply pw_below_drewN | apply below_drew1 | refine below_set ?_ GE130.out | refine below_set ?_ GE131.out) | exact HB.out)⟩⟩
          case round =>
           clear H'
           try clear c1
           try clear c2
           try clear p2
           try clear c3
           try clear c4
           try clear c5
           try clear c5b0
           try clear c5b1
           try clear c6
           try clear p6
           try clear c7
           try clear c8
           try clear c8b0
           try clear c8b1
           try clear c8b2
           try clear c11
           try clear c16
           try clear c21
           try clear c27
           try clear c30
           try clear c30b0
           try clear c30b1
           try clear c31
           try clear c32
           try clear c33
           try clear c33b0
           try clear c33b1
           try clear c34
           try clear c36
           try clear c37
           try clear c39
           try clear c41
           try clear c41b0
           try clear c41b1
           try clear c43
           try clear c44
           try clear c46
           try clear c48
           try clear c48b0
           try clear c48b1
           try clear c49
           try clear c50
           try clear c50b0
           try clear c50b1
           try clear c51
           try clear c53
           try clear c54
           try clear c56
           try clear c58
           try clear c58b0
           try clear c58b1
           try clear c59
           try clear c61
           try clear c62
           try clear c64
           try clear p64
           try clear hcz12_0
           try clear hcz12_1
           try clear hcz13_0
           try clear hcz13_1
           try clear hcz13_2
           try clear hcz13_3
           try clear hcz13_4
           try clear hcz13_5
           try clear hcz17_0
           try clear hcz17_1
           try clear hcz18_0
           try clear hcz18_1
           try clear hcz18_2
           try clear hcz18_3
           try clear hcz18_4
           try clear hcz18_5
           try clear hcz22_0
           try clear hcz22_1
           try clear hcz23_0
           try clear hcz23_1
           try clear hcz23_2
           try clear hcz23_3
           try clear hcz23_4
           try clear hcz23_5
           try clear hcz28_0
           try clear hcz28_1
           try clear hcz29_0
           try clear hcz29_1
           try clear hcz29_2
           try clear hcz29_3
           try clear hcz29_4
           try clear hcz29_5
           try clear hcz38_0
           try clear hcz38_1
           try clear hcz38_2
           try clear hcz38_3
           try clear hcz38_4
           try clear hcz38_5
           try clear hcz40_0
           try clear hcz40_1
           try clear hcz40_2
           try clear hcz40_3
           try clear hcz40_4
           try clear hcz40_5
           try clear hcz45_0
           try clear hcz45_1
           try clear hcz45_2
           try clear hcz45_3
           try clear hcz45_4
           try clear hcz45_5
           try clear hcz47_0
           try clear hcz47_1
           try clear hcz47_2
           try clear hcz47_3
           try clear hcz47_4
           try clear hcz47_5
           try clear hcz55_0
           try clear hcz55_1
           try clear hcz55_2
           try clear hcz55_3
           try clear hcz55_4
           try clear hcz55_5
           try clear hcz57_0
           try clear hcz57_1
           try clear hcz57_2
           try clear hcz57_3
           try clear hcz57_4
           try clear hcz57_5
           try clear hcz63_0
           try clear hcz63_1
           try clear hcz63_2
           try clear hcz63_3
           try clear hcz63_4
           try clear hcz63_5
           try clear hcz65_0
           try clear hcz65_1
           try clear hcz65_2
           try clear hcz65_3
           try clear hcz65_4
           try clear hcz65_5
           try clear hfz12_0
           try clear hfz12_1
           try clear hfz13_0
           try clear hfz13_1
           try clear hfz13_2
           try clear hfz13_3
           try clear hfz13_4
           try clear hfz13_5
           try clear hfz17_0
           try clear hfz17_1
           try clear hfz18_0
           try clear hfz18_1
           try clear hfz18_2
           try clear hfz18_3
           try clear hfz18_4
           try clear hfz18_5
           try clear hfz22_0
           try clear hfz22_1
           try clear hfz23_0
           try clear hfz23_1
           try clear hfz23_2
           try clear hfz23_3
           try clear hfz23_4
           try clear hfz23_5
           try clear hfz28_0
           try clear hfz28_1
           try clear hfz29_0
           try clear hfz29_1
           try clear hfz29_2
           try clear hfz29_3
           try clear hfz29_4
           try clear hfz29_5
           try clear hfz38_0
           try clear hfz38_1
           try clear hfz38_2
           try clear hfz38_3
           try clear hfz38_4
           try clear hfz38_5
           try clear hfz40_0
           try clear hfz40_1
           try clear hfz40_2
           try clear hfz40_3
           try clear hfz40_4
           try clear hfz40_5
           try clear hfz45_0
           try clear hfz45_1
           try clear hfz45_2
           try clear hfz45_3
           try clear hfz45_4
           try clear hfz45_5
           try clear hfz47_0
           try clear hfz47_1
           try clear hfz47_2
           try clear hfz47_3
           try clear hfz47_4
           try clear hfz47_5
           try clear hfz55_0
           try clear hfz55_1
           try clear hfz55_2
           try clear hfz55_3
           try clear hfz55_4
           try clear hfz55_5
           try clear hfz57_0
           try clear hfz57_1
           try clear hfz57_2
           try clear hfz57_3
           try clear hfz57_4
           try clear hfz57_5
           try clear hfz63_0
           try clear hfz63_1
           try clear hfz63_2
           try clear hfz63_3
           try clear hfz63_4
           try clear hfz63_5
           try clear hfz65_0
           try clear hfz65_1
           try clear hfz65_2
           try clear hfz65_3
           try clear hfz65_4
           try clear hfz65_5
           try clear p2
           try clear p6
           obtain ⟨x9_2, rfl, HA, HK2, BK130, BK131, HB⟩ := hrel
           cases gk with
           | zero => exact absurd HA.out (by simp [tartanref05_wrong.l0])
           | succ k2 =>
            have H := HA.out
            clear HA
            simp only [tartanref05_wrong.l0] at H
            by_cases c66 : x9_2 < (l1_5.length : Int)
            ·rw [if_pos c66] at H
             have c66b0 : decide (x9_2 < (l1_5.length : Int)) = true := decide_eq_true c66
             clear c66
             by_cases c67 : 0 ≤ x9_2
             ·rw [if_pos c67] at H
              have c67b0 : decide (0 ≤ x9_2) = true := decide_eq_true c67
              clear c67
              replace H := Option.bind_eq_some_iff.mp H
              obtain ⟨t140, A680, H⟩ := H
              replace H : (if t140 = true then (tartanref05_wrong.l0 k2 (l0_0.length : Int) (wrap64 (x9_2 + 1)) a1_0 a1_1 a1_2 a1_3 l1_4 l1_5) else (some 11)) = some r := H
              have A68 := Aside0.mk A680
              clear A680
              by_cases c69 : t140 = true
              ·subst c69
               have H1 : (tartanref05_wrong.l0 k2 (l0_0.length : Int) (wrap64 (x9_2 + 1)) a1_0 a1_1 a1_2 a1_3 l1_4 l1_5) = some r := by first | (rw [if_pos rfl] at H; exact H) | (rw [if_pos trivial] at H; exact H) | simpa using H
               clear H
               have H := H1
               clear H1
               have H' := Aside0.mk H
               clear H
               have hnb70 := NB131_130.out
               have hnc70 := NB130_131.out
               have hcz71_0 : wr.cell? ⟨gb131, 0, none⟩ = some (.int .i64 a1_0) := (blk_cell BK131.out 0).trans rfl
               have hcz71_1 : wr.cell? ⟨gb131, 1, none⟩ = some (.int .i64 a1_1) := (blk_cell BK131.out 1).trans rfl
               have hcz71_2 : wr.cell? ⟨gb131, 2, none⟩ = some (.int .i64 a1_2) := (blk_cell BK131.out 2).trans rfl
               have hcz71_3 : wr.cell? ⟨gb131, 3, none⟩ = some (.string a1_3) := (blk_cell BK131.out 3).trans rfl
               have hcz71_4 : wr.cell? ⟨gb131, 4, none⟩ = some (.slice A1_4 l1_4.length c1_4) := (blk_cell BK131.out 4).trans rfl
               have hcz71_5 : wr.cell? ⟨gb131, 5, none⟩ = some (.slice A1_5 l1_5.length c1_5) := (blk_cell BK131.out 5).trans rfl
               have hfz71_0 := blk_frozen BK131.out 0
               have hfz71_1 := blk_frozen BK131.out 1
               have hfz71_2 := blk_frozen BK131.out 2
               have hfz71_3 := blk_frozen BK131.out 3
               have hfz71_4 := blk_frozen BK131.out 4
               have hfz71_5 := blk_frozen BK131.out 5
               have p139 : 0 ≤ (x9_2 : Int) := of_decide_eq_true (by first | (with_reducible assumption) | assumption)
               have q139 : x9_2 < (l1_5.length : Int) := of_decide_eq_true (by first | (with_reducible assumption) | assumption)
               obtain ⟨ad139, e139, hx139_0⟩ := Kd.at_int HR1_5.out x9_2 p139 q139
               cases e139
               replace hx139_0 := (HB.out.cell (World.block_lt_of_cell? w _ hx139_0)).trans hx139_0
               replace p139 := eq_true p139
               replace q139 := eq_true q139
               go_wp2_with (first | (go_at_call 71; (with_reducible refine (tartanref05_in.calls (rd l1_5 x9_2) (l0_0.length : Int) true _ A68.out).mono ?_); rintro e w' ⟨rfl, ⟨nd, rfl⟩⟩; (try first | exact ⟨rfl, _, World.drewN_drewN _ _ _⟩ | exact ⟨rfl, _, Eq.trans (World.drewN_drewN _ _ _) (congrArg (World.drewN _) (Nat.add_assoc _ _ _))⟩)))
               repeat (go_quiet (first | (go_at_call 71; (with_reducible refine (tartanref05_in.calls (rd l1_5 x9_2) (l0_0.length : Int) true _ A68.out).mono ?_); rintro e w' ⟨rfl, ⟨nd, rfl⟩⟩; (try first | exact ⟨rfl, _, World.drewN_drewN _ _ _⟩ | exact ⟨rfl, _, Eq.trans (World.drewN_drewN _ _ _) (congrArg (World.drewN _) (Nat.add_assoc _ _ _))⟩))); try go_wp2_with (first | (go_at_call 71; (with_reducible refine (tartanref05_in.calls (rd l1_5 x9_2) (l0_0.length : Int) true _ A68.out).mono ?_); rintro e w' ⟨rfl, ⟨nd, rfl⟩⟩; (try first | exact ⟨rfl, _, World.drewN_drewN _ _ _⟩ | exact ⟨rfl, _, Eq.trans (World.drewN_drewN _ _ _) (congrArg (World.drewN _) (Nat.add_assoc _ _ _))⟩))))
               go_roundg k2
               case measure => have := HJ23.out; have := HK2.out; omega
               case rel => exact ⟨(wrap64 (x9_2 + 1)), (by first | rfl | (simp; done) | (simp [*]; done)), H', ⟨by have := HJ23.out; have := HK2.out; omega⟩, ⟨by (with_reducible repeat (first | refine blk_drewN ?_ _ | refine blk_drew ?_ | refine blk_alloc ?_ _)); exact BK130.out⟩, ⟨by (with_reducible repeat (first | refine blk_drewN ?_ _ | refine blk_drew ?_ | refine blk_alloc ?_ _)); exact BK131.out⟩, ⟨by repeat (first | (with_reducible first | exact HB.out | apply below_alloc | apply pw_below_drewN | apply below_drew1 | refine below_set ?_ GE130.out | refine below_set ?_ GE131.out) | exact HB.out)⟩⟩
              ·replace c69 := Bool.eq_false_iff.mpr c69
               subst c69
               have H1 : (some 11) = some r := by rw [if_neg (show ¬ (false = true) by decide)] at H; exact H
               clear H
               have H := H1
               clear H1
               obtain rfl := Option.some.inj H
               have hnb72 := NB131_130.out
               have hnc72 := NB130_131.out
               have hcz73_0 : wr.cell? ⟨gb131, 0, none⟩ = some (.int .i64 a1_0) := (blk_cell BK131.out 0).trans rfl
               have hcz73_1 : wr.cell? ⟨gb131, 1, none⟩ = some (.int .i64 a1_1) := (blk_cell BK131.out 1).trans rfl
               have hcz73_2 : wr.cell? ⟨gb131, 2, none⟩ = some (.int .i64 a1_2) := (blk_cell BK131.out 2).trans rfl
               have hcz73_3 : wr.cell? ⟨gb131, 3, none⟩ = some (.string a1_3) := (blk_cell BK131.out 3).trans rfl
               have hcz73_4 : wr.cell? ⟨gb131, 4, none⟩ = some (.slice A1_4 l1_4.length c1_4) := (blk_cell BK131.out 4).trans rfl
               have hcz73_5 : wr.cell? ⟨gb131, 5, none⟩ = some (.slice A1_5 l1_5.length c1_5) := (blk_cell BK131.out 5).trans rfl
               have hfz73_0 := blk_frozen BK131.out 0
               have hfz73_1 := blk_frozen BK131.out 1
               have hfz73_2 := blk_frozen BK131.out 2
               have hfz73_3 := blk_frozen BK131.out 3
               have hfz73_4 := blk_frozen BK131.out 4
               have hfz73_5 := blk_frozen BK131.out 5
               have p139 : 0 ≤ (x9_2 : Int) := of_decide_eq_true (by first | (with_reducible assumption) | assumption)
               have q139 : x9_2 < (l1_5.length : Int) := of_decide_eq_true (by first | (with_reducible assumption) | assumption)
               obtain ⟨ad139, e139, hx139_0⟩ := Kd.at_int HR1_5.out x9_2 p139 q139
               cases e139
               replace hx139_0 := (HB.out.cell (World.block_lt_of_cell? w _ hx139_0)).trans hx139_0
               replace p139 := eq_true p139
               replace q139 := eq_true q139
               go_wp2_with (first | (go_at_call 71; (with_reducible refine (tartanref05_in.calls (rd l1_5 x9_2) (l0_0.length : Int) false _ A68.out).mono ?_); rintro e w' ⟨rfl, ⟨nd, rfl⟩⟩; (try first | exact ⟨rfl, _, World.drewN_drewN _ _ _⟩ | exact ⟨rfl, _, Eq.trans (World.drewN_drewN _ _ _) (congrArg (World.drewN _) (Nat.add_assoc _ _ _))⟩)))
               repeat (go_quiet (first | (go_at_call 71; (with_reducible refine (tartanref05_in.calls (rd l1_5 x9_2) (l0_0.length : Int) false _ A68.out).mono ?_); rintro e w' ⟨rfl, ⟨nd, rfl⟩⟩; (try first | exact ⟨rfl, _, World.drewN_drewN _ _ _⟩ | exact ⟨rfl, _, Eq.trans (World.drewN_drewN _ _ _) (congrArg (World.drewN _) (Nat.add_assoc _ _ _))⟩))); try go_wp2_with (first | (go_at_call 71; (with_reducible refine (tartanref05_in.calls (rd l1_5 x9_2) (l0_0.length : Int) false _ A68.out).mono ?_); rintro e w' ⟨rfl, ⟨nd, rfl⟩⟩; (try first | exact ⟨rfl, _, World.drewN_drewN _ _ _⟩ | exact ⟨rfl, _, Eq.trans (World.drewN_drewN _ _ _) (congrArg (World.drewN _) (Nat.add_assoc _ _ _))⟩))))
               go_ret
               exact ⟨by first | rfl | (simp [errW_none, errW_some] <;> rfl) | (simp [*, errW_none, errW_some] <;> rfl), by repeat (first | (with_reducible first | exact HB.out | apply below_alloc | apply pw_below_drewN | apply below_drew1 | refine below_set ?_ GE130.out | refine below_set ?_ GE131.out) | exact HB.out)⟩
             ·rw [if_neg c67] at H
              exact absurd H (by simp)
            ·rw [if_neg c66] at H
             have c66b0 : decide (x9_2 < (l1_5.length : Int)) = false := decide_eq_false c66
             clear c66
             obtain rfl := Option.some.inj H
             have hnb74 := NB131_130.out
             have hnc74 := NB130_131.out
             have hcz75_0 : wr.cell? ⟨gb131, 0, none⟩ = some (.int .i64 a1_0) := (blk_cell BK131.out 0).trans rfl
             have hcz75_1 : wr.cell? ⟨gb131, 1, none⟩ = some (.int .i64 a1_1) := (blk_cell BK131.out 1).trans rfl
             have hcz75_2 : wr.cell? ⟨gb131, 2, none⟩ = some (.int .i64 a1_2) := (blk_cell BK131.out 2).trans rfl
             have hcz75_3 : wr.cell? ⟨gb131, 3, none⟩ = some (.string a1_3) := (blk_cell BK131.out 3).trans rfl
             have hcz75_4 : wr.cell? ⟨gb131, 4, none⟩ = some (.slice A1_4 l1_4.length c1_4) := (blk_cell BK131.out 4).trans rfl
             have hcz75_5 : wr.cell? ⟨gb131, 5, none⟩ = some (.slice A1_5 l1_5.length c1_5) := (blk_cell BK131.out 5).trans rfl
             have hfz75_0 := blk_frozen BK131.out 0
             have hfz75_1 := blk_frozen BK131.out 1
             have hfz75_2 := blk_frozen BK131.out 2
             have hfz75_3 := blk_frozen BK131.out 3
             have hfz75_4 := blk_frozen BK131.out 4
             have hfz75_5 := blk_frozen BK131.out 5
             go_wp2
             repeat (go_quiet (fail); try go_wp2)
             go_ret
             exact ⟨by first | rfl | (simp [errW_none, errW_some] <;> rfl) | (simp [*, errW_none, errW_some] <;> rfl), by repeat (first | (with_reducible first | exact HB.out | apply below_alloc | apply pw_below_drewN | apply below_drew1 | refine below_set ?_ GE130.out | refine below_set ?_ GE131.out) | exact HB.out)⟩
end Go.Proofs.Ytaolakknkhggnaa.X
end
