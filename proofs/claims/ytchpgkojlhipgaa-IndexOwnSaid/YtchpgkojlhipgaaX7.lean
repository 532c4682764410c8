-- by pr.py, round the kit's print (a twelfth state) out of the translation. Not trusted: Lean checks it.
import Derived.Test.YtchpgkojlhipgaaX0
namespace Go.Proofs.Ytchpgkojlhipgaa.X
open Go.RowKit Go.Proofs.YtchpgkojlhipgaaW.PrintWords Go.Proofs.YtchpgkojlhipgaaW.PrintLast Go.Proofs.YtchpgkojlhipgaaW.PrintMore
attribute [local go_sem] max2_int min2_int max_two min_two max_three min_three max_four min_four   -- for this text's walks alone
set_option linter.unusedVariables false
set_option linter.unusedSimpArgs false

/-! ### tartanref04_Total: function 55 -/
mutual
def tartanref04_Total.l0 : Nat → Int → Int → List ByteArray → List (List ByteArray) → Option (Int)
  | 0, _, _, _, _ => none
  | k + 1, x3, x4, x183000, x183001 => if x4 < (x183000.length : Int) then (if 0 ≤ x4 then (tartanref04_Total.l0 k (wrap64 (x3 + ((rdOf ByteArray.empty x183000 x4).size : Int))) (wrap64 (x4 + 1)) x183000 x183001) else (none)) else (tartanref04_Total.l1 k x3 0 x183000 x183001)
def tartanref04_Total.l1 : Nat → Int → Int → List ByteArray → List (List ByteArray) → Option (Int)
  | 0, _, _, _, _ => none
  | k + 1, x3, x5, x183000, x183001 => if x5 < (x183001.length : Int) then (tartanref04_Total.l2 k x3 x5 0 x183000 x183001) else (some x3)
def tartanref04_Total.l2 : Nat → Int → Int → Int → List ByteArray → List (List ByteArray) → Option (Int)
  | 0, _, _, _, _, _ => none
  | k + 1, x3, x5, x6, x183000, x183001 => if 0 ≤ x5 then (if x5 < (x183001.length : Int) then (if x6 < ((rd_L2 x183001 x5).length : Int) then (if 0 ≤ x6 then (tartanref04_Total.l2 k (wrap64 (x3 + ((rdOf ByteArray.empty (rd_L2 x183001 x5) x6).size : Int))) x5 (wrap64 (x6 + 1)) x183000 x183001) else (none)) else (tartanref04_Total.l1 k x3 (wrap64 (x5 + 1)) x183000 x183001)) else (none)) else (none)
end
def tartanref04_Total.f (k : Nat) (l0_0 : List ByteArray) (l0_1 : List (List ByteArray)) : Option (Int) := tartanref04_Total.l0 k 0 0 l0_0 l0_1
theorem tartanref04_Total.mono_l : ∀ k, (∀ y0 y1 y2 y3, LeO (tartanref04_Total.l0 k y0 y1 y2 y3) (tartanref04_Total.l0 (k + 1) y0 y1 y2 y3)) ∧ (∀ y0 y1 y2 y3, LeO (tartanref04_Total.l1 k y0 y1 y2 y3) (tartanref04_Total.l1 (k + 1) y0 y1 y2 y3)) ∧ (∀ y0 y1 y2 y3 y4, LeO (tartanref04_Total.l2 k y0 y1 y2 y3 y4) (tartanref04_Total.l2 (k + 1) y0 y1 y2 y3 y4))
  | 0 => ⟨fun _ _ _ _ r h => by simp [tartanref04_Total.l0] at h, fun _ _ _ _ r h => by simp [tartanref04_Total.l1] at h, fun _ _ _ _ _ r h => by simp [tartanref04_Total.l2] at h⟩
  | k + 1 => by
    obtain ⟨ih0, ih1, ih2⟩ := tartanref04_Total.mono_l k
    refine ⟨?_, ?_, ?_⟩
    · intro y0 y1 y2 y3
      unfold tartanref04_Total.l0
      repeat' first
      | (with_reducible exact ih0 _ _ _ _)
      | (with_reducible exact ih1 _ _ _ _)
      | (with_reducible exact ih2 _ _ _ _ _)
      | (with_reducible exact LeO.refl _)
      | (with_reducible exact LeO.none _)
      | (with_reducible refine LeO.ite ?_ ?_)
      | (with_reducible refine LeO.bind ?_ (fun _ => ?_))
      | exact ih0 _ _ _ _
      | exact ih1 _ _ _ _
      | exact ih2 _ _ _ _ _
      | exact LeO.none _
      | refine LeO.ite ?_ ?_
      | refine LeO.bind ?_ (fun _ => ?_)
    · intro y0 y1 y2 y3
      unfold tartanref04_Total.l1
      repeat' first
      | (with_reducible exact ih0 _ _ _ _)
      | (with_reducible exact ih1 _ _ _ _)
      | (with_reducible exact ih2 _ _ _ _ _)
      | (with_reducible exact LeO.refl _)
      | (with_reducible exact LeO.none _)
      | (with_reducible refine LeO.ite ?_ ?_)
      | (with_reducible refine LeO.bind ?_ (fun _ => ?_))
      | exact ih0 _ _ _ _
      | exact ih1 _ _ _ _
      | exact ih2 _ _ _ _ _
      | exact LeO.none _
      | refine LeO.ite ?_ ?_
      | refine LeO.bind ?_ (fun _ => ?_)
    · intro y0 y1 y2 y3 y4
      unfold tartanref04_Total.l2
      repeat' first
      | (with_reducible exact ih0 _ _ _ _)
      | (with_reducible exact ih1 _ _ _ _)
      | (with_reducible exact ih2 _ _ _ _ _)
      | (with_reducible exact LeO.refl _)
      | (with_reducible exact LeO.none _)
      | (with_reducible refine LeO.ite ?_ ?_)
      | (with_reducible refine LeO.bind ?_ (fun _ => ?_))
      | exact ih0 _ _ _ _
      | exact ih1 _ _ _ _
      | exact ih2 _ _ _ _ _
      | exact LeO.none _
      | refine LeO.ite ?_ ?_
      | refine LeO.bind ?_ (fun _ => ?_)
theorem tartanref04_Total.mono : ∀ a0 a1 k, LeO (tartanref04_Total.f k a0 a1) (tartanref04_Total.f (k + 1) a0 a1) := by
  intro a0 a1 k
  obtain ⟨ih0, ih1, ih2⟩ := tartanref04_Total.mono_l k
  unfold tartanref04_Total.f
  repeat' first
      | (with_reducible exact ih0 _ _ _ _)
      | (with_reducible exact ih1 _ _ _ _)
      | (with_reducible exact ih2 _ _ _ _ _)
      | (with_reducible exact LeO.refl _)
      | (with_reducible exact LeO.none _)
      | (with_reducible refine LeO.ite ?_ ?_)
      | (with_reducible refine LeO.bind ?_ (fun _ => ?_))
      | exact ih0 _ _ _ _
      | exact ih1 _ _ _ _
      | exact ih2 _ _ _ _ _
      | exact LeO.none _
      | refine LeO.ite ?_ ?_
      | refine LeO.bind ?_ (fun _ => ?_)
set_option maxHeartbeats 8000000 in
set_option maxRecDepth 100000 in
theorem tartanref04_Total.calls (k : Nat) (A0_0 : Option Addr) (c0_0 : Nat) (l0_0 : List ByteArray) (A0_1 : Option Addr) (c0_1 : Nat) (l0_1 : List (List ByteArray)) (r : Int) (w : World) (hr0_0 : Kd.C Kd.string w A0_0 l0_0.length l0_0) (hc0_0 : l0_0.length ≤ c0_0) (hr0_1 : Kd.C (Kd.slice 9 Kd.string) w A0_1 l0_1.length l0_1) (hc0_1 : l0_1.length ≤ c0_1) (h : tartanref04_Total.f k l0_0 l0_1 = some r) :
    Calls Try.prog 55 #[.agg #[.slice A0_0 l0_0.length c0_0, .slice A0_1 l0_1.length c0_1]] w fun e w' => e = .returned (.int .i64 r) ∧ Below w.heap.size w w' := by
  have hu41 := Try.underlying41
  have HR0_0 := Aside0.mk hr0_0
  have HC0_0 := Aside0.mk hc0_0
  clear hr0_0 hc0_0
  have HR0_1 := Aside0.mk hr0_1
  have HC0_1 := Aside0.mk hc0_1
  clear hr0_1 hc0_1
  have HB := Aside0.mk (Below.refl w.heap.size w)
  have H : (tartanref04_Total.l0 k 0 0 l0_0 l0_1) = some r := h
  clear h
  have H' := Aside0.mk H
  clear H
  go_enter Try.func55, Try.ntmps55
  go_wp2_with (first | ((with_reducible refine gate_dst (N := 1) rfl ?_); refine box_event ?hg (N := 1) ?hd (cs := #[.slice A0_0 l0_0.length c0_0, .slice A0_1 l0_1.length c0_1]) (t := 41) ?hr ?_; (case hd => rfl); (case hg => rfl); (case hr => first | (go_simp; done) | (go_simp; rfl)); intro gb182 hg w2 hbox hb; have n0_ := Aside0.mk (below_step (by repeat (first | (with_reducible first | exact HB.out | apply below_alloc | apply pw_below_drewN | apply below_drew1) | exact HB.out)) hb); have n1_ := Aside0.mk (hbox); have n2_ := Aside0.mk ((by rw [hg]; exact (below_size (by repeat (first | (with_reducible first | exact HB.out | apply below_alloc | apply pw_below_drewN | apply below_drew1) | exact HB.out))) : w.heap.size ≤ gb182)); have n3_ := Aside0.mk ((by rw [hg]; exact (below_size (by repeat (first | (with_reducible first | exact HB.out | apply below_alloc | apply pw_below_drewN | apply below_drew1) | exact HB.out))) : w.heap.size ≤ gb182)); clear HB; have HB := n0_; have BK182 := n1_; have GW182 := n2_; have GE182 := n3_; clear n0_ n1_ n2_ n3_; clear hb hbox hg))
  go_loopg [3, 4] k (fun kq v3 v4 w' => ∃ (x3_1 : Int) (x4_1 : Int), v3 = .int .i64 x3_1 ∧ v4 = .int .i64 x4_1 ∧ Aside0 (tartanref04_Total.l0 kq x3_1 x4_1 l0_0 l0_1 = some r) ∧ Aside0 (kq ≤ k) ∧ Aside0 (w'.heap[gb182]? = some (.cells #[(.slice A0_0 l0_0.length c0_0), (.slice A0_1 l0_1.length c0_1)] 41 (0, 0))) ∧ Aside0 (Below w.heap.size w w'))
  case atStart => exact ⟨(0), (0), (by first | rfl | (simp; done) | (simp [*]; done)), (by first | rfl | (simp; done) | (simp [*]; done)), H', ⟨Nat.le_refl _⟩, ⟨by (with_reducible repeat (first | refine blk_drewN ?_ _ | refine blk_drew ?_ | refine blk_alloc ?_ _)); exact BK182.out⟩, ⟨by repeat (first | (with_reducible first | exact HB.out | apply below_alloc | apply pw_below_drewN | apply below_drew1 | refine below_set ?_ GE182.out) | exact HB.out)⟩⟩
  case round =>
    clear H'
    try clear p2
    obtain ⟨x3_1, x4_1, rfl, rfl, HA, HK1, BK182, HB⟩ := hrel
    cases gk with
    | zero => exact absurd HA.out (by simp [tartanref04_Total.l0])
    | succ k1 =>
      have H := HA.out
      clear HA
      simp only [tartanref04_Total.l0] at H
      by_cases c3 : x4_1 < (l0_0.length : Int)
      · rw [if_pos c3] at H
        have c3b0 : decide (x4_1 < (l0_0.length : Int)) = true := decide_eq_true c3
        clear c3
        by_cases c4 : 0 ≤ x4_1
        · rw [if_pos c4] at H
          have c4b0 : decide (0 ≤ x4_1) = true := decide_eq_true c4
          clear c4
          have H' := Aside0.mk H
          clear H
          have hcz5_0 : wr.cell? ⟨gb182, 0, none⟩ = some (.slice A0_0 l0_0.length c0_0) := (blk_cell BK182.out 0).trans rfl
          have hcz5_1 : wr.cell? ⟨gb182, 1, none⟩ = some (.slice A0_1 l0_1.length c0_1) := (blk_cell BK182.out 1).trans rfl
          have hfz5_0 := blk_frozen BK182.out 0
          have hfz5_1 := blk_frozen BK182.out 1
          have p183 : 0 ≤ (x4_1 : Int) := of_decide_eq_true (by first | (with_reducible assumption) | assumption)
          have q183 : x4_1 < (l0_0.length : Int) := of_decide_eq_true (by first | (with_reducible assumption) | assumption)
          obtain ⟨ad183, e183, hx183_0⟩ := Kd.at_string HR0_0.out x4_1 p183 q183
          cases e183
          replace hx183_0 := (HB.out.cell (World.block_lt_of_cell? w _ hx183_0)).trans hx183_0
          replace p183 := eq_true p183
          replace q183 := eq_true q183
          go_wp2
          go_roundg k1
          case measure => have := HK1.out; omega
          case rel => exact ⟨(wrap64 (x3_1 + ((rdOf ByteArray.empty l0_0 x4_1).size : Int))), (wrap64 (x4_1 + 1)), (by first | rfl | (simp; done) | (simp [*]; done)), (by first | rfl | (simp; done) | (simp [*]; done)), H', ⟨by have := HK1.out; omega⟩, ⟨by (with_reducible repeat (first | refine blk_drewN ?_ _ | refine blk_drew ?_ | refine blk_alloc ?_ _)); exact BK182.out⟩, ⟨by repeat (first | (with_reducible first | exact HB.out | apply below_alloc | apply pw_below_drewN | apply below_drew1 | refine below_set ?_ GE182.out) | exact HB.out)⟩⟩
        · rw [if_neg c4] at H
          exact absurd H (by simp)
      · rw [if_neg c3] at H
        have c3b0 : decide (x4_1 < (l0_0.length : Int)) = false := decide_eq_false c3
        clear c3
        have H' := Aside0.mk H
        clear H
        have hcz6_0 : wr.cell? ⟨gb182, 0, none⟩ = some (.slice A0_0 l0_0.length c0_0) := (blk_cell BK182.out 0).trans rfl
        have hcz6_1 : wr.cell? ⟨gb182, 1, none⟩ = some (.slice A0_1 l0_1.length c0_1) := (blk_cell BK182.out 1).trans rfl
        have hfz6_0 := blk_frozen BK182.out 0
        have hfz6_1 := blk_frozen BK182.out 1
        go_wp2
        go_loopg [3, 5] k1 (fun kq v3 v5 w' => ∃ (x3_2 : Int) (x5_2 : Int), v3 = .int .i64 x3_2 ∧ v5 = .int .i64 x5_2 ∧ Aside0 (tartanref04_Total.l1 kq x3_2 x5_2 l0_0 l0_1 = some r) ∧ Aside0 (kq ≤ k1) ∧ Aside0 (w'.heap[gb182]? = some (.cells #[(.slice A0_0 l0_0.length c0_0), (.slice A0_1 l0_1.length c0_1)] 41 (0, 0))) ∧ Aside0 (Below w.heap.size w w'))
        case atStart => exact ⟨(x3_1), (0), (by first | rfl | (simp; done) | (simp [*]; done)), (by first | rfl | (simp; done) | (simp [*]; done)), H', ⟨Nat.le_refl _⟩, ⟨by (with_reducible repeat (first | refine blk_drewN ?_ _ | refine blk_drew ?_ | refine blk_alloc ?_ _)); exact BK182.out⟩, ⟨by repeat (first | (with_reducible first | exact HB.out | apply below_alloc | apply pw_below_drewN | apply below_drew1 | refine below_set ?_ GE182.out) | exact HB.out)⟩⟩
        case round =>
          clear H'
          try clear p1
          try clear q1
          try clear hx1
          try clear p2
          try clear c3
          try clear c3b0
          try clear c4
          try clear c4b0
          try clear c5
          try clear p6
          try clear hcz5_0
          try clear hcz5_1
          try clear hcz6_0
          try clear hcz6_1
          try clear hfz5_0
          try clear hfz5_1
          try clear hfz6_0
          try clear hfz6_1
          try clear hx183_0
          try clear p183
          try clear p2
          try clear q183
          obtain ⟨x3_2, x5_2, rfl, rfl, HA, HK2, BK182, HB⟩ := hrel
          cases gk with
          | zero => exact absurd HA.out (by simp [tartanref04_Total.l1])
          | succ k2 =>
            have H := HA.out
            clear HA
            simp only [tartanref04_Total.l1] at H
            by_cases c7 : x5_2 < (l0_1.length : Int)
            · rw [if_pos c7] at H
              have c7b0 : decide (x5_2 < (l0_1.length : Int)) = true := decide_eq_true c7
              clear c7
              have H' := Aside0.mk H
              clear H
              have hcz8_0 : wr.cell? ⟨gb182, 0, none⟩ = some (.slice A0_0 l0_0.length c0_0) := (blk_cell BK182.out 0).trans rfl
              have hcz8_1 : wr.cell? ⟨gb182, 1, none⟩ = some (.slice A0_1 l0_1.length c0_1) := (blk_cell BK182.out 1).trans rfl
              have hfz8_0 := blk_frozen BK182.out 0
              have hfz8_1 := blk_frozen BK182.out 1
              go_wp2
              go_loopg [3, 6] k2 (fun kq v3 v6 w' => ∃ (x3_3 : Int) (x6_3 : Int), v3 = .int .i64 x3_3 ∧ v6 = .int .i64 x6_3 ∧ Aside0 (tartanref04_Total.l2 kq x3_3 x5_2 x6_3 l0_0 l0_1 = some r) ∧ Aside0 (kq ≤ k2) ∧ Aside0 (w'.heap[gb182]? = some (.cells #[(.slice A0_0 l0_0.length c0_0), (.slice A0_1 l0_1.length c0_1)] 41 (0, 0))) ∧ Aside0 (Below w.heap.size w w'))
              case atStart => exact ⟨(x3_2), (0), (by first | rfl | (simp; done) | (simp [*]; done)), (by first | rfl | (simp; done) | (simp [*]; done)), H', ⟨Nat.le_refl _⟩, ⟨by (with_reducible repeat (first | refine blk_drewN ?_ _ | refine blk_drew ?_ | refine blk_alloc ?_ _)); exact BK182.out⟩, ⟨by repeat (first | (with_reducible first | exact HB.out | apply below_alloc | apply pw_below_drewN | apply below_drew1 | refine below_set ?_ GE182.out) | exact HB.out)⟩⟩
              case round =>
                clear H'
                try clear p1
                try clear q1
                try clear hx1
                try clear p2
                try clear c3
                try clear c3b0
                try clear c4
                try clear c4b0
                try clear c5
                try clear p6
                try clear c7
                try clear c7b0
                try clear hcz5_0
                try clear hcz5_1
                try clear hcz6_0
                try clear hcz6_1
                try clear hcz8_0
                try clear hcz8_1
                try clear hfz5_0
                try clear hfz5_1
                try clear hfz6_0
                try clear hfz6_1
                try clear hfz8_0
                try clear hfz8_1
                try clear hx183_0
                try clear p1
                try clear p183
                try clear p2
                try clear p6
                try clear q1
                try clear q183
                obtain ⟨x3_3, x6_3, rfl, rfl, HA, HK3, BK182, HB⟩ := hrel
                cases gk with
                | zero => exact absurd HA.out (by simp [tartanref04_Total.l2])
                | succ k3 =>
                  have H := HA.out
                  clear HA
                  simp only [tartanref04_Total.l2] at H
                  by_cases c9 : 0 ≤ x5_2
                  · rw [if_pos c9] at H
                    have c9b0 : decide (0 ≤ x5_2) = true := decide_eq_true c9
                    clear c9
                    by_cases c10 : x5_2 < (l0_1.length : Int)
                    · rw [if_pos c10] at H
                      have c10b0 : decide (x5_2 < (l0_1.length : Int)) = true := decide_eq_true c10
                      clear c10
                      by_cases c11 : x6_3 < ((rd_L2 l0_1 x5_2).length : Int)
                      · rw [if_pos c11] at H
                        have c11b0 : decide (x6_3 < ((rd_L2 l0_1 x5_2).length : Int)) = true := decide_eq_true c11
                        clear c11
                        by_cases c12 : 0 ≤ x6_3
                        · rw [if_pos c12] at H
                          have c12b0 : decide (0 ≤ x6_3) = true := decide_eq_true c12
                          clear c12
                          have H' := Aside0.mk H
                          clear H
                          have hcz13_0 : wr.cell? ⟨gb182, 0, none⟩ = some (.slice A0_0 l0_0.length c0_0) := (blk_cell BK182.out 0).trans rfl
                          have hcz13_1 : wr.cell? ⟨gb182, 1, none⟩ = some (.slice A0_1 l0_1.length c0_1) := (blk_cell BK182.out 1).trans rfl
                          have hfz13_0 := blk_frozen BK182.out 0
                          have hfz13_1 := blk_frozen BK182.out 1
                          have p184 : 0 ≤ (x5_2 : Int) := of_decide_eq_true (by first | (with_reducible assumption) | assumption)
                          have q184 : x5_2 < (l0_1.length : Int) := of_decide_eq_true (by first | (with_reducible assumption) | assumption)
                          obtain ⟨ad184, A184_0, c184_0, e184, hx184_0, hl184_0, hi184_0⟩ := at_L2 HR0_1.out x5_2 p184 q184
                          cases e184
                          replace hx184_0 := (HB.out.cell (World.block_lt_of_cell? w _ hx184_0)).trans hx184_0
                          have HR184_0 := Aside0.mk hi184_0
                          have HC184_0 := Aside0.mk hl184_0
                          clear hi184_0 hl184_0
                          replace p184 := eq_true p184
                          replace q184 := eq_true q184
                          have p185 : 0 ≤ (x5_2 : Int) := of_decide_eq_true (by first | (with_reducible assumption) | assumption)
                          have q185 : x5_2 < (l0_1.length : Int) := of_decide_eq_true (by first | (with_reducible assumption) | assumption)
                          obtain ⟨ad185, A185_0, c185_0, e185, hx185_0, hl185_0, hi185_0⟩ := at_L2 HR0_1.out x5_2 p185 q185
                          obtain rfl : ad184 = ad185 := (by injection e185)
                          replace hx185_0 := (HB.out.cell (World.block_lt_of_cell? w _ hx185_0)).trans hx185_0
                          have HR185_0 := Aside0.mk hi185_0
                          have HC185_0 := Aside0.mk hl185_0
                          clear hi185_0 hl185_0
                          replace p185 := eq_true p185
                          replace q185 := eq_true q185
                          have ea_ := Option.some.inj (hx184_0.symm.trans hx185_0)
                          injection ea_ with ea_ en_ ec_
                          subst ea_
                          subst ec_
                          clear en_
                          have p186 : 0 ≤ (x6_3 : Int) := of_decide_eq_true (by first | (with_reducible assumption) | assumption)
                          have q186 : x6_3 < ((rd_L2 l0_1 x5_2).length : Int) := of_decide_eq_true (by first | (with_reducible assumption) | assumption)
                          obtain ⟨ad186, e186, hx186_0⟩ := Kd.at_string HR185_0.out x6_3 p186 q186
                          cases e186
                          replace hx186_0 := (HB.out.cell (World.block_lt_of_cell? w _ hx186_0)).trans hx186_0
                          replace p186 := eq_true p186
                          replace q186 := eq_true q186
                          go_wp2
                          go_roundg k3
                          case measure => have := HK1.out; have := HK2.out; have := HK3.out; omega
                          case rel => exact ⟨(wrap64 (x3_3 + ((rdOf ByteArray.empty (rd_L2 l0_1 x5_2) x6_3).size : Int))), (wrap64 (x6_3 + 1)), (by first | rfl | (simp; done) | (simp [*]; done)), (by first | rfl | (simp; done) | (simp [*]; done)), H', ⟨by have := HK1.out; have := HK2.out; have := HK3.out; omega⟩, ⟨by (with_reducible repeat (first | refine blk_drewN ?_ _ | refine blk_drew ?_ | refine blk_alloc ?_ _)); exact BK182.out⟩, ⟨by repeat (first | (with_reducible first | exact HB.out | apply below_alloc | apply pw_below_drewN | apply below_drew1 | refine below_set ?_ GE182.out) | exact HB.out)⟩⟩
                        · rw [if_neg c12] at H
                          exact absurd H (by simp)
                      · rw [if_neg c11] at H
                        have c11b0 : decide (x6_3 < ((rd_L2 l0_1 x5_2).length : Int)) = false := decide_eq_false c11
                        clear c11
                        have H' := Aside0.mk H
                        clear H
                        have hcz14_0 : wr.cell? ⟨gb182, 0, none⟩ = some (.slice A0_0 l0_0.length c0_0) := (blk_cell BK182.out 0).trans rfl
                        have hcz14_1 : wr.cell? ⟨gb182, 1, none⟩ = some (.slice A0_1 l0_1.length c0_1) := (blk_cell BK182.out 1).trans rfl
                        have hfz14_0 := blk_frozen BK182.out 0
                        have hfz14_1 := blk_frozen BK182.out 1
                        have p184 : 0 ≤ (x5_2 : Int) := of_decide_eq_true (by first | (with_reducible assumption) | assumption)
                        have q184 : x5_2 < (l0_1.length : Int) := of_decide_eq_true (by first | (with_reducible assumption) | assumption)
                        obtain ⟨ad184, A184_0, c184_0, e184, hx184_0, hl184_0, hi184_0⟩ := at_L2 HR0_1.out x5_2 p184 q184
                        cases e184
                        replace hx184_0 := (HB.out.cell (World.block_lt_of_cell? w _ hx184_0)).trans hx184_0
                        have HR184_0 := Aside0.mk hi184_0
                        have HC184_0 := Aside0.mk hl184_0
                        clear hi184_0 hl184_0
                        replace p184 := eq_true p184
                        replace q184 := eq_true q184
                        go_wp2
                        go_roundg k3
                        case measure => have := HK1.out; have := HK2.out; have := HK3.out; omega
                        case rel => exact ⟨(x3_3), (wrap64 (x5_2 + 1)), (by first | rfl | (simp; done) | (simp [*]; done)), (by first | rfl | (simp; done) | (simp [*]; done)), H', ⟨by have := HK1.out; have := HK2.out; have := HK3.out; omega⟩, ⟨by (with_reducible repeat (first | refine blk_drewN ?_ _ | refine blk_drew ?_ | refine blk_alloc ?_ _)); exact BK182.out⟩, ⟨by repeat (first | (with_reducible first | exact HB.out | apply below_alloc | apply pw_below_drewN | apply below_drew1 | refine below_set ?_ GE182.out) | exact HB.out)⟩⟩
                    · rw [if_neg c10] at H
                      exact absurd H (by simp)
                  · rw [if_neg c9] at H
                    exact absurd H (by simp)
            · rw [if_neg c7] at H
              have c7b0 : decide (x5_2 < (l0_1.length : Int)) = false := decide_eq_false c7
              clear c7
              obtain rfl := Option.some.inj H
              have hcz15_0 : wr.cell? ⟨gb182, 0, none⟩ = some (.slice A0_0 l0_0.length c0_0) := (blk_cell BK182.out 0).trans rfl
              have hcz15_1 : wr.cell? ⟨gb182, 1, none⟩ = some (.slice A0_1 l0_1.length c0_1) := (blk_cell BK182.out 1).trans rfl
              have hfz15_0 := blk_frozen BK182.out 0
              have hfz15_1 := blk_frozen BK182.out 1
              go_wp2
              go_ret
              exact ⟨by first | rfl | (simp [errW_none, errW_some] <;> rfl) | (simp [*, errW_none, errW_some] <;> rfl), by repeat (first | (with_reducible first | exact HB.out | apply below_alloc | apply pw_below_drewN | apply below_drew1 | refine below_set ?_ GE182.out) | exact HB.out)⟩

end Go.Proofs.Ytchpgkojlhipgaa.X
