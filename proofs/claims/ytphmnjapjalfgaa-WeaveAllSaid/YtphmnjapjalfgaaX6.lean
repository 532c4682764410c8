-- by pr.py, round the kit's print (a twelfth state) out of the translation. Not trusted: Lean checks it.
import Derived.Test.YtphmnjapjalfgaaX0
import Derived.Test.YtphmnjapjalfgaaX5
namespace Go.Proofs.Ytphmnjapjalfgaa.X
open Go.RowKit Go.Proofs.YtphmnjapjalfgaaW.PrintWords Go.Proofs.YtphmnjapjalfgaaW.PrintLast Go.Proofs.YtphmnjapjalfgaaW.PrintMore
attribute [local go_sem] max2_int min2_int max_two min_two max_three min_three max_four min_four   -- for this text's walks alone
set_option linter.unusedVariables false
set_option linter.unusedSimpArgs false

/-! ### tartanref06_Still: function 25 -/
mutual
def tartanref06_Still.l0 : Nat → List (S37) → List Int → Int → Int → Option (List Int)
  | 0, _, _, _, _ => none
  | k + 1, x0, x3, x4, x5 => if x5 < (x3.length : Int) then (if 0 ≤ x5 then (tartanref06_Still.l0 k x0 x3 (mx x4 (rd x3 x5)) (wrap64 (x5 + 1))) else (none)) else (tartanref06_Still.l1 k x0 x3 x4 ([] : List Int) 0)
def tartanref06_Still.l1 : Nat → List (S37) → List Int → Int → List Int → Int → Option (List Int)
  | 0, _, _, _, _, _ => none
  | k + 1, x0, x3, x4, x6, x7 => if x7 < (x0.length : Int) then (if (x6.length : Int) = 0 then (if 0 ≤ x7 then (if x7 < (x3.length : Int) then (if (rd x3 x7) = x4 then (if x4 > 0 then (if x6.length < 17592186044416 then (tartanref06_Still.l1 k x0 x3 (wrap64 (x4 - 1)) (x6 ++ [x7]) (wrap64 (x7 + 1))) else (none)) else (tartanref06_Still.l1 k x0 x3 x4 x6 (wrap64 (x7 + 1)))) else (tartanref06_Still.l1 k x0 x3 x4 x6 (wrap64 (x7 + 1)))) else (none)) else (none)) else (if 0 ≤ x7 then (if 0 ≤ (wrap64 ((x6.length : Int) - 1)) then (if (wrap64 ((x6.length : Int) - 1)) < (x6.length : Int) then (if 0 ≤ (rd x6 (wrap64 ((x6.length : Int) - 1))) then (if (rd x6 (wrap64 ((x6.length : Int) - 1))) < (x0.length : Int) then (if x7 < (x3.length : Int) then (if (rd x3 x7) = x4 then (if ((rd_T37 x0 x7).f0) > ((rd_T37 x0 (rd x6 (wrap64 ((x6.length : Int) - 1)))).f0) then (if x4 > 0 then (if x6.length < 17592186044416 then (tartanref06_Still.l1 k x0 x3 (wrap64 (x4 - 1)) (x6 ++ [x7]) (wrap64 (x7 + 1))) else (none)) else (tartanref06_Still.l1 k x0 x3 x4 x6 (wrap64 (x7 + 1)))) else (tartanref06_Still.l1 k x0 x3 x4 x6 (wrap64 (x7 + 1)))) else (tartanref06_Still.l1 k x0 x3 x4 x6 (wrap64 (x7 + 1)))) else (none)) else (none)) else (none)) else (none)) else (none)) else (none))) else (some x6)
end
def tartanref06_Still.f (k : Nat) (l0 : List (S37)) : Option (List Int) := (tartanref06_Long.f k l0).bind fun t158 => (tartanref06_Still.l0 k l0 t158 0 0)
theorem tartanref06_Still.mono_l : ∀ k, (∀ y0 y1 y2 y3, LeO (tartanref06_Still.l0 k y0 y1 y2 y3) (tartanref06_Still.l0 (k + 1) y0 y1 y2 y3)) ∧ (∀ y0 y1 y2 y3 y4, LeO (tartanref06_Still.l1 k y0 y1 y2 y3 y4) (tartanref06_Still.l1 (k + 1) y0 y1 y2 y3 y4))
  | 0 => ⟨fun _ _ _ _ r h => by simp [tartanref06_Still.l0] at h, fun _ _ _ _ _ r h => by simp [tartanref06_Still.l1] at h⟩
  | k + 1 => by
    obtain ⟨ih0, ih1⟩ := tartanref06_Still.mono_l k
    refine ⟨?_, ?_⟩
    · intro y0 y1 y2 y3
      unfold tartanref06_Still.l0
      repeat' first
      | (with_reducible exact ih0 _ _ _ _)
      | (with_reducible exact ih1 _ _ _ _ _)
      | (with_reducible exact tartanref06_Long.mono _ _)
      | (with_reducible exact LeO.refl _)
      | (with_reducible exact LeO.none _)
      | (with_reducible refine LeO.ite ?_ ?_)
      | (with_reducible refine LeO.bind ?_ (fun _ => ?_))
      | exact ih0 _ _ _ _
      | exact ih1 _ _ _ _ _
      | exact tartanref06_Long.mono _ _
      | exact LeO.none _
      | refine LeO.ite ?_ ?_
      | refine LeO.bind ?_ (fun _ => ?_)
    · intro y0 y1 y2 y3 y4
      unfold tartanref06_Still.l1
      repeat' first
      | (with_reducible exact ih0 _ _ _ _)
      | (with_reducible exact ih1 _ _ _ _ _)
      | (with_reducible exact tartanref06_Long.mono _ _)
      | (with_reducible exact LeO.refl _)
      | (with_reducible exact LeO.none _)
      | (with_reducible refine LeO.ite ?_ ?_)
      | (with_reducible refine LeO.bind ?_ (fun _ => ?_))
      | exact ih0 _ _ _ _
      | exact ih1 _ _ _ _ _
      | exact tartanref06_Long.mono _ _
      | exact LeO.none _
      | refine LeO.ite ?_ ?_
      | refine LeO.bind ?_ (fun _ => ?_)
theorem tartanref06_Still.mono : ∀ a0 k, LeO (tartanref06_Still.f k a0) (tartanref06_Still.f (k + 1) a0) := by
  intro a0 k
  obtain ⟨ih0, ih1⟩ := tartanref06_Still.mono_l k
  unfold tartanref06_Still.f
  repeat' first
      | (with_reducible exact ih0 _ _ _ _)
      | (with_reducible exact ih1 _ _ _ _ _)
      | (with_reducible exact tartanref06_Long.mono _ _)
      | (with_reducible exact LeO.refl _)
      | (with_reducible exact LeO.none _)
      | (with_reducible refine LeO.ite ?_ ?_)
      | (with_reducible refine LeO.bind ?_ (fun _ => ?_))
      | exact ih0 _ _ _ _
      | exact ih1 _ _ _ _ _
      | exact tartanref06_Long.mono _ _
      | exact LeO.none _
      | refine LeO.ite ?_ ?_
      | refine LeO.bind ?_ (fun _ => ?_)
set_option maxHeartbeats 8000000 in
set_option maxRecDepth 100000 in
theorem tartanref06_Still.calls (k : Nat) (A0 : Option Addr) (c0 : Nat) (l0 : List (S37)) (r : List Int) (w : World) (hr0 : Kd.C k37 w A0 l0.length l0) (hc0 : l0.length ≤ c0) (h : tartanref06_Still.f k l0 = some r) :
    Calls Try.prog 25 #[.slice A0 l0.length c0] w fun e w' => ∃ v0_ : Value, e = .returned (v0_) ∧ Kd.R (Kd.int .i64) 3 w' w.heap.size (fun _ => True) v0_ r ∧ Below w.heap.size w w' := by
  have HR0 := Aside0.mk hr0
  have HC0 := Aside0.mk hc0
  clear hr0 hc0
  have HB := Aside0.mk (Below.refl w.heap.size w)
  have H : ((tartanref06_Long.f k l0).bind fun t158 => (tartanref06_Still.l0 k l0 t158 0 0)) = some r := h
  clear h
  replace H := Option.bind_eq_some_iff.mp H
  obtain ⟨t158, A20, H⟩ := H
  replace H : (tartanref06_Still.l0 k l0 t158 0 0) = some r := H
  have A2 := Aside0.mk A20
  clear A20
  have H' := Aside0.mk H
  clear H
  go_enter Try.func25, Try.ntmps25
  go_wp2_with (first | (go_at_call 41; (with_reducible refine (tartanref06_Long.calls k _ _ l0 t158 _ ?side1 ?side2 A2.out).mono ?_); (case side1 => repeat (first | exact HR0.out | (with_reducible refine Kd.C_alloc ?_ _) | (with_reducible refine Kd.C_drewN ?_ _) | (with_reducible refine Kd.C_drew ?_))); (case side2 => exact HC0.out); rintro e w3 ⟨v159, rfl, ho0, hb⟩; have n0_ := Aside0.mk (Kd.R_lower ho0 (below_size (by repeat (first | (with_reducible first | exact HB.out | apply below_alloc | apply pw_below_drewN | apply below_drew1) | exact HB.out)))); have n1_ := Aside0.mk (below_step (by repeat (first | (with_reducible first | exact HB.out | apply below_alloc | apply pw_below_drewN | apply below_drew1) | exact HB.out)) hb); clear HB; have HO160 := n0_; have HB := n1_; clear n0_ n1_; (try clear hb); (try clear hb2); (try clear hk); (try clear hi); (try clear ho0)))
  repeat (go_quiet (first | (go_at_call 41; (with_reducible refine (tartanref06_Long.calls k _ _ l0 t158 _ ?side1 ?side2 A2.out).mono ?_); (case side1 => repeat (first | exact HR0.out | (with_reducible refine Kd.C_alloc ?_ _) | (with_reducible refine Kd.C_drewN ?_ _) | (with_reducible refine Kd.C_drew ?_))); (case side2 => exact HC0.out); rintro e w3 ⟨v159, rfl, ho0, hb⟩; have n0_ := Aside0.mk (Kd.R_lower ho0 (below_size (by repeat (first | (with_reducible first | exact HB.out | apply below_alloc | apply pw_below_drewN | apply below_drew1) | exact HB.out)))); have n1_ := Aside0.mk (below_step (by repeat (first | (with_reducible first | exact HB.out | apply below_alloc | apply pw_below_drewN | apply below_drew1) | exact HB.out)) hb); clear HB; have HO160 := n0_; have HB := n1_; clear n0_ n1_; (try clear hb); (try clear hb2); (try clear hk); (try clear hi); (try clear ho0))); try go_wp2_with (first | (go_at_call 41; (with_reducible refine (tartanref06_Long.calls k _ _ l0 t158 _ ?side1 ?side2 A2.out).mono ?_); (case side1 => repeat (first | exact HR0.out | (with_reducible refine Kd.C_alloc ?_ _) | (with_reducible refine Kd.C_drewN ?_ _) | (with_reducible refine Kd.C_drew ?_))); (case side2 => exact HC0.out); rintro e w3 ⟨v159, rfl, ho0, hb⟩; have n0_ := Aside0.mk (Kd.R_lower ho0 (below_size (by repeat (first | (with_reducible first | exact HB.out | apply below_alloc | apply pw_below_drewN | apply below_drew1) | exact HB.out)))); have n1_ := Aside0.mk (below_step (by repeat (first | (with_reducible first | exact HB.out | apply below_alloc | apply pw_below_drewN | apply below_drew1) | exact HB.out)) hb); clear HB; have HO160 := n0_; have HB := n1_; clear n0_ n1_; (try clear hb); (try clear hb2); (try clear hk); (try clear hi); (try clear ho0))))
  go_loopg [4, 5] k (fun kq v4 v5 w' => ∃ (x4_1 : Int) (x5_1 : Int), v4 = .int .i64 x4_1 ∧ v5 = .int .i64 x5_1 ∧ Aside0 (tartanref06_Still.l0 kq l0 t158 x4_1 x5_1 = some r) ∧ Aside0 (kq ≤ k) ∧ Aside0 (Kd.R (Kd.int .i64) 3 w' w.heap.size (fun _ => True) v159 t158) ∧ Aside0 (Below w.heap.size w w'))
  case atStart => exact ⟨(0), (0), (by first | rfl | (simp; done) | (simp [*]; done)), (by first | rfl | (simp; done) | (simp [*]; done)), H', ⟨Nat.le_refl _⟩, ⟨by (with_reducible repeat (first | apply Kd.R_alloc | apply Kd.R_drewN | apply Kd.R_drew)); exact HO160.out⟩, ⟨by repeat (first | (with_reducible first | exact HB.out | apply below_alloc | apply pw_below_drewN | apply below_drew1) | exact HB.out)⟩⟩
  case round =>
    clear H'
    try clear c2
    try clear p2
    obtain ⟨x4_1, x5_1, rfl, rfl, HA, HK1, HO_3, HB⟩ := hrel
    cases gk with
    | zero => exact absurd HA.out (by simp [tartanref06_Still.l0])
    | succ k1 =>
      have H := HA.out
      clear HA
      simp only [tartanref06_Still.l0] at H
      by_cases c4 : x5_1 < (t158.length : Int)
      · rw [if_pos c4] at H
        have c4b0 : decide (x5_1 < (t158.length : Int)) = true := decide_eq_true c4
        clear c4
        by_cases c5 : 0 ≤ x5_1
        · rw [if_pos c5] at H
          have c5b0 : decide (0 ≤ x5_1) = true := decide_eq_true c5
          clear c5
          obtain ⟨ji6, hji6⟩ : ∃ j_ : Int, (mx x4_1 (rd t158 x5_1)) = j_ := ⟨_, rfl⟩
          replace H : (tartanref06_Still.l0 k1 l0 t158 ji6 (wrap64 (x5_1 + 1))) = some r := by first | (rw [hji6] at H; exact H) | (simp only [hji6] at H ⊢; exact H)
          have hji6_ : (if x4_1 < (rd t158 x5_1) then (rd t158 x5_1) else x4_1) = ji6 := hji6
          have H' := Aside0.mk H
          clear H
          obtain ⟨Ao7, co7, eo7⟩ := Kd.R_slice HO_3.out
          subst eo7
          have p161 : 0 ≤ (x5_1 : Int) := of_decide_eq_true (by first | (with_reducible assumption) | assumption)
          have q161 : x5_1 < (t158.length : Int) := of_decide_eq_true (by first | (with_reducible assumption) | assumption)
          obtain ⟨ad161, e161, hx161_0⟩ := Kd.at_int (Kd.R_reads' HO_3.out).2.2 x5_1 p161 q161
          cases e161
          replace p161 := eq_true p161
          replace q161 := eq_true q161
          go_wp2
          repeat (go_quiet (fail); try go_wp2)
          go_roundg k1
          case measure => have := HK1.out; omega
          case rel => exact ⟨(ji6), (wrap64 (x5_1 + 1)), (by first | rfl | (simp; done) | (simp only [← hji6] <;> (first | rfl | simp)) | (simp [*]; done)), (by first | rfl | (simp; done) | (simp [*]; done)), H', ⟨by have := HK1.out; omega⟩, ⟨by (with_reducible repeat (first | apply Kd.R_alloc | apply Kd.R_drewN | apply Kd.R_drew)); exact HO_3.out⟩, ⟨by repeat (first | (with_reducible first | exact HB.out | apply below_alloc | apply pw_below_drewN | apply below_drew1) | exact HB.out)⟩⟩
        · rw [if_neg c5] at H
          exact absurd H (by simp)
      · rw [if_neg c4] at H
        have c4b0 : decide (x5_1 < (t158.length : Int)) = false := decide_eq_false c4
        clear c4
        have H' := Aside0.mk H
        clear H
        obtain ⟨Ao8, co8, eo8⟩ := Kd.R_slice HO_3.out
        subst eo8
        go_wp2
        repeat (go_quiet (fail); try go_wp2)
        go_loopg [4, 6, 7] k1 (fun kq v4 v6 v7 w' => ∃ (x4_2 : Int) (x6_2 : List Int) (x7_2 : Int), v4 = .int .i64 x4_2 ∧ v7 = .int .i64 x7_2 ∧ Aside0 (tartanref06_Still.l1 kq l0 t158 x4_2 x6_2 x7_2 = some r) ∧ Aside0 (kq ≤ k1) ∧ Aside0 (Kd.R (Kd.int .i64) 3 w' w.heap.size (fun k_ => some k_ ≠ (v6 : Value).ownBlock) (.slice Ao8 t158.length co8) t158) ∧ Aside0 (Kd.R (Kd.int .i64) 3 w' w.heap.size (fun k_ => some k_ ≠ ((.slice Ao8 t158.length co8) : Value).ownBlock) v6 x6_2) ∧ Aside0 (Below w.heap.size w w'))
        case atStart => exact ⟨(x4_1), (([] : List Int)), (0), (by first | rfl | (simp; done) | (simp [*]; done)), (by first | rfl | (simp; done) | (simp [*]; done)), H', ⟨Nat.le_refl _⟩, ⟨by (with_reducible repeat (first | apply Kd.R_alloc | apply Kd.R_drewN | apply Kd.R_drew)); exact Kd.R_mono HO_3.out (fun _ hk => (by simp [Value.ownBlock]))⟩, ⟨by first | exact Kd.R_nil _ _ _ _ _ | exact Kd.N_nil _ _ _ _ _ | exact Kd.V_nil _ _ _ _ _ | exact Kd.Q_nil _ _ _ _ _ | exact Kd.S_nil _ _ _ _ _⟩, ⟨by repeat (first | (with_reducible first | exact HB.out | apply below_alloc | apply pw_below_drewN | apply below_drew1) | exact HB.out)⟩⟩
        case round =>
          clear H'
          try clear p1
          try clear q1
          try clear hx1
          try clear c2
          try clear p2
          try clear c4
          try clear c4b0
          try clear c5
          try clear c5b0
          try clear p6
          try clear hx161_0
          try clear p161
          try clear p2
          try clear q161
          obtain ⟨x4_2, x6_2, x7_2, rfl, rfl, HA, HK2, HO_3, HO_6, HB⟩ := hrel
          cases gk with
          | zero => exact absurd HA.out (by simp [tartanref06_Still.l1])
          | succ k2 =>
            have H := HA.out
            clear HA
            simp only [tartanref06_Still.l1] at H
            by_cases c9 : x7_2 < (l0.length : Int)
            · rw [if_pos c9] at H
              have c9b0 : decide (x7_2 < (l0.length : Int)) = true := decide_eq_true c9
              clear c9
              by_cases c10 : (x6_2.length : Int) = 0
              · rw [if_pos c10] at H
                have c10b0 : ((x6_2.length : Int) == 0) = true := beq_iff_eq.mpr c10
                have c10b1 : ((x6_2.length : Int) != 0) = false := bne_eq_false_iff_eq.mpr c10
                clear c10
                by_cases c11 : 0 ≤ x7_2
                · rw [if_pos c11] at H
                  have c11b0 : decide (0 ≤ x7_2) = true := decide_eq_true c11
                  clear c11
                  by_cases c12 : x7_2 < (t158.length : Int)
                  · rw [if_pos c12] at H
                    have c12b0 : decide (x7_2 < (t158.length : Int)) = true := decide_eq_true c12
                    clear c12
                    by_cases c13 : (rd t158 x7_2) = x4_2
                    · rw [if_pos c13] at H
                      have c13b0 : ((rd t158 x7_2) == x4_2) = true := beq_iff_eq.mpr c13
                      have c13b1 : ((rd t158 x7_2) != x4_2) = false := bne_eq_false_iff_eq.mpr c13
                      clear c13
                      by_cases c14 : x4_2 > 0
                      · rw [if_pos c14] at H
                        have c14b0 : decide (0 < x4_2) = true := decide_eq_true c14
                        clear c14
                        by_cases c15 : x6_2.length < 17592186044416
                        · rw [if_pos c15] at H
                          have LMc15 := Aside0.mk c15
                          clear c15
                          obtain ⟨y163, hy163⟩ : ∃ y_ : List Int, y_ = (x6_2 ++ [x7_2]) := ⟨_, rfl⟩
                          replace H : (tartanref06_Still.l1 k2 l0 t158 (wrap64 (x4_2 - 1)) y163 (wrap64 (x7_2 + 1))) = some r := by first | (rw [hy163]; with_reducible exact H) | (have H2_ := (Option.bind_some _ _).symm.trans H; rw [hy163]; with_reducible exact H2_) | (have H2_ := (Option.bind_some _ _).symm.trans H; with_reducible exact H2_) | with_reducible exact H | (rw [hy163]; exact H) | exact H
                          have Ny163 := Aside0.mk hy163
                          clear hy163
                          have H' := Aside0.mk H
                          clear H
                          obtain ⟨Ao16, co16, eo16⟩ := Kd.R_slice HO_6.out
                          subst eo16
                          have p162 : 0 ≤ (x7_2 : Int) := of_decide_eq_true (by first | (with_reducible assumption) | assumption)
                          have q162 : x7_2 < (t158.length : Int) := of_decide_eq_true (by first | (with_reducible assumption) | assumption)
                          obtain ⟨ad162, e162, hx162_0⟩ := Kd.at_int (Kd.R_reads' HO_3.out).2.2 x7_2 p162 q162
                          cases e162
                          replace p162 := eq_true p162
                          replace q162 := eq_true q162
                          go_wp2_with (first | ((with_reducible refine gate_builtin (b := .append) (xs := #[.tmp 63, .tmp 65]) rfl ?_); (try (refine gate_guard (by rfl) ?_; dsimp only)); at_builtin; refine Kd.R_append (Kd.int .i64) (w0 := w) w.heap.size rfl (.tmp 63) (.tmp 65) 31 3 (.int .i64 0) 8 rfl Try.underlying31 info3 rfl (by decide) (by omega) (.slice Ao16 x6_2.length co16) x6_2 x7_2 [.int .i64 x7_2] (fun k_ => some k_ ≠ (.slice (some ad162) t158.length co8 : Value).ownBlock) (fun _ => False) rfl rfl ?aP (fun _ hk => hk.elim) ?aF ?aO ?aB ?aS ?aL ?_; (case aP => exact rfl); (case aB => exact (by repeat (first | (with_reducible first | exact HB.out | apply below_alloc | apply pw_below_drewN | apply below_drew1) | exact HB.out))); (case aF => exact (fun k_ hk => Kd.fresh' (Kd.R_lt (by (with_reducible repeat (first | apply Kd.R_alloc | apply Kd.R_drewN | apply Kd.R_drew)); exact HO_3.out)) k_ hk)); (case aO => exact (by (with_reducible repeat (first | apply Kd.R_alloc | apply Kd.R_drewN | apply Kd.R_drew)); exact HO_6.out)); (case aS => exact (below_size (by repeat (first | (with_reducible first | exact HB.out | apply below_alloc | apply pw_below_drewN | apply below_drew1) | exact HB.out)))); (case aL => have := LMc15.out; omega); intro v164 w17 ho hb hg hat; rw [← Ny163.out] at ho; have n0_ := Aside0.mk (Kd.R_after (ok := (fun _ => True)) (by (with_reducible repeat (first | apply Kd.R_alloc | apply Kd.R_drewN | apply Kd.R_drew)); exact Kd.R_mono HO_3.out (fun _ hk => ⟨trivial, hk⟩)) hg hat); have n1_ := Aside0.mk (hb); have n2_ := Aside0.mk (ho); clear HO_3; clear HB; clear HO_6; have HO_3 := n0_; have HB := n1_; have HO165 := n2_; clear n0_ n1_ n2_; clear ho hb hg hat))
                          repeat (go_quiet (first | ((with_reducible refine gate_builtin (b := .append) (xs := #[.tmp 63, .tmp 65]) rfl ?_); (try (refine gate_guard (by rfl) ?_; dsimp only)); at_builtin; refine Kd.R_append (Kd.int .i64) (w0 := w) w.heap.size rfl (.tmp 63) (.tmp 65) 31 3 (.int .i64 0) 8 rfl Try.underlying31 info3 rfl (by decide) (by omega) (.slice Ao16 x6_2.length co16) x6_2 x7_2 [.int .i64 x7_2] (fun k_ => some k_ ≠ (.slice (some ad162) t158.length co8 : Value).ownBlock) (fun _ => False) rfl rfl ?aP (fun _ hk => hk.elim) ?aF ?aO ?aB ?aS ?aL ?_; (case aP => exact rfl); (case aB => exact (by repeat (first | (with_reducible first | exact HB.out | apply below_alloc | apply pw_below_drewN | apply below_drew1) | exact HB.out))); (case aF => exact (fun k_ hk => Kd.fresh' (Kd.R_lt (by (with_reducible repeat (first | apply Kd.R_alloc | apply Kd.R_drewN | apply Kd.R_drew)); exact HO_3.out)) k_ hk)); (case aO => exact (by (with_reducible repeat (first | apply Kd.R_alloc | apply Kd.R_drewN | apply Kd.R_drew)); exact HO_6.out)); (case aS => exact (below_size (by repeat (first | (with_reducible first | exact HB.out | apply below_alloc | apply pw_below_drewN | apply below_drew1) | exact HB.out)))); (case aL => have := LMc15.out; omega); intro v164 w17 ho hb hg hat; rw [← Ny163.out] at ho; have n0_ := Aside0.mk (Kd.R_after (ok := (fun _ => True)) (by (with_reducible repeat (first | apply Kd.R_alloc | apply Kd.R_drewN | apply Kd.R_drew)); exact Kd.R_mono HO_3.out (fun _ hk => ⟨trivial, hk⟩)) hg hat); have n1_ := Aside0.mk (hb); have n2_ := Aside0.mk (ho); clear HO_3; clear HB; clear HO_6; have HO_3 := n0_; have HB := n1_; have HO165 := n2_; clear n0_ n1_ n2_; clear ho hb hg hat)); try go_wp2_with (first | ((with_reducible refine gate_builtin (b := .append) (xs := #[.tmp 63, .tmp 65]) rfl ?_); (try (refine gate_guard (by rfl) ?_; dsimp only)); at_builtin; refine Kd.R_append (Kd.int .i64) (w0 := w) w.heap.size rfl (.tmp 63) (.tmp 65) 31 3 (.int .i64 0) 8 rfl Try.underlying31 info3 rfl (by decide) (by omega) (.slice Ao16 x6_2.length co16) x6_2 x7_2 [.int .i64 x7_2] (fun k_ => some k_ ≠ (.slice (some ad162) t158.length co8 : Value).ownBlock) (fun _ => False) rfl rfl ?aP (fun _ hk => hk.elim) ?aF ?aO ?aB ?aS ?aL ?_; (case aP => exact rfl); (case aB => exact (by repeat (first | (with_reducible first | exact HB.out | apply below_alloc | apply pw_below_drewN | apply below_drew1) | exact HB.out))); (case aF => exact (fun k_ hk => Kd.fresh' (Kd.R_lt (by (with_reducible repeat (first | apply Kd.R_alloc | apply Kd.R_drewN | apply Kd.R_drew)); exact HO_3.out)) k_ hk)); (case aO => exact (by (with_reducible repeat (first | apply Kd.R_alloc | apply Kd.R_drewN | apply Kd.R_drew)); exact HO_6.out)); (case aS => exact (below_size (by repeat (first | (with_reducible first | exact HB.out | apply below_alloc | apply pw_below_drewN | apply below_drew1) | exact HB.out)))); (case aL => have := LMc15.out; omega); intro v164 w17 ho hb hg hat; rw [← Ny163.out] at ho; have n0_ := Aside0.mk (Kd.R_after (ok := (fun _ => True)) (by (with_reducible repeat (first | apply Kd.R_alloc | apply Kd.R_drewN | apply Kd.R_drew)); exact Kd.R_mono HO_3.out (fun _ hk => ⟨trivial, hk⟩)) hg hat); have n1_ := Aside0.mk (hb); have n2_ := Aside0.mk (ho); clear HO_3; clear HB; clear HO_6; have HO_3 := n0_; have HB := n1_; have HO165 := n2_; clear n0_ n1_ n2_; clear ho hb hg hat)))
                          go_roundg k2
                          case measure => have := HK1.out; have := HK2.out; omega
                          case rel => exact ⟨(wrap64 (x4_2 - 1)), (y163), (wrap64 (x7_2 + 1)), (by first | rfl | (simp; done) | (simp [*]; done)), (by first | rfl | (simp; done) | (simp [*]; done)), H', ⟨by have := HK1.out; have := HK2.out; omega⟩, ⟨by (with_reducible repeat (first | apply Kd.R_alloc | apply Kd.R_drewN | apply Kd.R_drew)); exact Kd.R_mono HO_3.out (fun _ hk => hk.2)⟩, ⟨by (with_reducible repeat (first | apply Kd.R_alloc | apply Kd.R_drewN | apply Kd.R_drew)); exact HO165.out⟩, ⟨by repeat (first | (with_reducible first | exact HB.out | apply below_alloc | apply pw_below_drewN | apply below_drew1) | exact HB.out)⟩⟩
                        · rw [if_neg c15] at H
                          exact absurd H (by simp)
                      · rw [if_neg c14] at H
                        have c14b0 : decide (0 < x4_2) = false := decide_eq_false c14
                        clear c14
                        have H' := Aside0.mk H
                        clear H
                        obtain ⟨Ao18, co18, eo18⟩ := Kd.R_slice HO_6.out
                        subst eo18
                        have p162 : 0 ≤ (x7_2 : Int) := of_decide_eq_true (by first | (with_reducible assumption) | assumption)
                        have q162 : x7_2 < (t158.length : Int) := of_decide_eq_true (by first | (with_reducible assumption) | assumption)
                        obtain ⟨ad162, e162, hx162_0⟩ := Kd.at_int (Kd.R_reads' HO_3.out).2.2 x7_2 p162 q162
                        cases e162
                        replace p162 := eq_true p162
                        replace q162 := eq_true q162
                        go_wp2
                        repeat (go_quiet (fail); try go_wp2)
                        go_roundg k2
                        case measure => have := HK1.out; have := HK2.out; omega
                        case rel => exact ⟨(x4_2), (x6_2), (wrap64 (x7_2 + 1)), (by first | rfl | (simp; done) | (simp [*]; done)), (by first | rfl | (simp; done) | (simp [*]; done)), H', ⟨by have := HK1.out; have := HK2.out; omega⟩, ⟨by (with_reducible repeat (first | apply Kd.R_alloc | apply Kd.R_drewN | apply Kd.R_drew)); exact HO_3.out⟩, ⟨by (with_reducible repeat (first | apply Kd.R_alloc | apply Kd.R_drewN | apply Kd.R_drew)); exact HO_6.out⟩, ⟨by repeat (first | (with_reducible first | exact HB.out | apply below_alloc | apply pw_below_drewN | apply below_drew1) | exact HB.out)⟩⟩
                    · rw [if_neg c13] at H
                      have c13b0 : ((rd t158 x7_2) == x4_2) = false := beq_eq_false_iff_ne.mpr c13
                      have c13b1 : ((rd t158 x7_2) != x4_2) = true := bne_iff_ne.mpr c13
                      have H' := Aside0.mk H
                      clear H
                      obtain ⟨Ao19, co19, eo19⟩ := Kd.R_slice HO_6.out
                      subst eo19
                      have p162 : 0 ≤ (x7_2 : Int) := of_decide_eq_true (by first | (with_reducible assumption) | assumption)
                      have q162 : x7_2 < (t158.length : Int) := of_decide_eq_true (by first | (with_reducible assumption) | assumption)
                      obtain ⟨ad162, e162, hx162_0⟩ := Kd.at_int (Kd.R_reads' HO_3.out).2.2 x7_2 p162 q162
                      cases e162
                      replace p162 := eq_true p162
                      replace q162 := eq_true q162
                      go_wp2
                      repeat (go_quiet (fail); try go_wp2)
                      go_roundg k2
                      case measure => have := HK1.out; have := HK2.out; omega
                      case rel => exact ⟨(x4_2), (x6_2), (wrap64 (x7_2 + 1)), (by first | rfl | (simp; done) | (simp [*]; done)), (by first | rfl | (simp; done) | (simp [*]; done)), H', ⟨by have := HK1.out; have := HK2.out; omega⟩, ⟨by (with_reducible repeat (first | apply Kd.R_alloc | apply Kd.R_drewN | apply Kd.R_drew)); exact HO_3.out⟩, ⟨by (with_reducible repeat (first | apply Kd.R_alloc | apply Kd.R_drewN | apply Kd.R_drew)); exact HO_6.out⟩, ⟨by repeat (first | (with_reducible first | exact HB.out | apply below_alloc | apply pw_below_drewN | apply below_drew1) | exact HB.out)⟩⟩
                  · rw [if_neg c12] at H
                    exact absurd H (by simp)
                · rw [if_neg c11] at H
                  exact absurd H (by simp)
              · rw [if_neg c10] at H
                have c10b0 : ((x6_2.length : Int) == 0) = false := beq_eq_false_iff_ne.mpr c10
                have c10b1 : ((x6_2.length : Int) != 0) = true := bne_iff_ne.mpr c10
                have c10b2 : ¬ (x6_2 = []) := fun h_ => c10 (by rw [h_]; rfl)
                by_cases c20 : 0 ≤ x7_2
                · rw [if_pos c20] at H
                  have c20b0 : decide (0 ≤ x7_2) = true := decide_eq_true c20
                  clear c20
                  obtain ⟨ji21, hji21⟩ : ∃ j_ : Int, (wrap64 ((x6_2.length : Int) - 1)) = j_ := ⟨_, rfl⟩
                  replace H : (if 0 ≤ (ji21) then (if (ji21) < (x6_2.length : Int) then (if 0 ≤ (rd x6_2 (ji21)) then (if (rd x6_2 (ji21)) < (l0.length : Int) then (if x7_2 < (t158.length : Int) then (if (rd t158 x7_2) = x4_2 then (if ((rd_T37 l0 x7_2).f0) > ((rd_T37 l0 (rd x6_2 (ji21))).f0) then (if x4_2 > 0 then (if x6_2.length < 17592186044416 then (tartanref06_Still.l1 k2 l0 t158 (wrap64 (x4_2 - 1)) (x6_2 ++ [x7_2]) (wrap64 (x7_2 + 1))) else (none)) else (tartanref06_Still.l1 k2 l0 t158 x4_2 x6_2 (wrap64 (x7_2 + 1)))) else (tartanref06_Still.l1 k2 l0 t158 x4_2 x6_2 (wrap64 (x7_2 + 1)))) else (tartanref06_Still.l1 k2 l0 t158 x4_2 x6_2 (wrap64 (x7_2 + 1)))) else (none)) else (none)) else (none)) else (none)) else (none)) = some r := by first | (rw [hji21] at H; exact H) | (simp only [hji21] at H ⊢; exact H)
                  have hji21w : (IntKind.i64.wrap ((x6_2.length : Int) - 1)) = ji21 := (i64_w _).trans hji21
                  by_cases c22 : 0 ≤ (ji21)
                  · rw [if_pos c22] at H
                    have c22b0 : decide (0 ≤ (ji21)) = true := decide_eq_true c22
                    clear c22
                    by_cases c23 : (ji21) < (x6_2.length : Int)
                    · rw [if_pos c23] at H
                      have c23b0 : decide ((ji21) < (x6_2.length : Int)) = true := decide_eq_true c23
                      clear c23
                      by_cases c24 : 0 ≤ (rd x6_2 (ji21))
                      · rw [if_pos c24] at H
                        have c24b0 : decide (0 ≤ (rd x6_2 (ji21))) = true := decide_eq_true c24
                        clear c24
                        by_cases c25 : (rd x6_2 (ji21)) < (l0.length : Int)
                        · rw [if_pos c25] at H
                          have c25b0 : decide ((rd x6_2 (ji21)) < (l0.length : Int)) = true := decide_eq_true c25
                          clear c25
                          by_cases c26 : x7_2 < (t158.length : Int)
                          · rw [if_pos c26] at H
                            have c26b0 : decide (x7_2 < (t158.length : Int)) = true := decide_eq_true c26
                            clear c26
                            by_cases c27 : (rd t158 x7_2) = x4_2
                            · rw [if_pos c27] at H
                              have c27b0 : ((rd t158 x7_2) == x4_2) = true := beq_iff_eq.mpr c27
                              have c27b1 : ((rd t158 x7_2) != x4_2) = false := bne_eq_false_iff_eq.mpr c27
                              clear c27
                              by_cases c28 : ((rd_T37 l0 x7_2).f0) > ((rd_T37 l0 (rd x6_2 (ji21))).f0)
                              · rw [if_pos c28] at H
                                have c28b0 : decide (((rd_T37 l0 (rd x6_2 (ji21))).f0) < ((rd_T37 l0 x7_2).f0)) = true := decide_eq_true c28
                                clear c28
                                by_cases c29 : x4_2 > 0
                                · rw [if_pos c29] at H
                                  have c29b0 : decide (0 < x4_2) = true := decide_eq_true c29
                                  clear c29
                                  by_cases c30 : x6_2.length < 17592186044416
                                  · rw [if_pos c30] at H
                                    have LMc30 := Aside0.mk c30
                                    clear c30
                                    obtain ⟨y170, hy170⟩ : ∃ y_ : List Int, y_ = (x6_2 ++ [x7_2]) := ⟨_, rfl⟩
                                    replace H : (tartanref06_Still.l1 k2 l0 t158 (wrap64 (x4_2 - 1)) y170 (wrap64 (x7_2 + 1))) = some r := by first | (rw [hy170]; with_reducible exact H) | (have H2_ := (Option.bind_some _ _).symm.trans H; rw [hy170]; with_reducible exact H2_) | (have H2_ := (Option.bind_some _ _).symm.trans H; with_reducible exact H2_) | with_reducible exact H | (rw [hy170]; exact H) | exact H
                                    have Ny170 := Aside0.mk hy170
                                    clear hy170
                                    have H' := Aside0.mk H
                                    clear H
                                    obtain ⟨Ao31, co31, eo31⟩ := Kd.R_slice HO_6.out
                                    subst eo31
                                    have p166 : 0 ≤ (x7_2 : Int) := of_decide_eq_true (by first | (with_reducible assumption) | assumption)
                                    have q166 : x7_2 < (l0.length : Int) := of_decide_eq_true (by first | (with_reducible assumption) | assumption)
                                    obtain ⟨ad166, e166, hx166_0, hx166_1⟩ := at_T37 HR0.out x7_2 p166 q166
                                    cases e166
                                    replace hx166_0 := (HB.out.cell (World.block_lt_of_cell? w _ hx166_0)).trans hx166_0
                                    replace hx166_1 := (HB.out.cell (World.block_lt_of_cell? w _ hx166_1)).trans hx166_1
                                    replace p166 := eq_true p166
                                    replace q166 := eq_true q166
                                    have p167 : 0 ≤ ((ji21) : Int) := of_decide_eq_true (by first | (with_reducible assumption) | assumption)
                                    have q167 : (ji21) < (x6_2.length : Int) := of_decide_eq_true (by first | (with_reducible assumption) | assumption)
                                    obtain ⟨ad167, e167, hx167_0⟩ := Kd.at_int (Kd.R_reads' HO_6.out).2.2 (ji21) p167 q167
                                    cases e167
                                    replace p167 := eq_true p167
                                    replace q167 := eq_true q167
                                    have p168 : 0 ≤ ((rd x6_2 (ji21)) : Int) := of_decide_eq_true (by first | (with_reducible assumption) | assumption)
                                    have q168 : (rd x6_2 (ji21)) < (l0.length : Int) := of_decide_eq_true (by first | (with_reducible assumption) | assumption)
                                    obtain ⟨ad168, e168, hx168_0, hx168_1⟩ := at_T37 HR0.out (rd x6_2 (ji21)) p168 q168
                                    obtain rfl : ad166 = ad168 := (by injection e168)
                                    replace hx168_0 := (HB.out.cell (World.block_lt_of_cell? w _ hx168_0)).trans hx168_0
                                    replace hx168_1 := (HB.out.cell (World.block_lt_of_cell? w _ hx168_1)).trans hx168_1
                                    replace p168 := eq_true p168
                                    replace q168 := eq_true q168
                                    have p169 : 0 ≤ (x7_2 : Int) := of_decide_eq_true (by first | (with_reducible assumption) | assumption)
                                    have q169 : x7_2 < (t158.length : Int) := of_decide_eq_true (by first | (with_reducible assumption) | assumption)
                                    obtain ⟨ad169, e169, hx169_0⟩ := Kd.at_int (Kd.R_reads' HO_3.out).2.2 x7_2 p169 q169
                                    cases e169
                                    replace p169 := eq_true p169
                                    replace q169 := eq_true q169
                                    go_wp2_with (first | ((with_reducible refine gate_builtin (b := .append) (xs := #[.tmp 63, .tmp 65]) rfl ?_); (try (refine gate_guard (by rfl) ?_; dsimp only)); at_builtin; refine Kd.R_append (Kd.int .i64) (w0 := w) w.heap.size rfl (.tmp 63) (.tmp 65) 31 3 (.int .i64 0) 8 rfl Try.underlying31 info3 rfl (by decide) (by omega) (.slice (some ad167) x6_2.length co31) x6_2 x7_2 [.int .i64 x7_2] (fun k_ => some k_ ≠ (.slice (some ad169) t158.length co8 : Value).ownBlock) (fun _ => False) rfl rfl ?aP (fun _ hk => hk.elim) ?aF ?aO ?aB ?aS ?aL ?_; (case aP => exact rfl); (case aB => exact (by repeat (first | (with_reducible first | exact HB.out | apply below_alloc | apply pw_below_drewN | apply below_drew1) | exact HB.out))); (case aF => exact (fun k_ hk => Kd.fresh' (Kd.R_lt (by (with_reducible repeat (first | apply Kd.R_alloc | apply Kd.R_drewN | apply Kd.R_drew)); exact HO_3.out)) k_ hk)); (case aO => exact (by (with_reducible repeat (first | apply Kd.R_alloc | apply Kd.R_drewN | apply Kd.R_drew)); exact HO_6.out)); (case aS => exact (below_size (by repeat (first | (with_reducible first | exact HB.out | apply below_alloc | apply pw_below_drewN | apply below_drew1) | exact HB.out)))); (case aL => have := LMc30.out; omega); intro v171 w32 ho hb hg hat; rw [← Ny170.out] at ho; have n0_ := Aside0.mk (Kd.R_after (ok := (fun _ => True)) (by (with_reducible repeat (first | apply Kd.R_alloc | apply Kd.R_drewN | apply Kd.R_drew)); exact Kd.R_mono HO_3.out (fun _ hk => ⟨trivial, hk⟩)) hg hat); have n1_ := Aside0.mk (hb); have n2_ := Aside0.mk (ho); clear HO_3; clear HB; clear HO_6; have HO_3 := n0_; have HB := n1_; have HO172 := n2_; clear n0_ n1_ n2_; clear ho hb hg hat))
                                    repeat (go_quiet (first | ((with_reducible refine gate_builtin (b := .append) (xs := #[.tmp 63, .tmp 65]) rfl ?_); (try (refine gate_guard (by rfl) ?_; dsimp only)); at_builtin; refine Kd.R_append (Kd.int .i64) (w0 := w) w.heap.size rfl (.tmp 63) (.tmp 65) 31 3 (.int .i64 0) 8 rfl Try.underlying31 info3 rfl (by decide) (by omega) (.slice (some ad167) x6_2.length co31) x6_2 x7_2 [.int .i64 x7_2] (fun k_ => some k_ ≠ (.slice (some ad169) t158.length co8 : Value).ownBlock) (fun _ => False) rfl rfl ?aP (fun _ hk => hk.elim) ?aF ?aO ?aB ?aS ?aL ?_; (case aP => exact rfl); (case aB => exact (by repeat (first | (with_reducible first | exact HB.out | apply below_alloc | apply pw_below_drewN | apply below_drew1) | exact HB.out))); (case aF => exact (fun k_ hk => Kd.fresh' (Kd.R_lt (by (with_reducible repeat (first | apply Kd.R_alloc | apply Kd.R_drewN | apply Kd.R_drew)); exact HO_3.out)) k_ hk)); (case aO => exact (by (with_reducible repeat (first | apply Kd.R_alloc | apply Kd.R_drewN | apply Kd.R_drew)); exact HO_6.out)); (case aS => exact (below_size (by repeat (first | (with_reducible first | exact HB.out | apply below_alloc | apply pw_below_drewN | apply below_drew1) | exact HB.out)))); (case aL => have := LMc30.out; omega); intro v171 w32 ho hb hg hat; rw [← Ny170.out] at ho; have n0_ := Aside0.mk (Kd.R_after (ok := (fun _ => True)) (by (with_reducible repeat (first | apply Kd.R_alloc | apply Kd.R_drewN | apply Kd.R_drew)); exact Kd.R_mono HO_3.out (fun _ hk => ⟨trivial, hk⟩)) hg hat); have n1_ := Aside0.mk (hb); have n2_ := Aside0.mk (ho); clear HO_3; clear HB; clear HO_6; have HO_3 := n0_; have HB := n1_; have HO172 := n2_; clear n0_ n1_ n2_; clear ho hb hg hat)); try go_wp2_with (first | ((with_reducible refine gate_builtin (b := .append) (xs := #[.tmp 63, .tmp 65]) rfl ?_); (try (refine gate_guard (by rfl) ?_; dsimp only)); at_builtin; refine Kd.R_append (Kd.int .i64) (w0 := w) w.heap.size rfl (.tmp 63) (.tmp 65) 31 3 (.int .i64 0) 8 rfl Try.underlying31 info3 rfl (by decide) (by omega) (.slice (some ad167) x6_2.length co31) x6_2 x7_2 [.int .i64 x7_2] (fun k_ => some k_ ≠ (.slice (some ad169) t158.length co8 : Value).ownBlock) (fun _ => False) rfl rfl ?aP (fun _ hk => hk.elim) ?aF ?aO ?aB ?aS ?aL ?_; (case aP => exact rfl); (case aB => exact (by repeat (first | (with_reducible first | exact HB.out | apply below_alloc | apply pw_below_drewN | apply below_drew1) | exact HB.out))); (case aF => exact (fun k_ hk => Kd.fresh' (Kd.R_lt (by (with_reducible repeat (first | apply Kd.R_alloc | apply Kd.R_drewN | apply Kd.R_drew)); exact HO_3.out)) k_ hk)); (case aO => exact (by (with_reducible repeat (first | apply Kd.R_alloc | apply Kd.R_drewN | apply Kd.R_drew)); exact HO_6.out)); (case aS => exact (below_size (by repeat (first | (with_reducible first | exact HB.out | apply below_alloc | apply pw_below_drewN | apply below_drew1) | exact HB.out)))); (case aL => have := LMc30.out; omega); intro v171 w32 ho hb hg hat; rw [← Ny170.out] at ho; have n0_ := Aside0.mk (Kd.R_after (ok := (fun _ => True)) (by (with_reducible repeat (first | apply Kd.R_alloc | apply Kd.R_drewN | apply Kd.R_drew)); exact Kd.R_mono HO_3.out (fun _ hk => ⟨trivial, hk⟩)) hg hat); have n1_ := Aside0.mk (hb); have n2_ := Aside0.mk (ho); clear HO_3; clear HB; clear HO_6; have HO_3 := n0_; have HB := n1_; have HO172 := n2_; clear n0_ n1_ n2_; clear ho hb hg hat)))
                                    go_roundg k2
                                    case measure => have := HK1.out; have := HK2.out; omega
                                    case rel => exact ⟨(wrap64 (x4_2 - 1)), (y170), (wrap64 (x7_2 + 1)), (by first | rfl | (simp; done) | (simp [*]; done)), (by first | rfl | (simp; done) | (simp [*]; done)), H', ⟨by have := HK1.out; have := HK2.out; omega⟩, ⟨by (with_reducible repeat (first | apply Kd.R_alloc | apply Kd.R_drewN | apply Kd.R_drew)); exact Kd.R_mono HO_3.out (fun _ hk => hk.2)⟩, ⟨by (with_reducible repeat (first | apply Kd.R_alloc | apply Kd.R_drewN | apply Kd.R_drew)); exact HO172.out⟩, ⟨by repeat (first | (with_reducible first | exact HB.out | apply below_alloc | apply pw_below_drewN | apply below_drew1) | exact HB.out)⟩⟩
                                  · rw [if_neg c30] at H
                                    exact absurd H (by simp)
                                · rw [if_neg c29] at H
                                  have c29b0 : decide (0 < x4_2) = false := decide_eq_false c29
                                  clear c29
                                  have H' := Aside0.mk H
                                  clear H
                                  obtain ⟨Ao33, co33, eo33⟩ := Kd.R_slice HO_6.out
                                  subst eo33
                                  have p166 : 0 ≤ (x7_2 : Int) := of_decide_eq_true (by first | (with_reducible assumption) | assumption)
                                  have q166 : x7_2 < (l0.length : Int) := of_decide_eq_true (by first | (with_reducible assumption) | assumption)
                                  obtain ⟨ad166, e166, hx166_0, hx166_1⟩ := at_T37 HR0.out x7_2 p166 q166
                                  cases e166
                                  replace hx166_0 := (HB.out.cell (World.block_lt_of_cell? w _ hx166_0)).trans hx166_0
                                  replace hx166_1 := (HB.out.cell (World.block_lt_of_cell? w _ hx166_1)).trans hx166_1
                                  replace p166 := eq_true p166
                                  replace q166 := eq_true q166
                                  have p167 : 0 ≤ ((ji21) : Int) := of_decide_eq_true (by first | (with_reducible assumption) | assumption)
                                  have q167 : (ji21) < (x6_2.length : Int) := of_decide_eq_true (by first | (with_reducible assumption) | assumption)
                                  obtain ⟨ad167, e167, hx167_0⟩ := Kd.at_int (Kd.R_reads' HO_6.out).2.2 (ji21) p167 q167
                                  cases e167
                                  replace p167 := eq_true p167
                                  replace q167 := eq_true q167
                                  have p168 : 0 ≤ ((rd x6_2 (ji21)) : Int) := of_decide_eq_true (by first | (with_reducible assumption) | assumption)
                                  have q168 : (rd x6_2 (ji21)) < (l0.length : Int) := of_decide_eq_true (by first | (with_reducible assumption) | assumption)
                                  obtain ⟨ad168, e168, hx168_0, hx168_1⟩ := at_T37 HR0.out (rd x6_2 (ji21)) p168 q168
                                  obtain rfl : ad166 = ad168 := (by injection e168)
                                  replace hx168_0 := (HB.out.cell (World.block_lt_of_cell? w _ hx168_0)).trans hx168_0
                                  replace hx168_1 := (HB.out.cell (World.block_lt_of_cell? w _ hx168_1)).trans hx168_1
                                  replace p168 := eq_true p168
                                  replace q168 := eq_true q168
                                  have p169 : 0 ≤ (x7_2 : Int) := of_decide_eq_true (by first | (with_reducible assumption) | assumption)
                                  have q169 : x7_2 < (t158.length : Int) := of_decide_eq_true (by first | (with_reducible assumption) | assumption)
                                  obtain ⟨ad169, e169, hx169_0⟩ := Kd.at_int (Kd.R_reads' HO_3.out).2.2 x7_2 p169 q169
                                  cases e169
                                  replace p169 := eq_true p169
                                  replace q169 := eq_true q169
                                  go_wp2
                                  repeat (go_quiet (fail); try go_wp2)
                                  go_roundg k2
                                  case measure => have := HK1.out; have := HK2.out; omega
                                  case rel => exact ⟨(x4_2), (x6_2), (wrap64 (x7_2 + 1)), (by first | rfl | (simp; done) | (simp [*]; done)), (by first | rfl | (simp; done) | (simp [*]; done)), H', ⟨by have := HK1.out; have := HK2.out; omega⟩, ⟨by (with_reducible repeat (first | apply Kd.R_alloc | apply Kd.R_drewN | apply Kd.R_drew)); exact HO_3.out⟩, ⟨by (with_reducible repeat (first | apply Kd.R_alloc | apply Kd.R_drewN | apply Kd.R_drew)); exact HO_6.out⟩, ⟨by repeat (first | (with_reducible first | exact HB.out | apply below_alloc | apply pw_below_drewN | apply below_drew1) | exact HB.out)⟩⟩
                              · rw [if_neg c28] at H
                                have c28b0 : decide (((rd_T37 l0 (rd x6_2 (ji21))).f0) < ((rd_T37 l0 x7_2).f0)) = false := decide_eq_false c28
                                clear c28
                                have H' := Aside0.mk H
                                clear H
                                obtain ⟨Ao34, co34, eo34⟩ := Kd.R_slice HO_6.out
                                subst eo34
                                have p166 : 0 ≤ (x7_2 : Int) := of_decide_eq_true (by first | (with_reducible assumption) | assumption)
                                have q166 : x7_2 < (l0.length : Int) := of_decide_eq_true (by first | (with_reducible assumption) | assumption)
                                obtain ⟨ad166, e166, hx166_0, hx166_1⟩ := at_T37 HR0.out x7_2 p166 q166
                                cases e166
                                replace hx166_0 := (HB.out.cell (World.block_lt_of_cell? w _ hx166_0)).trans hx166_0
                                replace hx166_1 := (HB.out.cell (World.block_lt_of_cell? w _ hx166_1)).trans hx166_1
                                replace p166 := eq_true p166
                                replace q166 := eq_true q166
                                have p167 : 0 ≤ ((ji21) : Int) := of_decide_eq_true (by first | (with_reducible assumption) | assumption)
                                have q167 : (ji21) < (x6_2.length : Int) := of_decide_eq_true (by first | (with_reducible assumption) | assumption)
                                obtain ⟨ad167, e167, hx167_0⟩ := Kd.at_int (Kd.R_reads' HO_6.out).2.2 (ji21) p167 q167
                                cases e167
                                replace p167 := eq_true p167
                                replace q167 := eq_true q167
                                have p168 : 0 ≤ ((rd x6_2 (ji21)) : Int) := of_decide_eq_true (by first | (with_reducible assumption) | assumption)
                                have q168 : (rd x6_2 (ji21)) < (l0.length : Int) := of_decide_eq_true (by first | (with_reducible assumption) | assumption)
                                obtain ⟨ad168, e168, hx168_0, hx168_1⟩ := at_T37 HR0.out (rd x6_2 (ji21)) p168 q168
                                obtain rfl : ad166 = ad168 := (by injection e168)
                                replace hx168_0 := (HB.out.cell (World.block_lt_of_cell? w _ hx168_0)).trans hx168_0
                                replace hx168_1 := (HB.out.cell (World.block_lt_of_cell? w _ hx168_1)).trans hx168_1
                                replace p168 := eq_true p168
                                replace q168 := eq_true q168
                                have p169 : 0 ≤ (x7_2 : Int) := of_decide_eq_true (by first | (with_reducible assumption) | assumption)
                                have q169 : x7_2 < (t158.length : Int) := of_decide_eq_true (by first | (with_reducible assumption) | assumption)
                                obtain ⟨ad169, e169, hx169_0⟩ := Kd.at_int (Kd.R_reads' HO_3.out).2.2 x7_2 p169 q169
                                cases e169
                                replace p169 := eq_true p169
                                replace q169 := eq_true q169
                                go_wp2
                                repeat (go_quiet (fail); try go_wp2)
                                go_roundg k2
                                case measure => have := HK1.out; have := HK2.out; omega
                                case rel => exact ⟨(x4_2), (x6_2), (wrap64 (x7_2 + 1)), (by first | rfl | (simp; done) | (simp [*]; done)), (by first | rfl | (simp; done) | (simp [*]; done)), H', ⟨by have := HK1.out; have := HK2.out; omega⟩, ⟨by (with_reducible repeat (first | apply Kd.R_alloc | apply Kd.R_drewN | apply Kd.R_drew)); exact HO_3.out⟩, ⟨by (with_reducible repeat (first | apply Kd.R_alloc | apply Kd.R_drewN | apply Kd.R_drew)); exact HO_6.out⟩, ⟨by repeat (first | (with_reducible first | exact HB.out | apply below_alloc | apply pw_below_drewN | apply below_drew1) | exact HB.out)⟩⟩
                            · rw [if_neg c27] at H
                              have c27b0 : ((rd t158 x7_2) == x4_2) = false := beq_eq_false_iff_ne.mpr c27
                              have c27b1 : ((rd t158 x7_2) != x4_2) = true := bne_iff_ne.mpr c27
                              have H' := Aside0.mk H
                              clear H
                              obtain ⟨Ao35, co35, eo35⟩ := Kd.R_slice HO_6.out
                              subst eo35
                              have p166 : 0 ≤ (x7_2 : Int) := of_decide_eq_true (by first | (with_reducible assumption) | assumption)
                              have q166 : x7_2 < (l0.length : Int) := of_decide_eq_true (by first | (with_reducible assumption) | assumption)
                              obtain ⟨ad166, e166, hx166_0, hx166_1⟩ := at_T37 HR0.out x7_2 p166 q166
                              cases e166
                              replace hx166_0 := (HB.out.cell (World.block_lt_of_cell? w _ hx166_0)).trans hx166_0
                              replace hx166_1 := (HB.out.cell (World.block_lt_of_cell? w _ hx166_1)).trans hx166_1
                              replace p166 := eq_true p166
                              replace q166 := eq_true q166
                              have p167 : 0 ≤ ((ji21) : Int) := of_decide_eq_true (by first | (with_reducible assumption) | assumption)
                              have q167 : (ji21) < (x6_2.length : Int) := of_decide_eq_true (by first | (with_reducible assumption) | assumption)
                              obtain ⟨ad167, e167, hx167_0⟩ := Kd.at_int (Kd.R_reads' HO_6.out).2.2 (ji21) p167 q167
                              cases e167
                              replace p167 := eq_true p167
                              replace q167 := eq_true q167
                              have p168 : 0 ≤ ((rd x6_2 (ji21)) : Int) := of_decide_eq_true (by first | (with_reducible assumption) | assumption)
                              have q168 : (rd x6_2 (ji21)) < (l0.length : Int) := of_decide_eq_true (by first | (with_reducible assumption) | assumption)
                              obtain ⟨ad168, e168, hx168_0, hx168_1⟩ := at_T37 HR0.out (rd x6_2 (ji21)) p168 q168
                              obtain rfl : ad166 = ad168 := (by injection e168)
                              replace hx168_0 := (HB.out.cell (World.block_lt_of_cell? w _ hx168_0)).trans hx168_0
                              replace hx168_1 := (HB.out.cell (World.block_lt_of_cell? w _ hx168_1)).trans hx168_1
                              replace p168 := eq_true p168
                              replace q168 := eq_true q168
                              have p169 : 0 ≤ (x7_2 : Int) := of_decide_eq_true (by first | (with_reducible assumption) | assumption)
                              have q169 : x7_2 < (t158.length : Int) := of_decide_eq_true (by first | (with_reducible assumption) | assumption)
                              obtain ⟨ad169, e169, hx169_0⟩ := Kd.at_int (Kd.R_reads' HO_3.out).2.2 x7_2 p169 q169
                              cases e169
                              replace p169 := eq_true p169
                              replace q169 := eq_true q169
                              go_wp2
                              repeat (go_quiet (fail); try go_wp2)
                              go_roundg k2
                              case measure => have := HK1.out; have := HK2.out; omega
                              case rel => exact ⟨(x4_2), (x6_2), (wrap64 (x7_2 + 1)), (by first | rfl | (simp; done) | (simp [*]; done)), (by first | rfl | (simp; done) | (simp [*]; done)), H', ⟨by have := HK1.out; have := HK2.out; omega⟩, ⟨by (with_reducible repeat (first | apply Kd.R_alloc | apply Kd.R_drewN | apply Kd.R_drew)); exact HO_3.out⟩, ⟨by (with_reducible repeat (first | apply Kd.R_alloc | apply Kd.R_drewN | apply Kd.R_drew)); exact HO_6.out⟩, ⟨by repeat (first | (with_reducible first | exact HB.out | apply below_alloc | apply pw_below_drewN | apply below_drew1) | exact HB.out)⟩⟩
                          · rw [if_neg c26] at H
                            exact absurd H (by simp)
                        · rw [if_neg c25] at H
                          exact absurd H (by simp)
                      · rw [if_neg c24] at H
                        exact absurd H (by simp)
                    · rw [if_neg c23] at H
                      exact absurd H (by simp)
                  · rw [if_neg c22] at H
                    exact absurd H (by simp)
                · rw [if_neg c20] at H
                  exact absurd H (by simp)
            · rw [if_neg c9] at H
              have c9b0 : decide (x7_2 < (l0.length : Int)) = false := decide_eq_false c9
              clear c9
              obtain rfl := Option.some.inj H
              go_wp2
              repeat (go_quiet (fail); try go_wp2)
              go_ret
              exact ⟨_, by first | rfl | (simp [errW_none, errW_some] <;> rfl) | (simp [*, errW_none, errW_some] <;> rfl), by (with_reducible repeat (first | apply Kd.R_alloc | apply Kd.R_drewN | apply Kd.R_drew)); exact Kd.R_mono HO_6.out (fun _ hk => trivial), by repeat (first | (with_reducible first | exact HB.out | apply below_alloc | apply pw_below_drewN | apply below_drew1) | exact HB.out)⟩

end Go.Proofs.Ytphmnjapjalfgaa.X
