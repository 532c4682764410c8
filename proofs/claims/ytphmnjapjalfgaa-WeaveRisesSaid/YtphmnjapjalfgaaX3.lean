-- by pr.py, round the kit's print (a twelfth state) out of the translation. Not trusted: Lean checks it.
import Derived.Test.YtphmnjapjalfgaaX0
namespace Go.Proofs.Ytphmnjapjalfgaa.X
open Go.RowKit Go.Proofs.YtphmnjapjalfgaaW.PrintWords Go.Proofs.YtphmnjapjalfgaaW.PrintLast Go.Proofs.YtphmnjapjalfgaaW.PrintMore
attribute [local go_sem] max2_int min2_int max_two min_two max_three min_three max_four min_four   -- for this text's walks alone
set_option linter.unusedVariables false
set_option linter.unusedSimpArgs false

/-! ### tartanref06_Check: function 17 -/
mutual
def tartanref06_Check.j0 : Nat → List (S37) → Int → Int → Bool → Option (Int)
  | 0, _, _, _, _ => none
  | k + 1, x0, x1, x2, x16 => if x16 = true then (some 1) else (tartanref06_Check.l0 k x0 x1 x2 0)
def tartanref06_Check.l0 : Nat → List (S37) → Int → Int → Int → Option (Int)
  | 0, _, _, _, _ => none
  | k + 1, x0, x1, x2, x7 => if x7 < (x0.length : Int) then (if 0 ≤ x7 then (if ((rd_T37 x0 x7).f0) < 0 then (some 11) else (if ((rd_T37 x0 x7).f0) ≥ x1 then (some 11) else (if ((rd_T37 x0 x7).f1) < 0 then (some 11) else (if ((rd_T37 x0 x7).f1) ≥ x2 then (some 11) else (tartanref06_Check.l0 k x0 x1 x2 (wrap64 (x7 + 1))))))) else (none)) else (tartanref06_Check.l1 k x0 0)
def tartanref06_Check.l1 : Nat → List (S37) → Int → Option (Int)
  | 0, _, _ => none
  | k + 1, x0, x8 => if x8 < (x0.length : Int) then (tartanref06_Check.l2 k x0 x8 0) else (tartanref06_Check.l3 k x0 1)
def tartanref06_Check.l2 : Nat → List (S37) → Int → Int → Option (Int)
  | 0, _, _, _ => none
  | k + 1, x0, x8, x9 => if x9 < x8 then (if 0 ≤ x9 then (if x9 < (x0.length : Int) then (if 0 ≤ x8 then (if x8 < (x0.length : Int) then (if ((rd_T37 x0 x9).f0) = ((rd_T37 x0 x8).f0) then (some 10) else (if ((rd_T37 x0 x9).f1) = ((rd_T37 x0 x8).f1) then (some 10) else (tartanref06_Check.l2 k x0 x8 (wrap64 (x9 + 1))))) else (none)) else (none)) else (none)) else (none)) else (tartanref06_Check.l1 k x0 (wrap64 (x8 + 1)))
def tartanref06_Check.l3 : Nat → List (S37) → Int → Option (Int)
  | 0, _, _ => none
  | k + 1, x0, x10 => if x10 < (x0.length : Int) then (if 0 ≤ x10 then (if 0 ≤ (wrap64 (x10 - 1)) then (if (wrap64 (x10 - 1)) < (x0.length : Int) then (if ((rd_T37 x0 x10).f1) < ((rd_T37 x0 (wrap64 (x10 - 1))).f1) then (some 12) else (tartanref06_Check.l3 k x0 (wrap64 (x10 + 1)))) else (none)) else (none)) else (none)) else (some 0)
end
def tartanref06_Check.f (k : Nat) (l0 : List (S37)) (a1 : Int) (a2 : Int) : Option (Int) := if a1 < 0 then (tartanref06_Check.j0 k l0 a1 a2 true) else (tartanref06_Check.j0 k l0 a1 a2 (decide (a2 < 0)))
theorem tartanref06_Check.mono_l : ∀ k, (∀ y0 y1 y2 y3, LeO (tartanref06_Check.j0 k y0 y1 y2 y3) (tartanref06_Check.j0 (k + 1) y0 y1 y2 y3)) ∧ (∀ y0 y1 y2 y3, LeO (tartanref06_Check.l0 k y0 y1 y2 y3) (tartanref06_Check.l0 (k + 1) y0 y1 y2 y3)) ∧ (∀ y0 y1, LeO (tartanref06_Check.l1 k y0 y1) (tartanref06_Check.l1 (k + 1) y0 y1)) ∧ (∀ y0 y1 y2, LeO (tartanref06_Check.l2 k y0 y1 y2) (tartanref06_Check.l2 (k + 1) y0 y1 y2)) ∧ (∀ y0 y1, LeO (tartanref06_Check.l3 k y0 y1) (tartanref06_Check.l3 (k + 1) y0 y1))
  | 0 => ⟨fun _ _ _ _ r h => by simp [tartanref06_Check.j0] at h, fun _ _ _ _ r h => by simp [tartanref06_Check.l0] at h, fun _ _ r h => by simp [tartanref06_Check.l1] at h, fun _ _ _ r h => by simp [tartanref06_Check.l2] at h, fun _ _ r h => by simp [tartanref06_Check.l3] at h⟩
  | k + 1 => by
    obtain ⟨ih0, ih1, ih2, ih3, ih4⟩ := tartanref06_Check.mono_l k
    refine ⟨?_, ?_, ?_, ?_, ?_⟩
    · intro y0 y1 y2 y3
      unfold tartanref06_Check.j0
      repeat' first
      | (with_reducible exact ih0 _ _ _ _)
      | (with_reducible exact ih1 _ _ _ _)
      | (with_reducible exact ih2 _ _)
      | (with_reducible exact ih3 _ _ _)
      | (with_reducible exact ih4 _ _)
      | (with_reducible exact LeO.refl _)
      | (with_reducible exact LeO.none _)
      | (with_reducible refine LeO.ite ?_ ?_)
      | (with_reducible refine LeO.bind ?_ (fun _ => ?_))
      | exact ih0 _ _ _ _
      | exact ih1 _ _ _ _
      | exact ih2 _ _
      | exact ih3 _ _ _
      | exact ih4 _ _
      | exact LeO.none _
      | refine LeO.ite ?_ ?_
      | refine LeO.bind ?_ (fun _ => ?_)
    · intro y0 y1 y2 y3
      unfold tartanref06_Check.l0
      repeat' first
      | (with_reducible exact ih0 _ _ _ _)
      | (with_reducible exact ih1 _ _ _ _)
      | (with_reducible exact ih2 _ _)
      | (with_reducible exact ih3 _ _ _)
      | (with_reducible exact ih4 _ _)
      | (with_reducible exact LeO.refl _)
      | (with_reducible exact LeO.none _)
      | (with_reducible refine LeO.ite ?_ ?_)
      | (with_reducible refine LeO.bind ?_ (fun _ => ?_))
      | exact ih0 _ _ _ _
      | exact ih1 _ _ _ _
      | exact ih2 _ _
      | exact ih3 _ _ _
      | exact ih4 _ _
      | exact LeO.none _
      | refine LeO.ite ?_ ?_
      | refine LeO.bind ?_ (fun _ => ?_)
    · intro y0 y1
      unfold tartanref06_Check.l1
      repeat' first
      | (with_reducible exact ih0 _ _ _ _)
      | (with_reducible exact ih1 _ _ _ _)
      | (with_reducible exact ih2 _ _)
      | (with_reducible exact ih3 _ _ _)
      | (with_reducible exact ih4 _ _)
      | (with_reducible exact LeO.refl _)
      | (with_reducible exact LeO.none _)
      | (with_reducible refine LeO.ite ?_ ?_)
      | (with_reducible refine LeO.bind ?_ (fun _ => ?_))
      | exact ih0 _ _ _ _
      | exact ih1 _ _ _ _
      | exact ih2 _ _
      | exact ih3 _ _ _
      | exact ih4 _ _
      | exact LeO.none _
      | refine LeO.ite ?_ ?_
      | refine LeO.bind ?_ (fun _ => ?_)
    · intro y0 y1 y2
      unfold tartanref06_Check.l2
      repeat' first
      | (with_reducible exact ih0 _ _ _ _)
      | (with_reducible exact ih1 _ _ _ _)
      | (with_reducible exact ih2 _ _)
      | (with_reducible exact ih3 _ _ _)
      | (with_reducible exact ih4 _ _)
      | (with_reducible exact LeO.refl _)
      | (with_reducible exact LeO.none _)
      | (with_reducible refine LeO.ite ?_ ?_)
      | (with_reducible refine LeO.bind ?_ (fun _ => ?_))
      | exact ih0 _ _ _ _
      | exact ih1 _ _ _ _
      | exact ih2 _ _
      | exact ih3 _ _ _
      | exact ih4 _ _
      | exact LeO.none _
      | refine LeO.ite ?_ ?_
      | refine LeO.bind ?_ (fun _ => ?_)
    · intro y0 y1
      unfold tartanref06_Check.l3
      repeat' first
      | (with_reducible exact ih0 _ _ _ _)
      | (with_reducible exact ih1 _ _ _ _)
      | (with_reducible exact ih2 _ _)
      | (with_reducible exact ih3 _ _ _)
      | (with_reducible exact ih4 _ _)
      | (with_reducible exact LeO.refl _)
      | (with_reducible exact LeO.none _)
      | (with_reducible refine LeO.ite ?_ ?_)
      | (with_reducible refine LeO.bind ?_ (fun _ => ?_))
      | exact ih0 _ _ _ _
      | exact ih1 _ _ _ _
      | exact ih2 _ _
      | exact ih3 _ _ _
      | exact ih4 _ _
      | exact LeO.none _
      | refine LeO.ite ?_ ?_
      | refine LeO.bind ?_ (fun _ => ?_)
theorem tartanref06_Check.mono : ∀ a0 a1 a2 k, LeO (tartanref06_Check.f k a0 a1 a2) (tartanref06_Check.f (k + 1) a0 a1 a2) := by
  intro a0 a1 a2 k
  obtain ⟨ih0, ih1, ih2, ih3, ih4⟩ := tartanref06_Check.mono_l k
  unfold tartanref06_Check.f
  repeat' first
      | (with_reducible exact ih0 _ _ _ _)
      | (with_reducible exact ih1 _ _ _ _)
      | (with_reducible exact ih2 _ _)
      | (with_reducible exact ih3 _ _ _)
      | (with_reducible exact ih4 _ _)
      | (with_reducible exact LeO.refl _)
      | (with_reducible exact LeO.none _)
      | (with_reducible refine LeO.ite ?_ ?_)
      | (with_reducible refine LeO.bind ?_ (fun _ => ?_))
      | exact ih0 _ _ _ _
      | exact ih1 _ _ _ _
      | exact ih2 _ _
      | exact ih3 _ _ _
      | exact ih4 _ _
      | exact LeO.none _
      | refine LeO.ite ?_ ?_
      | refine LeO.bind ?_ (fun _ => ?_)
set_option maxHeartbeats 8000000 in
set_option maxRecDepth 100000 in
theorem tartanref06_Check.calls (k : Nat) (A0 : Option Addr) (c0 : Nat) (l0 : List (S37)) (a1 : Int) (a2 : Int) (r : Int) (w : World) (hr0 : Kd.C k37 w A0 l0.length l0) (hc0 : l0.length ≤ c0) (h : tartanref06_Check.f k l0 a1 a2 = some r) :
    Calls Try.prog 17 #[.slice A0 l0.length c0, .int .i64 a1, .int .i64 a2] w fun e w' => e = .returned (.int .i64 r) ∧ Drawn0 w w' := by
  have HR0 := Aside0.mk hr0
  have HC0 := Aside0.mk hc0
  clear hr0 hc0
  have H : (if a1 < 0 then (tartanref06_Check.j0 k l0 a1 a2 true) else (tartanref06_Check.j0 k l0 a1 a2 (decide (a2 < 0)))) = some r := h
  clear h
  have HC4 := Aside0.mk H
  clear H
  go_enter Try.func17, Try.ntmps17
  go_upto_region 1 with (fail)
  repeat (go_quiet (fail); go_upto_region 1 with (fail))
  go_cut [16] (fun v16 wc => ∃ (kq : Nat) (x16_3 : Bool), v16 = .bool x16_3 ∧ Aside0 (tartanref06_Check.j0 kq l0 a1 a2 x16_3 = some r) ∧ Aside0 (kq ≤ k) ∧ Drawn0 w wc)
  case first =>
    have H := HC4.out
    clear HC4
    by_cases c5 : a1 < 0
    · rw [if_pos c5] at H
      have c5b0 : decide (a1 < 0) = true := decide_eq_true c5
      clear c5
      (first | rw [c5b0] | (simp only [i64_w, i32_w]; rw [c5b0]) | skip)
      have H' := Aside0.mk H
      clear H
      go_wp2
      repeat (go_quiet (fail); try go_wp2)
      go_meet
      case rel => exact ⟨_, (true), (by first | rfl | (simp; done) | (simp [*]; done)), H', ⟨by first | omega | exact Nat.le_refl _⟩, by repeat (first | exact Drawn0.refl _ | apply Drawn0.step)⟩
    · rw [if_neg c5] at H
      have c5b0 : decide (a1 < 0) = false := decide_eq_false c5
      clear c5
      (first | rw [c5b0] | (simp only [i64_w, i32_w]; rw [c5b0]) | skip)
      have H' := Aside0.mk H
      clear H
      go_wp2
      repeat (go_quiet (fail); try go_wp2)
      go_meet
      case rel => exact ⟨_, (decide (a2 < 0)), (by first | rfl | (simp; done) | (simp [*]; done)), H', ⟨by first | omega | exact Nat.le_refl _⟩, by repeat (first | exact Drawn0.refl _ | apply Drawn0.step)⟩
  case rest =>
    clear HC4
    try clear c1
    try clear p2
    try clear c5
    try clear c5b0
    obtain ⟨kq, x16_3, rfl, HA, HJ3, ⟨mc3, rfl⟩⟩ := hcut
    cases kq with
    | zero => exact absurd HA.out (by simp [tartanref06_Check.j0])
    | succ kj3 =>
      have H := HA.out
      clear HA
      simp only [tartanref06_Check.j0] at H
      by_cases c6 : x16_3 = true
      · subst c6
        have H1 : (some 1) = some r := by first | (rw [if_pos rfl] at H; exact H) | (rw [if_pos trivial] at H; exact H) | simpa using H
        clear H
        have H := H1
        clear H1
        obtain rfl := Option.some.inj H
        go_wp2
        repeat (go_quiet (fail); try go_wp2)
        go_ret
        exact ⟨by first | rfl | (simp; done) | (simp [*]; done), by repeat (first | exact Drawn0.refl _ | apply Drawn0.step)⟩
      · replace c6 := Bool.eq_false_iff.mpr c6
        subst c6
        have H1 : (tartanref06_Check.l0 kj3 l0 a1 a2 0) = some r := by rw [if_neg (show ¬ (false = true) by decide)] at H; exact H
        clear H
        have H := H1
        clear H1
        have H' := Aside0.mk H
        clear H
        go_wp2
        repeat (go_quiet (fail); try go_wp2)
        go_loopg [7] kj3 (fun kq v7 w' => ∃ (x7_2 : Int), v7 = .int .i64 x7_2 ∧ Aside0 (tartanref06_Check.l0 kq l0 a1 a2 x7_2 = some r) ∧ Aside0 (kq ≤ kj3) ∧ Drawn0 w w')
        case atStart => exact ⟨(0), (by first | rfl | (simp; done) | (simp [*]; done)), H', ⟨Nat.le_refl _⟩, by repeat (first | exact Drawn0.refl _ | apply Drawn0.step)⟩
        case round =>
          clear H'
          try clear c1
          try clear p2
          try clear c3
          try clear c5
          try clear c5b0
          try clear c6
          try clear p2
          obtain ⟨x7_2, rfl, HA, HK2, ⟨m2, rfl⟩⟩ := hrel
          cases gk with
          | zero => exact absurd HA.out (by simp [tartanref06_Check.l0])
          | succ k2 =>
            have H := HA.out
            clear HA
            simp only [tartanref06_Check.l0] at H
            by_cases c7 : x7_2 < (l0.length : Int)
            · rw [if_pos c7] at H
              have c7b0 : decide (x7_2 < (l0.length : Int)) = true := decide_eq_true c7
              clear c7
              by_cases c8 : 0 ≤ x7_2
              · rw [if_pos c8] at H
                have c8b0 : decide (0 ≤ x7_2) = true := decide_eq_true c8
                clear c8
                by_cases c9 : ((rd_T37 l0 x7_2).f0) < 0
                · rw [if_pos c9] at H
                  have c9b0 : decide (((rd_T37 l0 x7_2).f0) < 0) = true := decide_eq_true c9
                  clear c9
                  obtain rfl := Option.some.inj H
                  have p129 : 0 ≤ (x7_2 : Int) := of_decide_eq_true (by first | (with_reducible assumption) | assumption)
                  have q129 : x7_2 < (l0.length : Int) := of_decide_eq_true (by first | (with_reducible assumption) | assumption)
                  obtain ⟨ad129, e129, hx129_0, hx129_1⟩ := at_T37 HR0.out x7_2 p129 q129
                  cases e129
                  replace p129 := eq_true p129
                  replace q129 := eq_true q129
                  go_wp2
                  repeat (go_quiet (fail); try go_wp2)
                  go_ret
                  exact ⟨by first | rfl | (simp; done) | (simp [*]; done), by repeat (first | exact Drawn0.refl _ | apply Drawn0.step)⟩
                · rw [if_neg c9] at H
                  have c9b0 : decide (((rd_T37 l0 x7_2).f0) < 0) = false := decide_eq_false c9
                  clear c9
                  by_cases c10 : ((rd_T37 l0 x7_2).f0) ≥ a1
                  · rw [if_pos c10] at H
                    have c10b0 : decide (a1 ≤ ((rd_T37 l0 x7_2).f0)) = true := decide_eq_true c10
                    clear c10
                    obtain rfl := Option.some.inj H
                    have p129 : 0 ≤ (x7_2 : Int) := of_decide_eq_true (by first | (with_reducible assumption) | assumption)
                    have q129 : x7_2 < (l0.length : Int) := of_decide_eq_true (by first | (with_reducible assumption) | assumption)
                    obtain ⟨ad129, e129, hx129_0, hx129_1⟩ := at_T37 HR0.out x7_2 p129 q129
                    cases e129
                    replace p129 := eq_true p129
                    replace q129 := eq_true q129
                    have p130 : 0 ≤ (x7_2 : Int) := of_decide_eq_true (by first | (with_reducible assumption) | assumption)
                    have q130 : x7_2 < (l0.length : Int) := of_decide_eq_true (by first | (with_reducible assumption) | assumption)
                    obtain ⟨ad130, e130, hx130_0, hx130_1⟩ := at_T37 HR0.out x7_2 p130 q130
                    obtain rfl : ad129 = ad130 := (by injection e130)
                    replace p130 := eq_true p130
                    replace q130 := eq_true q130
                    go_wp2
                    repeat (go_quiet (fail); try go_wp2)
                    go_ret
                    exact ⟨by first | rfl | (simp; done) | (simp [*]; done), by repeat (first | exact Drawn0.refl _ | apply Drawn0.step)⟩
                  · rw [if_neg c10] at H
                    have c10b0 : decide (a1 ≤ ((rd_T37 l0 x7_2).f0)) = false := decide_eq_false c10
                    clear c10
                    by_cases c11 : ((rd_T37 l0 x7_2).f1) < 0
                    · rw [if_pos c11] at H
                      have c11b0 : decide (((rd_T37 l0 x7_2).f1) < 0) = true := decide_eq_true c11
                      clear c11
                      obtain rfl := Option.some.inj H
                      have p129 : 0 ≤ (x7_2 : Int) := of_decide_eq_true (by first | (with_reducible assumption) | assumption)
                      have q129 : x7_2 < (l0.length : Int) := of_decide_eq_true (by first | (with_reducible assumption) | assumption)
                      obtain ⟨ad129, e129, hx129_0, hx129_1⟩ := at_T37 HR0.out x7_2 p129 q129
                      cases e129
                      replace p129 := eq_true p129
                      replace q129 := eq_true q129
                      have p130 : 0 ≤ (x7_2 : Int) := of_decide_eq_true (by first | (with_reducible assumption) | assumption)
                      have q130 : x7_2 < (l0.length : Int) := of_decide_eq_true (by first | (with_reducible assumption) | assumption)
                      obtain ⟨ad130, e130, hx130_0, hx130_1⟩ := at_T37 HR0.out x7_2 p130 q130
                      obtain rfl : ad129 = ad130 := (by injection e130)
                      replace p130 := eq_true p130
                      replace q130 := eq_true q130
                      have p131 : 0 ≤ (x7_2 : Int) := of_decide_eq_true (by first | (with_reducible assumption) | assumption)
                      have q131 : x7_2 < (l0.length : Int) := of_decide_eq_true (by first | (with_reducible assumption) | assumption)
                      obtain ⟨ad131, e131, hx131_0, hx131_1⟩ := at_T37 HR0.out x7_2 p131 q131
                      obtain rfl : ad129 = ad131 := (by injection e131)
                      replace p131 := eq_true p131
                      replace q131 := eq_true q131
                      go_wp2
                      repeat (go_quiet (fail); try go_wp2)
                      go_ret
                      exact ⟨by first | rfl | (simp; done) | (simp [*]; done), by repeat (first | exact Drawn0.refl _ | apply Drawn0.step)⟩
                    · rw [if_neg c11] at H
                      have c11b0 : decide (((rd_T37 l0 x7_2).f1) < 0) = false := decide_eq_false c11
                      clear c11
                      by_cases c12 : ((rd_T37 l0 x7_2).f1) ≥ a2
                      · rw [if_pos c12] at H
                        have c12b0 : decide (a2 ≤ ((rd_T37 l0 x7_2).f1)) = true := decide_eq_true c12
                        clear c12
                        obtain rfl := Option.some.inj H
                        have p129 : 0 ≤ (x7_2 : Int) := of_decide_eq_true (by first | (with_reducible assumption) | assumption)
                        have q129 : x7_2 < (l0.length : Int) := of_decide_eq_true (by first | (with_reducible assumption) | assumption)
                        obtain ⟨ad129, e129, hx129_0, hx129_1⟩ := at_T37 HR0.out x7_2 p129 q129
                        cases e129
                        replace p129 := eq_true p129
                        replace q129 := eq_true q129
                        have p130 : 0 ≤ (x7_2 : Int) := of_decide_eq_true (by first | (with_reducible assumption) | assumption)
                        have q130 : x7_2 < (l0.length : Int) := of_decide_eq_true (by first | (with_reducible assumption) | assumption)
                        obtain ⟨ad130, e130, hx130_0, hx130_1⟩ := at_T37 HR0.out x7_2 p130 q130
                        obtain rfl : ad129 = ad130 := (by injection e130)
                        replace p130 := eq_true p130
                        replace q130 := eq_true q130
                        have p131 : 0 ≤ (x7_2 : Int) := of_decide_eq_true (by first | (with_reducible assumption) | assumption)
                        have q131 : x7_2 < (l0.length : Int) := of_decide_eq_true (by first | (with_reducible assumption) | assumption)
                        obtain ⟨ad131, e131, hx131_0, hx131_1⟩ := at_T37 HR0.out x7_2 p131 q131
                        obtain rfl : ad129 = ad131 := (by injection e131)
                        replace p131 := eq_true p131
                        replace q131 := eq_true q131
                        have p132 : 0 ≤ (x7_2 : Int) := of_decide_eq_true (by first | (with_reducible assumption) | assumption)
                        have q132 : x7_2 < (l0.length : Int) := of_decide_eq_true (by first | (with_reducible assumption) | assumption)
                        obtain ⟨ad132, e132, hx132_0, hx132_1⟩ := at_T37 HR0.out x7_2 p132 q132
                        obtain rfl : ad129 = ad132 := (by injection e132)
                        replace p132 := eq_true p132
                        replace q132 := eq_true q132
                        go_wp2
                        repeat (go_quiet (fail); try go_wp2)
                        go_ret
                        exact ⟨by first | rfl | (simp; done) | (simp [*]; done), by repeat (first | exact Drawn0.refl _ | apply Drawn0.step)⟩
                      · rw [if_neg c12] at H
                        have c12b0 : decide (a2 ≤ ((rd_T37 l0 x7_2).f1)) = false := decide_eq_false c12
                        clear c12
                        have H' := Aside0.mk H
                        clear H
                        have p129 : 0 ≤ (x7_2 : Int) := of_decide_eq_true (by first | (with_reducible assumption) | assumption)
                        have q129 : x7_2 < (l0.length : Int) := of_decide_eq_true (by first | (with_reducible assumption) | assumption)
                        obtain ⟨ad129, e129, hx129_0, hx129_1⟩ := at_T37 HR0.out x7_2 p129 q129
                        cases e129
                        replace p129 := eq_true p129
                        replace q129 := eq_true q129
                        have p130 : 0 ≤ (x7_2 : Int) := of_decide_eq_true (by first | (with_reducible assumption) | assumption)
                        have q130 : x7_2 < (l0.length : Int) := of_decide_eq_true (by first | (with_reducible assumption) | assumption)
                        obtain ⟨ad130, e130, hx130_0, hx130_1⟩ := at_T37 HR0.out x7_2 p130 q130
                        obtain rfl : ad129 = ad130 := (by injection e130)
                        replace p130 := eq_true p130
                        replace q130 := eq_true q130
                        have p131 : 0 ≤ (x7_2 : Int) := of_decide_eq_true (by first | (with_reducible assumption) | assumption)
                        have q131 : x7_2 < (l0.length : Int) := of_decide_eq_true (by first | (with_reducible assumption) | assumption)
                        obtain ⟨ad131, e131, hx131_0, hx131_1⟩ := at_T37 HR0.out x7_2 p131 q131
                        obtain rfl : ad129 = ad131 := (by injection e131)
                        replace p131 := eq_true p131
                        replace q131 := eq_true q131
                        have p132 : 0 ≤ (x7_2 : Int) := of_decide_eq_true (by first | (with_reducible assumption) | assumption)
                        have q132 : x7_2 < (l0.length : Int) := of_decide_eq_true (by first | (with_reducible assumption) | assumption)
                        obtain ⟨ad132, e132, hx132_0, hx132_1⟩ := at_T37 HR0.out x7_2 p132 q132
                        obtain rfl : ad129 = ad132 := (by injection e132)
                        replace p132 := eq_true p132
                        replace q132 := eq_true q132
                        go_wp2
                        repeat (go_quiet (fail); try go_wp2)
                        go_roundg k2
                        case measure => have := HJ3.out; have := HK2.out; omega
                        case rel => exact ⟨(wrap64 (x7_2 + 1)), (by first | rfl | (simp; done) | (simp [*]; done)), H', ⟨by have := HJ3.out; have := HK2.out; omega⟩, by repeat (first | exact Drawn0.refl _ | apply Drawn0.step)⟩
              · rw [if_neg c8] at H
                exact absurd H (by simp)
            · rw [if_neg c7] at H
              have c7b0 : decide (x7_2 < (l0.length : Int)) = false := decide_eq_false c7
              clear c7
              have H' := Aside0.mk H
              clear H
              go_wp2
              repeat (go_quiet (fail); try go_wp2)
              go_loopg [8] k2 (fun kq v8 w' => ∃ (x8_3 : Int), v8 = .int .i64 x8_3 ∧ Aside0 (tartanref06_Check.l1 kq l0 x8_3 = some r) ∧ Aside0 (kq ≤ k2) ∧ Drawn0 w w')
              case atStart => exact ⟨(0), (by first | rfl | (simp; done) | (simp [*]; done)), H', ⟨Nat.le_refl _⟩, by repeat (first | exact Drawn0.refl _ | apply Drawn0.step)⟩
              case round =>
                clear H'
                try clear c1
                try clear p1
                try clear q1
                try clear hx1
                try clear p2
                try clear c3
                try clear c5
                try clear c5b0
                try clear c6
                try clear p6
                try clear c7
                try clear c7b0
                try clear c8
                try clear c8b0
                try clear c9
                try clear c9b0
                try clear c10
                try clear c10b0
                try clear c11
                try clear c11b0
                try clear c12
                try clear c12b0
                try clear p12
                try clear q12
                try clear hx12
                try clear hx129_0
                try clear hx129_1
                try clear hx130_0
                try clear hx130_1
                try clear hx131_0
                try clear hx131_1
                try clear hx132_0
                try clear hx132_1
                try clear p129
                try clear p130
                try clear p131
                try clear p132
                try clear p2
                try clear q129
                try clear q130
                try clear q131
                try clear q132
                obtain ⟨x8_3, rfl, HA, HK3, ⟨m3, rfl⟩⟩ := hrel
                cases gk with
                | zero => exact absurd HA.out (by simp [tartanref06_Check.l1])
                | succ k3 =>
                  have H := HA.out
                  clear HA
                  simp only [tartanref06_Check.l1] at H
                  by_cases c13 : x8_3 < (l0.length : Int)
                  · rw [if_pos c13] at H
                    have c13b0 : decide (x8_3 < (l0.length : Int)) = true := decide_eq_true c13
                    clear c13
                    have H' := Aside0.mk H
                    clear H
                    go_wp2
                    repeat (go_quiet (fail); try go_wp2)
                    go_loopg [9] k3 (fun kq v9 w' => ∃ (x9_4 : Int), v9 = .int .i64 x9_4 ∧ Aside0 (tartanref06_Check.l2 kq l0 x8_3 x9_4 = some r) ∧ Aside0 (kq ≤ k3) ∧ Drawn0 w w')
                    case atStart => exact ⟨(0), (by first | rfl | (simp; done) | (simp [*]; done)), H', ⟨Nat.le_refl _⟩, by repeat (first | exact Drawn0.refl _ | apply Drawn0.step)⟩
                    case round =>
                      clear H'
                      try clear c1
                      try clear p1
                      try clear q1
                      try clear hx1
                      try clear p2
                      try clear c3
                      try clear c5
                      try clear c5b0
                      try clear c6
                      try clear p6
                      try clear c7
                      try clear c7b0
                      try clear c8
                      try clear c8b0
                      try clear c9
                      try clear c9b0
                      try clear c10
                      try clear c10b0
                      try clear c11
                      try clear c11b0
                      try clear c12
                      try clear c12b0
                      try clear p12
                      try clear q12
                      try clear hx12
                      try clear c13
                      try clear c13b0
                      try clear p13
                      try clear q13
                      try clear hx13
                      try clear hx129_0
                      try clear hx129_1
                      try clear hx130_0
                      try clear hx130_1
                      try clear hx131_0
                      try clear hx131_1
                      try clear hx132_0
                      try clear hx132_1
                      try clear p1
                      try clear p12
                      try clear p129
                      try clear p130
                      try clear p131
                      try clear p132
                      try clear p2
                      try clear p6
                      try clear q1
                      try clear q12
                      try clear q129
                      try clear q130
                      try clear q131
                      try clear q132
                      obtain ⟨x9_4, rfl, HA, HK4, ⟨m4, rfl⟩⟩ := hrel
                      cases gk with
                      | zero => exact absurd HA.out (by simp [tartanref06_Check.l2])
                      | succ k4 =>
                        have H := HA.out
                        clear HA
                        simp only [tartanref06_Check.l2] at H
                        by_cases c14 : x9_4 < x8_3
                        · rw [if_pos c14] at H
                          have c14b0 : decide (x9_4 < x8_3) = true := decide_eq_true c14
                          clear c14
                          by_cases c15 : 0 ≤ x9_4
                          · rw [if_pos c15] at H
                            have c15b0 : decide (0 ≤ x9_4) = true := decide_eq_true c15
                            clear c15
                            by_cases c16 : x9_4 < (l0.length : Int)
                            · rw [if_pos c16] at H
                              have c16b0 : decide (x9_4 < (l0.length : Int)) = true := decide_eq_true c16
                              clear c16
                              by_cases c17 : 0 ≤ x8_3
                              · rw [if_pos c17] at H
                                have c17b0 : decide (0 ≤ x8_3) = true := decide_eq_true c17
                                clear c17
                                by_cases c18 : x8_3 < (l0.length : Int)
                                · rw [if_pos c18] at H
                                  have c18b0 : decide (x8_3 < (l0.length : Int)) = true := decide_eq_true c18
                                  clear c18
                                  by_cases c19 : ((rd_T37 l0 x9_4).f0) = ((rd_T37 l0 x8_3).f0)
                                  · rw [if_pos c19] at H
                                    have c19b0 : (((rd_T37 l0 x9_4).f0) == ((rd_T37 l0 x8_3).f0)) = true := beq_iff_eq.mpr c19
                                    have c19b1 : (((rd_T37 l0 x9_4).f0) != ((rd_T37 l0 x8_3).f0)) = false := bne_eq_false_iff_eq.mpr c19
                                    clear c19
                                    obtain rfl := Option.some.inj H
                                    have p133 : 0 ≤ (x9_4 : Int) := of_decide_eq_true (by first | (with_reducible assumption) | assumption)
                                    have q133 : x9_4 < (l0.length : Int) := of_decide_eq_true (by first | (with_reducible assumption) | assumption)
                                    obtain ⟨ad133, e133, hx133_0, hx133_1⟩ := at_T37 HR0.out x9_4 p133 q133
                                    cases e133
                                    replace p133 := eq_true p133
                                    replace q133 := eq_true q133
                                    have p134 : 0 ≤ (x8_3 : Int) := of_decide_eq_true (by first | (with_reducible assumption) | assumption)
                                    have q134 : x8_3 < (l0.length : Int) := of_decide_eq_true (by first | (with_reducible assumption) | assumption)
                                    obtain ⟨ad134, e134, hx134_0, hx134_1⟩ := at_T37 HR0.out x8_3 p134 q134
                                    obtain rfl : ad133 = ad134 := (by injection e134)
                                    replace p134 := eq_true p134
                                    replace q134 := eq_true q134
                                    go_wp2
                                    repeat (go_quiet (fail); try go_wp2)
                                    go_ret
                                    exact ⟨by first | rfl | (simp; done) | (simp [*]; done), by repeat (first | exact Drawn0.refl _ | apply Drawn0.step)⟩
                                  · rw [if_neg c19] at H
                                    have c19b0 : (((rd_T37 l0 x9_4).f0) == ((rd_T37 l0 x8_3).f0)) = false := beq_eq_false_iff_ne.mpr c19
                                    have c19b1 : (((rd_T37 l0 x9_4).f0) != ((rd_T37 l0 x8_3).f0)) = true := bne_iff_ne.mpr c19
                                    by_cases c20 : ((rd_T37 l0 x9_4).f1) = ((rd_T37 l0 x8_3).f1)
                                    · rw [if_pos c20] at H
                                      have c20b0 : (((rd_T37 l0 x9_4).f1) == ((rd_T37 l0 x8_3).f1)) = true := beq_iff_eq.mpr c20
                                      have c20b1 : (((rd_T37 l0 x9_4).f1) != ((rd_T37 l0 x8_3).f1)) = false := bne_eq_false_iff_eq.mpr c20
                                      clear c20
                                      obtain rfl := Option.some.inj H
                                      have p133 : 0 ≤ (x9_4 : Int) := of_decide_eq_true (by first | (with_reducible assumption) | assumption)
                                      have q133 : x9_4 < (l0.length : Int) := of_decide_eq_true (by first | (with_reducible assumption) | assumption)
                                      obtain ⟨ad133, e133, hx133_0, hx133_1⟩ := at_T37 HR0.out x9_4 p133 q133
                                      cases e133
                                      replace p133 := eq_true p133
                                      replace q133 := eq_true q133
                                      have p134 : 0 ≤ (x8_3 : Int) := of_decide_eq_true (by first | (with_reducible assumption) | assumption)
                                      have q134 : x8_3 < (l0.length : Int) := of_decide_eq_true (by first | (with_reducible assumption) | assumption)
                                      obtain ⟨ad134, e134, hx134_0, hx134_1⟩ := at_T37 HR0.out x8_3 p134 q134
                                      obtain rfl : ad133 = ad134 := (by injection e134)
                                      replace p134 := eq_true p134
                                      replace q134 := eq_true q134
                                      have p135 : 0 ≤ (x9_4 : Int) := of_decide_eq_true (by first | (with_reducible assumption) | assumption)
                                      have q135 : x9_4 < (l0.length : Int) := of_decide_eq_true (by first | (with_reducible assumption) | assumption)
                                      obtain ⟨ad135, e135, hx135_0, hx135_1⟩ := at_T37 HR0.out x9_4 p135 q135
                                      obtain rfl : ad133 = ad135 := (by injection e135)
                                      replace p135 := eq_true p135
                                      replace q135 := eq_true q135
                                      have p136 : 0 ≤ (x8_3 : Int) := of_decide_eq_true (by first | (with_reducible assumption) | assumption)
                                      have q136 : x8_3 < (l0.length : Int) := of_decide_eq_true (by first | (with_reducible assumption) | assumption)
                                      obtain ⟨ad136, e136, hx136_0, hx136_1⟩ := at_T37 HR0.out x8_3 p136 q136
                                      obtain rfl : ad133 = ad136 := (by injection e136)
                                      replace p136 := eq_true p136
                                      replace q136 := eq_true q136
                                      go_wp2
                                      repeat (go_quiet (fail); try go_wp2)
                                      go_ret
                                      exact ⟨by first | rfl | (simp; done) | (simp [*]; done), by repeat (first | exact Drawn0.refl _ | apply Drawn0.step)⟩
                                    · rw [if_neg c20] at H
                                      have c20b0 : (((rd_T37 l0 x9_4).f1) == ((rd_T37 l0 x8_3).f1)) = false := beq_eq_false_iff_ne.mpr c20
                                      have c20b1 : (((rd_T37 l0 x9_4).f1) != ((rd_T37 l0 x8_3).f1)) = true := bne_iff_ne.mpr c20
                                      have H' := Aside0.mk H
                                      clear H
                                      have p133 : 0 ≤ (x9_4 : Int) := of_decide_eq_true (by first | (with_reducible assumption) | assumption)
                                      have q133 : x9_4 < (l0.length : Int) := of_decide_eq_true (by first | (with_reducible assumption) | assumption)
                                      obtain ⟨ad133, e133, hx133_0, hx133_1⟩ := at_T37 HR0.out x9_4 p133 q133
                                      cases e133
                                      replace p133 := eq_true p133
                                      replace q133 := eq_true q133
                                      have p134 : 0 ≤ (x8_3 : Int) := of_decide_eq_true (by first | (with_reducible assumption) | assumption)
                                      have q134 : x8_3 < (l0.length : Int) := of_decide_eq_true (by first | (with_reducible assumption) | assumption)
                                      obtain ⟨ad134, e134, hx134_0, hx134_1⟩ := at_T37 HR0.out x8_3 p134 q134
                                      obtain rfl : ad133 = ad134 := (by injection e134)
                                      replace p134 := eq_true p134
                                      replace q134 := eq_true q134
                                      have p135 : 0 ≤ (x9_4 : Int) := of_decide_eq_true (by first | (with_reducible assumption) | assumption)
                                      have q135 : x9_4 < (l0.length : Int) := of_decide_eq_true (by first | (with_reducible assumption) | assumption)
                                      obtain ⟨ad135, e135, hx135_0, hx135_1⟩ := at_T37 HR0.out x9_4 p135 q135
                                      obtain rfl : ad133 = ad135 := (by injection e135)
                                      replace p135 := eq_true p135
                                      replace q135 := eq_true q135
                                      have p136 : 0 ≤ (x8_3 : Int) := of_decide_eq_true (by first | (with_reducible assumption) | assumption)
                                      have q136 : x8_3 < (l0.length : Int) := of_decide_eq_true (by first | (with_reducible assumption) | assumption)
                                      obtain ⟨ad136, e136, hx136_0, hx136_1⟩ := at_T37 HR0.out x8_3 p136 q136
                                      obtain rfl : ad133 = ad136 := (by injection e136)
                                      replace p136 := eq_true p136
                                      replace q136 := eq_true q136
                                      go_wp2
                                      repeat (go_quiet (fail); try go_wp2)
                                      go_roundg k4
                                      case measure => have := HJ3.out; have := HK2.out; have := HK3.out; have := HK4.out; omega
                                      case rel => exact ⟨(wrap64 (x9_4 + 1)), (by first | rfl | (simp; done) | (simp [*]; done)), H', ⟨by have := HJ3.out; have := HK2.out; have := HK3.out; have := HK4.out; omega⟩, by repeat (first | exact Drawn0.refl _ | apply Drawn0.step)⟩
                                · rw [if_neg c18] at H
                                  exact absurd H (by simp)
                              · rw [if_neg c17] at H
                                exact absurd H (by simp)
                            · rw [if_neg c16] at H
                              exact absurd H (by simp)
                          · rw [if_neg c15] at H
                            exact absurd H (by simp)
                        · rw [if_neg c14] at H
                          have c14b0 : decide (x9_4 < x8_3) = false := decide_eq_false c14
                          clear c14
                          have H' := Aside0.mk H
                          clear H
                          go_wp2
                          repeat (go_quiet (fail); try go_wp2)
                          go_roundg k4
                          case measure => have := HJ3.out; have := HK2.out; have := HK3.out; have := HK4.out; omega
                          case rel => exact ⟨(wrap64 (x8_3 + 1)), (by first | rfl | (simp; done) | (simp [*]; done)), H', ⟨by have := HJ3.out; have := HK2.out; have := HK3.out; have := HK4.out; omega⟩, by repeat (first | exact Drawn0.refl _ | apply Drawn0.step)⟩
                  · rw [if_neg c13] at H
                    have c13b0 : decide (x8_3 < (l0.length : Int)) = false := decide_eq_false c13
                    clear c13
                    have H' := Aside0.mk H
                    clear H
                    go_wp2
                    repeat (go_quiet (fail); try go_wp2)
                    go_loopg [10] k3 (fun kq v10 w' => ∃ (x10_4 : Int), v10 = .int .i64 x10_4 ∧ Aside0 (tartanref06_Check.l3 kq l0 x10_4 = some r) ∧ Aside0 (kq ≤ k3) ∧ Drawn0 w w')
                    case atStart => exact ⟨(1), (by first | rfl | (simp; done) | (simp [*]; done)), H', ⟨Nat.le_refl _⟩, by repeat (first | exact Drawn0.refl _ | apply Drawn0.step)⟩
                    case round =>
                      clear H'
                      try clear c1
                      try clear p1
                      try clear q1
                      try clear hx1
                      try clear c2
                      try clear p2
                      try clear c3
                      try clear c5
                      try clear c5b0
                      try clear c6
                      try clear p6
                      try clear c7
                      try clear c7b0
                      try clear c8
                      try clear c8b0
                      try clear c9
                      try clear c9b0
                      try clear c10
                      try clear c10b0
                      try clear c11
                      try clear c11b0
                      try clear c12
                      try clear c12b0
                      try clear p12
                      try clear q12
                      try clear hx12
                      try clear c13
                      try clear c13b0
                      try clear p13
                      try clear q13
                      try clear hx13
                      try clear c14
                      try clear c14b0
                      try clear c15
                      try clear c15b0
                      try clear c16
                      try clear c16b0
                      try clear c17
                      try clear c17b0
                      try clear c18
                      try clear c18b0
                      try clear c19
                      try clear c19b0
                      try clear c19b1
                      try clear c20
                      try clear c20b0
                      try clear c20b1
                      try clear hx129_0
                      try clear hx129_1
                      try clear hx130_0
                      try clear hx130_1
                      try clear hx131_0
                      try clear hx131_1
                      try clear hx132_0
                      try clear hx132_1
                      try clear hx133_0
                      try clear hx133_1
                      try clear hx134_0
                      try clear hx134_1
                      try clear hx135_0
                      try clear hx135_1
                      try clear hx136_0
                      try clear hx136_1
                      try clear p1
                      try clear p12
                      try clear p129
                      try clear p13
                      try clear p130
                      try clear p131
                      try clear p132
                      try clear p133
                      try clear p134
                      try clear p135
                      try clear p136
                      try clear p2
                      try clear p6
                      try clear q1
                      try clear q12
                      try clear q129
                      try clear q13
                      try clear q130
                      try clear q131
                      try clear q132
                      try clear q133
                      try clear q134
                      try clear q135
                      try clear q136
                      obtain ⟨x10_4, rfl, HA, HK4, ⟨m4, rfl⟩⟩ := hrel
                      cases gk with
                      | zero => exact absurd HA.out (by simp [tartanref06_Check.l3])
                      | succ k4 =>
                        have H := HA.out
                        clear HA
                        simp only [tartanref06_Check.l3] at H
                        by_cases c21 : x10_4 < (l0.length : Int)
                        · rw [if_pos c21] at H
                          have c21b0 : decide (x10_4 < (l0.length : Int)) = true := decide_eq_true c21
                          clear c21
                          by_cases c22 : 0 ≤ x10_4
                          · rw [if_pos c22] at H
                            have c22b0 : decide (0 ≤ x10_4) = true := decide_eq_true c22
                            clear c22
                            obtain ⟨ji23, hji23⟩ : ∃ j_ : Int, (wrap64 (x10_4 - 1)) = j_ := ⟨_, rfl⟩
                            replace H : (if 0 ≤ (ji23) then (if (ji23) < (l0.length : Int) then (if ((rd_T37 l0 x10_4).f1) < ((rd_T37 l0 (ji23)).f1) then (some 12) else (tartanref06_Check.l3 k4 l0 (wrap64 (x10_4 + 1)))) else (none)) else (none)) = some r := by first | (rw [hji23] at H; exact H) | (simp only [hji23] at H ⊢; exact H)
                            have hji23w : (IntKind.i64.wrap (x10_4 - 1)) = ji23 := (i64_w _).trans hji23
                            by_cases c24 : 0 ≤ (ji23)
                            · rw [if_pos c24] at H
                              have c24b0 : decide (0 ≤ (ji23)) = true := decide_eq_true c24
                              clear c24
                              by_cases c25 : (ji23) < (l0.length : Int)
                              · rw [if_pos c25] at H
                                have c25b0 : decide ((ji23) < (l0.length : Int)) = true := decide_eq_true c25
                                clear c25
                                by_cases c26 : ((rd_T37 l0 x10_4).f1) < ((rd_T37 l0 (ji23)).f1)
                                · rw [if_pos c26] at H
                                  have c26b0 : decide (((rd_T37 l0 x10_4).f1) < ((rd_T37 l0 (ji23)).f1)) = true := decide_eq_true c26
                                  clear c26
                                  obtain rfl := Option.some.inj H
                                  have p137 : 0 ≤ (x10_4 : Int) := of_decide_eq_true (by first | (with_reducible assumption) | assumption)
                                  have q137 : x10_4 < (l0.length : Int) := of_decide_eq_true (by first | (with_reducible assumption) | assumption)
                                  obtain ⟨ad137, e137, hx137_0, hx137_1⟩ := at_T37 HR0.out x10_4 p137 q137
                                  cases e137
                                  replace p137 := eq_true p137
                                  replace q137 := eq_true q137
                                  have p138 : 0 ≤ ((ji23) : Int) := of_decide_eq_true (by first | (with_reducible assumption) | assumption)
                                  have q138 : (ji23) < (l0.length : Int) := of_decide_eq_true (by first | (with_reducible assumption) | assumption)
                                  obtain ⟨ad138, e138, hx138_0, hx138_1⟩ := at_T37 HR0.out (ji23) p138 q138
                                  obtain rfl : ad137 = ad138 := (by injection e138)
                                  replace p138 := eq_true p138
                                  replace q138 := eq_true q138
                                  go_wp2
                                  repeat (go_quiet (fail); try go_wp2)
                                  go_ret
                                  exact ⟨by first | rfl | (simp; done) | (simp only [← hji23] <;> (first | rfl | simp)) | (simp [*]; done), by repeat (first | exact Drawn0.refl _ | apply Drawn0.step)⟩
                                · rw [if_neg c26] at H
                                  have c26b0 : decide (((rd_T37 l0 x10_4).f1) < ((rd_T37 l0 (ji23)).f1)) = false := decide_eq_false c26
                                  clear c26
                                  have H' := Aside0.mk H
                                  clear H
                                  have p137 : 0 ≤ (x10_4 : Int) := of_decide_eq_true (by first | (with_reducible assumption) | assumption)
                                  have q137 : x10_4 < (l0.length : Int) := of_decide_eq_true (by first | (with_reducible assumption) | assumption)
                                  obtain ⟨ad137, e137, hx137_0, hx137_1⟩ := at_T37 HR0.out x10_4 p137 q137
                                  cases e137
                                  replace p137 := eq_true p137
                                  replace q137 := eq_true q137
                                  have p138 : 0 ≤ ((ji23) : Int) := of_decide_eq_true (by first | (with_reducible assumption) | assumption)
                                  have q138 : (ji23) < (l0.length : Int) := of_decide_eq_true (by first | (with_reducible assumption) | assumption)
                                  obtain ⟨ad138, e138, hx138_0, hx138_1⟩ := at_T37 HR0.out (ji23) p138 q138
                                  obtain rfl : ad137 = ad138 := (by injection e138)
                                  replace p138 := eq_true p138
                                  replace q138 := eq_true q138
                                  go_wp2
                                  repeat (go_quiet (fail); try go_wp2)
                                  go_roundg k4
                                  case measure => have := HJ3.out; have := HK2.out; have := HK3.out; have := HK4.out; omega
                                  case rel => exact ⟨(wrap64 (x10_4 + 1)), (by first | rfl | (simp; done) | (simp [*]; done)), H', ⟨by have := HJ3.out; have := HK2.out; have := HK3.out; have := HK4.out; omega⟩, by repeat (first | exact Drawn0.refl _ | apply Drawn0.step)⟩
                              · rw [if_neg c25] at H
                                exact absurd H (by simp)
                            · rw [if_neg c24] at H
                              exact absurd H (by simp)
                          · rw [if_neg c22] at H
                            exact absurd H (by simp)
                        · rw [if_neg c21] at H
                          have c21b0 : decide (x10_4 < (l0.length : Int)) = false := decide_eq_false c21
                          clear c21
                          obtain rfl := Option.some.inj H
                          go_wp2
                          repeat (go_quiet (fail); try go_wp2)
                          go_ret
                          exact ⟨by first | rfl | (simp; done) | (simp [*]; done), by repeat (first | exact Drawn0.refl _ | apply Drawn0.step)⟩

end Go.Proofs.Ytphmnjapjalfgaa.X
