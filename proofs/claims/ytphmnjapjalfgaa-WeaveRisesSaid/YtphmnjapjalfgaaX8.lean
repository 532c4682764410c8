-- by pr.py, round the kit's print (a twelfth state) out of the translation. Not trusted: Lean checks it.
import Derived.Test.YtphmnjapjalfgaaX0
import Derived.Test.YtphmnjapjalfgaaX3
import Derived.Test.YtphmnjapjalfgaaX4
import Derived.Test.YtphmnjapjalfgaaX7
namespace Go.Proofs.Ytphmnjapjalfgaa.X
open Go.RowKit Go.Proofs.YtphmnjapjalfgaaW.PrintWords Go.Proofs.YtphmnjapjalfgaaW.PrintLast Go.Proofs.YtphmnjapjalfgaaW.PrintMore
attribute [local go_sem] max2_int min2_int max_two min_two max_three min_three max_four min_four   -- for this text's walks alone
set_option linter.unusedVariables false
set_option linter.unusedSimpArgs false

/-! ### tartanref07_place: function 50 -/
def tartanref07_place.l0 : Nat → List (S37) → List Int → Int → Int → Option (Int)
  | 0, _, _, _, _ => none
  | k + 1, x0, x1, x2, x7 => if x7 < (x0.length : Int) then (if 0 ≤ x7 then ((tartanref06_In.f k x1 ((rd_T37 x0 x7).f0)).bind fun t183 => (if t183 = true then (if ((rd_T37 x0 x7).f1) ≥ 0 then (if ((rd_T37 x0 x7).f0) > x2 then (some x7) else (tartanref07_place.l0 k x0 x1 x2 (wrap64 (x7 + 1)))) else (tartanref07_place.l0 k x0 x1 x2 (wrap64 (x7 + 1)))) else (tartanref07_place.l0 k x0 x1 x2 (wrap64 (x7 + 1))))) else (none)) else (some (x0.length : Int))
def tartanref07_place.f (k : Nat) (l0 : List (S37)) (l1 : List Int) (a2 : Int) : Option (Int) := tartanref07_place.l0 k l0 l1 a2 0
theorem tartanref07_place.mono_l : ∀ k, (∀ y0 y1 y2 y3, LeO (tartanref07_place.l0 k y0 y1 y2 y3) (tartanref07_place.l0 (k + 1) y0 y1 y2 y3))
  | 0 => fun _ _ _ _ r h => by simp [tartanref07_place.l0] at h
  | k + 1 => by
    have ih0 := tartanref07_place.mono_l k
    · intro y0 y1 y2 y3
      unfold tartanref07_place.l0
      repeat' first
      | (with_reducible exact ih0 _ _ _ _)
      | (with_reducible exact tartanref06_In.mono _ _ _)
      | (with_reducible exact LeO.refl _)
      | (with_reducible exact LeO.none _)
      | (with_reducible refine LeO.ite ?_ ?_)
      | (with_reducible refine LeO.bind ?_ (fun _ => ?_))
      | exact ih0 _ _ _ _
      | exact tartanref06_In.mono _ _ _
      | exact LeO.none _
      | refine LeO.ite ?_ ?_
      | refine LeO.bind ?_ (fun _ => ?_)
theorem tartanref07_place.mono : ∀ a0 a1 a2 k, LeO (tartanref07_place.f k a0 a1 a2) (tartanref07_place.f (k + 1) a0 a1 a2) := by
  intro a0 a1 a2 k
  have ih0 := tartanref07_place.mono_l k
  unfold tartanref07_place.f
  repeat' first
      | (with_reducible exact ih0 _ _ _ _)
      | (with_reducible exact tartanref06_In.mono _ _ _)
      | (with_reducible exact LeO.refl _)
      | (with_reducible exact LeO.none _)
      | (with_reducible refine LeO.ite ?_ ?_)
      | (with_reducible refine LeO.bind ?_ (fun _ => ?_))
      | exact ih0 _ _ _ _
      | exact tartanref06_In.mono _ _ _
      | exact LeO.none _
      | refine LeO.ite ?_ ?_
      | refine LeO.bind ?_ (fun _ => ?_)
set_option maxHeartbeats 8000000 in
set_option maxRecDepth 100000 in
theorem tartanref07_place.calls (k : Nat) (A0 : Option Addr) (c0 : Nat) (l0 : List (S37)) (A1 : Option Addr) (c1 : Nat) (l1 : List Int) (a2 : Int) (r : Int) (w : World) (hr0 : Kd.C k37 w A0 l0.length l0) (hc0 : l0.length ≤ c0) (hr1 : Kd.C (Kd.int .i64) w A1 l1.length l1) (hc1 : l1.length ≤ c1) (h : tartanref07_place.f k l0 l1 a2 = some r) :
    Calls Try.prog 50 #[.slice A0 l0.length c0, .slice A1 l1.length c1, .int .i64 a2] w fun e w' => e = .returned (.int .i64 r) ∧ Drawn0 w w' := by
  have HR0 := Aside0.mk hr0
  have HC0 := Aside0.mk hc0
  clear hr0 hc0
  have HR1 := Aside0.mk hr1
  have HC1 := Aside0.mk hc1
  clear hr1 hc1
  have H : (tartanref07_place.l0 k l0 l1 a2 0) = some r := h
  clear h
  have H' := Aside0.mk H
  clear H
  go_enter Try.func50, Try.ntmps50
  go_wp2
  go_loopg [7] k (fun kq v7 w' => ∃ (x7_1 : Int), v7 = .int .i64 x7_1 ∧ Aside0 (tartanref07_place.l0 kq l0 l1 a2 x7_1 = some r) ∧ Aside0 (kq ≤ k) ∧ Drawn0 w w')
  case atStart => exact ⟨(0), (by first | rfl | (simp; done) | (simp [*]; done)), H', ⟨Nat.le_refl _⟩, by repeat (first | exact Drawn0.refl _ | apply Drawn0.step)⟩
  case round =>
    clear H'
    try clear c1
    try clear p2
    obtain ⟨x7_1, rfl, HA, HK1, ⟨m1, rfl⟩⟩ := hrel
    cases gk with
    | zero => exact absurd HA.out (by simp [tartanref07_place.l0])
    | succ k1 =>
      have H := HA.out
      clear HA
      simp only [tartanref07_place.l0] at H
      by_cases c4 : x7_1 < (l0.length : Int)
      · rw [if_pos c4] at H
        have c4b0 : decide (x7_1 < (l0.length : Int)) = true := decide_eq_true c4
        clear c4
        by_cases c5 : 0 ≤ x7_1
        · rw [if_pos c5] at H
          have c5b0 : decide (0 ≤ x7_1) = true := decide_eq_true c5
          clear c5
          replace H := Option.bind_eq_some_iff.mp H
          obtain ⟨t183, A60, H⟩ := H
          replace H : (if t183 = true then (if ((rd_T37 l0 x7_1).f1) ≥ 0 then (if ((rd_T37 l0 x7_1).f0) > a2 then (some x7_1) else (tartanref07_place.l0 k1 l0 l1 a2 (wrap64 (x7_1 + 1)))) else (tartanref07_place.l0 k1 l0 l1 a2 (wrap64 (x7_1 + 1)))) else (tartanref07_place.l0 k1 l0 l1 a2 (wrap64 (x7_1 + 1)))) = some r := H
          have A6 := Aside0.mk A60
          clear A60
          by_cases c7 : t183 = true
          · subst c7
            have H1 : (if ((rd_T37 l0 x7_1).f1) ≥ 0 then (if ((rd_T37 l0 x7_1).f0) > a2 then (some x7_1) else (tartanref07_place.l0 k1 l0 l1 a2 (wrap64 (x7_1 + 1)))) else (tartanref07_place.l0 k1 l0 l1 a2 (wrap64 (x7_1 + 1)))) = some r := by first | (rw [if_pos rfl] at H; exact H) | (rw [if_pos trivial] at H; exact H) | simpa using H
            clear H
            have H := H1
            clear H1
            by_cases c8 : ((rd_T37 l0 x7_1).f1) ≥ 0
            · rw [if_pos c8] at H
              have c8b0 : decide (0 ≤ ((rd_T37 l0 x7_1).f1)) = true := decide_eq_true c8
              clear c8
              by_cases c9 : ((rd_T37 l0 x7_1).f0) > a2
              · rw [if_pos c9] at H
                have c9b0 : decide (a2 < ((rd_T37 l0 x7_1).f0)) = true := decide_eq_true c9
                clear c9
                obtain rfl := Option.some.inj H
                have p182 : 0 ≤ (x7_1 : Int) := of_decide_eq_true (by first | (with_reducible assumption) | assumption)
                have q182 : x7_1 < (l0.length : Int) := of_decide_eq_true (by first | (with_reducible assumption) | assumption)
                obtain ⟨ad182, e182, hx182_0, hx182_1⟩ := at_T37 HR0.out x7_1 p182 q182
                cases e182
                replace p182 := eq_true p182
                replace q182 := eq_true q182
                go_wp2_with (first | ((with_reducible refine gate_callee (f := 53) rfl ?_); refine goesL_ (some 21) rfl rfl Try.func53 (by kernel_rfl) rfl #[.slice A1 l1.length c1, .int .i64 ((rd_T37 l0 x7_1).f0)] rfl (by (try simp only [List.map_toArray, List.map_cons, List.map_nil]); first | done | rfl | (simp only [List.length_drop, List.length_take]; rfl)) ?_; (with_reducible refine (tartanref06_In.calls k1 _ _ l1 ((rd_T37 l0 x7_1).f0) true _ ?side1 ?side2 A6.out).mono ?_); (case side1 => repeat (first | exact HR1.out | (with_reducible refine Kd.C_alloc ?_ _) | (with_reducible refine Kd.C_drewN ?_ _) | (with_reducible refine Kd.C_drew ?_))); (case side2 => exact HC1.out); rintro e w' ⟨rfl, ⟨nd, rfl⟩⟩; refine ⟨_, rfl, ?_⟩; have p184 : 0 ≤ (x7_1 : Int) := of_decide_eq_true (by first | (with_reducible assumption) | assumption); have q184 : x7_1 < (l0.length : Int) := of_decide_eq_true (by first | (with_reducible assumption) | assumption); obtain ⟨ad184, e184, hx184_0, hx184_1⟩ := at_T37 HR0.out x7_1 p184 q184; obtain rfl : ad182 = ad184 := (by injection e184); replace p184 := eq_true p184; replace q184 := eq_true q184; have p185 : 0 ≤ (x7_1 : Int) := of_decide_eq_true (by first | (with_reducible assumption) | assumption); have q185 : x7_1 < (l0.length : Int) := of_decide_eq_true (by first | (with_reducible assumption) | assumption); obtain ⟨ad185, e185, hx185_0, hx185_1⟩ := at_T37 HR0.out x7_1 p185 q185; obtain rfl : ad182 = ad185 := (by injection e185); replace p185 := eq_true p185; replace q185 := eq_true q185))
                go_ret
                exact ⟨by first | rfl | (simp; done) | (simp [*]; done), by repeat (first | exact Drawn0.refl _ | apply Drawn0.step)⟩
              · rw [if_neg c9] at H
                have c9b0 : decide (a2 < ((rd_T37 l0 x7_1).f0)) = false := decide_eq_false c9
                clear c9
                have H' := Aside0.mk H
                clear H
                have p182 : 0 ≤ (x7_1 : Int) := of_decide_eq_true (by first | (with_reducible assumption) | assumption)
                have q182 : x7_1 < (l0.length : Int) := of_decide_eq_true (by first | (with_reducible assumption) | assumption)
                obtain ⟨ad182, e182, hx182_0, hx182_1⟩ := at_T37 HR0.out x7_1 p182 q182
                cases e182
                replace p182 := eq_true p182
                replace q182 := eq_true q182
                go_wp2_with (first | ((with_reducible refine gate_callee (f := 53) rfl ?_); refine goesL_ (some 21) rfl rfl Try.func53 (by kernel_rfl) rfl #[.slice A1 l1.length c1, .int .i64 ((rd_T37 l0 x7_1).f0)] rfl (by (try simp only [List.map_toArray, List.map_cons, List.map_nil]); first | done | rfl | (simp only [List.length_drop, List.length_take]; rfl)) ?_; (with_reducible refine (tartanref06_In.calls k1 _ _ l1 ((rd_T37 l0 x7_1).f0) true _ ?side1 ?side2 A6.out).mono ?_); (case side1 => repeat (first | exact HR1.out | (with_reducible refine Kd.C_alloc ?_ _) | (with_reducible refine Kd.C_drewN ?_ _) | (with_reducible refine Kd.C_drew ?_))); (case side2 => exact HC1.out); rintro e w' ⟨rfl, ⟨nd, rfl⟩⟩; refine ⟨_, rfl, ?_⟩; have p184 : 0 ≤ (x7_1 : Int) := of_decide_eq_true (by first | (with_reducible assumption) | assumption); have q184 : x7_1 < (l0.length : Int) := of_decide_eq_true (by first | (with_reducible assumption) | assumption); obtain ⟨ad184, e184, hx184_0, hx184_1⟩ := at_T37 HR0.out x7_1 p184 q184; obtain rfl : ad182 = ad184 := (by injection e184); replace p184 := eq_true p184; replace q184 := eq_true q184; have p185 : 0 ≤ (x7_1 : Int) := of_decide_eq_true (by first | (with_reducible assumption) | assumption); have q185 : x7_1 < (l0.length : Int) := of_decide_eq_true (by first | (with_reducible assumption) | assumption); obtain ⟨ad185, e185, hx185_0, hx185_1⟩ := at_T37 HR0.out x7_1 p185 q185; obtain rfl : ad182 = ad185 := (by injection e185); replace p185 := eq_true p185; replace q185 := eq_true q185))
                go_roundg k1
                case measure => have := HK1.out; omega
                case rel => exact ⟨(wrap64 (x7_1 + 1)), (by first | rfl | (simp; done) | (simp [*]; done)), H', ⟨by have := HK1.out; omega⟩, by repeat (first | exact Drawn0.refl _ | apply Drawn0.step)⟩
            · rw [if_neg c8] at H
              have c8b0 : decide (0 ≤ ((rd_T37 l0 x7_1).f1)) = false := decide_eq_false c8
              clear c8
              have H' := Aside0.mk H
              clear H
              have p182 : 0 ≤ (x7_1 : Int) := of_decide_eq_true (by first | (with_reducible assumption) | assumption)
              have q182 : x7_1 < (l0.length : Int) := of_decide_eq_true (by first | (with_reducible assumption) | assumption)
              obtain ⟨ad182, e182, hx182_0, hx182_1⟩ := at_T37 HR0.out x7_1 p182 q182
              cases e182
              replace p182 := eq_true p182
              replace q182 := eq_true q182
              go_wp2_with (first | ((with_reducible refine gate_callee (f := 53) rfl ?_); refine goesL_ (some 21) rfl rfl Try.func53 (by kernel_rfl) rfl #[.slice A1 l1.length c1, .int .i64 ((rd_T37 l0 x7_1).f0)] rfl (by (try simp only [List.map_toArray, List.map_cons, List.map_nil]); first | done | rfl | (simp only [List.length_drop, List.length_take]; rfl)) ?_; (with_reducible refine (tartanref06_In.calls k1 _ _ l1 ((rd_T37 l0 x7_1).f0) true _ ?side1 ?side2 A6.out).mono ?_); (case side1 => repeat (first | exact HR1.out | (with_reducible refine Kd.C_alloc ?_ _) | (with_reducible refine Kd.C_drewN ?_ _) | (with_reducible refine Kd.C_drew ?_))); (case side2 => exact HC1.out); rintro e w' ⟨rfl, ⟨nd, rfl⟩⟩; refine ⟨_, rfl, ?_⟩; have p184 : 0 ≤ (x7_1 : Int) := of_decide_eq_true (by first | (with_reducible assumption) | assumption); have q184 : x7_1 < (l0.length : Int) := of_decide_eq_true (by first | (with_reducible assumption) | assumption); obtain ⟨ad184, e184, hx184_0, hx184_1⟩ := at_T37 HR0.out x7_1 p184 q184; obtain rfl : ad182 = ad184 := (by injection e184); replace p184 := eq_true p184; replace q184 := eq_true q184))
              go_roundg k1
              case measure => have := HK1.out; omega
              case rel => exact ⟨(wrap64 (x7_1 + 1)), (by first | rfl | (simp; done) | (simp [*]; done)), H', ⟨by have := HK1.out; omega⟩, by repeat (first | exact Drawn0.refl _ | apply Drawn0.step)⟩
          · replace c7 := Bool.eq_false_iff.mpr c7
            subst c7
            have H1 : (tartanref07_place.l0 k1 l0 l1 a2 (wrap64 (x7_1 + 1))) = some r := by rw [if_neg (show ¬ (false = true) by decide)] at H; exact H
            clear H
            have H := H1
            clear H1
            have H' := Aside0.mk H
            clear H
            have p182 : 0 ≤ (x7_1 : Int) := of_decide_eq_true (by first | (with_reducible assumption) | assumption)
            have q182 : x7_1 < (l0.length : Int) := of_decide_eq_true (by first | (with_reducible assumption) | assumption)
            obtain ⟨ad182, e182, hx182_0, hx182_1⟩ := at_T37 HR0.out x7_1 p182 q182
            cases e182
            replace p182 := eq_true p182
            replace q182 := eq_true q182
            go_wp2_with (first | ((with_reducible refine gate_callee (f := 53) rfl ?_); refine goesL_ (some 21) rfl rfl Try.func53 (by kernel_rfl) rfl #[.slice A1 l1.length c1, .int .i64 ((rd_T37 l0 x7_1).f0)] rfl (by (try simp only [List.map_toArray, List.map_cons, List.map_nil]); first | done | rfl | (simp only [List.length_drop, List.length_take]; rfl)) ?_; (with_reducible refine (tartanref06_In.calls k1 _ _ l1 ((rd_T37 l0 x7_1).f0) false _ ?side1 ?side2 A6.out).mono ?_); (case side1 => repeat (first | exact HR1.out | (with_reducible refine Kd.C_alloc ?_ _) | (with_reducible refine Kd.C_drewN ?_ _) | (with_reducible refine Kd.C_drew ?_))); (case side2 => exact HC1.out); rintro e w' ⟨rfl, ⟨nd, rfl⟩⟩; refine ⟨_, rfl, ?_⟩))
            go_roundg k1
            case measure => have := HK1.out; omega
            case rel => exact ⟨(wrap64 (x7_1 + 1)), (by first | rfl | (simp; done) | (simp [*]; done)), H', ⟨by have := HK1.out; omega⟩, by repeat (first | exact Drawn0.refl _ | apply Drawn0.step)⟩
        · rw [if_neg c5] at H
          exact absurd H (by simp)
      · rw [if_neg c4] at H
        have c4b0 : decide (x7_1 < (l0.length : Int)) = false := decide_eq_false c4
        clear c4
        obtain rfl := Option.some.inj H
        go_wp2
        go_ret
        exact ⟨by first | rfl | (simp; done) | (simp [*]; done), by repeat (first | exact Drawn0.refl _ | apply Drawn0.step)⟩

/-! ### tartanref07_Order: function 32 -/
def tartanref07_Order.l0 : Nat → List (S37) → List Int → List Int → Int → Option ((List (S37)) × Int)
  | 0, _, _, _, _ => none
  | k + 1, x9, x10, x11, x12 => if x12 < (x11.length : Int) then (if 0 ≤ x12 then ((tartanref07_place.f k x9 x10 (rd x11 x12)).bind fun t197 => ((some (([] : List (S37)) : List (S37))).bind fun y198 => (if 0 ≤ t197 then (if t197 ≤ (x9.length : Int) then ((some (x9.take (t197 : Int).toNat : List (S37))).bind fun y201 => (if y198.length + y201.length < 8796093022208 then ((some (y198 ++ y201 : List (S37))).bind fun y205 => (if y205.length < 8796093022208 then ((some (y205 ++ [(⟨rd x11 x12, (-1)⟩ : S37)] : List (S37))).bind fun y209 => ((some (x9.drop (t197 : Int).toNat : List (S37))).bind fun y212 => (if y209.length + y212.length < 8796093022208 then (tartanref07_Order.l0 k (y209 ++ y212) x10 x11 (wrap64 (x12 + 1))) else (none)))) else (none))) else (none))) else (none)) else (none)))) else (none)) else (some (x9, 0))
def tartanref07_Order.f (k : Nat) (l0 : List (S37)) (a1 : Int) (a2 : Int) : Option ((List (S37)) × Int) := (tartanref06_Check.f k l0 a1 a2).bind fun t186 => (if t186 = 0 then ((tartanref07_byB.f k l0 a2).bind fun t187 => ((tartanref07_still.f k l0).bind fun t190 => ((tartanref06_RestA.f k l0 a1).bind fun t193 => (tartanref07_Order.l0 k t187 t190 t193 0)))) else (some (([] : List (S37)), t186)))
theorem tartanref07_Order.mono_l : ∀ k, (∀ y0 y1 y2 y3, LeO (tartanref07_Order.l0 k y0 y1 y2 y3) (tartanref07_Order.l0 (k + 1) y0 y1 y2 y3))
  | 0 => fun _ _ _ _ r h => by simp [tartanref07_Order.l0] at h
  | k + 1 => by
    have ih0 := tartanref07_Order.mono_l k
    · intro y0 y1 y2 y3
      unfold tartanref07_Order.l0
      repeat' first
      | (with_reducible exact ih0 _ _ _ _)
      | (with_reducible exact tartanref06_Check.mono _ _ _ _)
      | (with_reducible exact tartanref06_RestA.mono _ _ _)
      | (with_reducible exact tartanref07_byB.mono _ _ _)
      | (with_reducible exact tartanref07_place.mono _ _ _ _)
      | (with_reducible exact tartanref07_still.mono _ _)
      | (with_reducible exact LeO.refl _)
      | (with_reducible exact LeO.none _)
      | (with_reducible refine LeO.ite ?_ ?_)
      | (with_reducible refine LeO.bind ?_ (fun _ => ?_))
      | exact ih0 _ _ _ _
      | exact tartanref06_Check.mono _ _ _ _
      | exact tartanref06_RestA.mono _ _ _
      | exact tartanref07_byB.mono _ _ _
      | exact tartanref07_place.mono _ _ _ _
      | exact tartanref07_still.mono _ _
      | exact LeO.none _
      | refine LeO.ite ?_ ?_
      | refine LeO.bind ?_ (fun _ => ?_)
theorem tartanref07_Order.mono : ∀ a0 a1 a2 k, LeO (tartanref07_Order.f k a0 a1 a2) (tartanref07_Order.f (k + 1) a0 a1 a2) := by
  intro a0 a1 a2 k
  have ih0 := tartanref07_Order.mono_l k
  unfold tartanref07_Order.f
  repeat' first
      | (with_reducible exact ih0 _ _ _ _)
      | (with_reducible exact tartanref06_Check.mono _ _ _ _)
      | (with_reducible exact tartanref06_RestA.mono _ _ _)
      | (with_reducible exact tartanref07_byB.mono _ _ _)
      | (with_reducible exact tartanref07_place.mono _ _ _ _)
      | (with_reducible exact tartanref07_still.mono _ _)
      | (with_reducible exact LeO.refl _)
      | (with_reducible exact LeO.none _)
      | (with_reducible refine LeO.ite ?_ ?_)
      | (with_reducible refine LeO.bind ?_ (fun _ => ?_))
      | exact ih0 _ _ _ _
      | exact tartanref06_Check.mono _ _ _ _
      | exact tartanref06_RestA.mono _ _ _
      | exact tartanref07_byB.mono _ _ _
      | exact tartanref07_place.mono _ _ _ _
      | exact tartanref07_still.mono _ _
      | exact LeO.none _
      | refine LeO.ite ?_ ?_
      | refine LeO.bind ?_ (fun _ => ?_)
set_option maxHeartbeats 8000000 in
set_option maxRecDepth 100000 in
theorem tartanref07_Order.calls (k : Nat) (A0 : Option Addr) (c0 : Nat) (l0 : List (S37)) (a1 : Int) (a2 : Int) (r1 : List (S37)) (r2 : Int) (w : World) (hr0 : Kd.C k37 w A0 l0.length l0) (hc0 : l0.length ≤ c0) (h : tartanref07_Order.f k l0 a1 a2 = some (r1, r2)) :
    Calls Try.prog 32 #[.slice A0 l0.length c0, .int .i64 a1, .int .i64 a2] w fun e w' => ∃ v0_ : Value, e = .returned (.tuple #[v0_, .int .i64 r2]) ∧ Kd.R k37 37 w' w.heap.size (fun _ => True) v0_ r1 ∧ Below w.heap.size w w' := by
  have hu37 := Try.underlying37
  have HR0 := Aside0.mk hr0
  have HC0 := Aside0.mk hc0
  clear hr0 hc0
  have HB := Aside0.mk (Below.refl w.heap.size w)
  have H : ((tartanref06_Check.f k l0 a1 a2).bind fun t186 => (if t186 = 0 then ((tartanref07_byB.f k l0 a2).bind fun t187 => ((tartanref07_still.f k l0).bind fun t190 => ((tartanref06_RestA.f k l0 a1).bind fun t193 => (tartanref07_Order.l0 k t187 t190 t193 0)))) else (some (([] : List (S37)), t186)))) = some (r1, r2) := h
  clear h
  replace H := Option.bind_eq_some_iff.mp H
  obtain ⟨t186, A40, H⟩ := H
  replace H : (if t186 = 0 then ((tartanref07_byB.f k l0 a2).bind fun t187 => ((tartanref07_still.f k l0).bind fun t190 => ((tartanref06_RestA.f k l0 a1).bind fun t193 => (tartanref07_Order.l0 k t187 t190 t193 0)))) else (some (([] : List (S37)), t186))) = some (r1, r2) := H
  have A4 := Aside0.mk A40
  clear A40
  by_cases c5 : t186 = 0
  · rw [if_pos c5] at H
    have c5b0 : (t186 == 0) = true := beq_iff_eq.mpr c5
    have c5b1 : (t186 != 0) = false := bne_eq_false_iff_eq.mpr c5
    clear c5
    replace H := Option.bind_eq_some_iff.mp H
    obtain ⟨t187, A60, H⟩ := H
    replace H : ((tartanref07_still.f k l0).bind fun t190 => ((tartanref06_RestA.f k l0 a1).bind fun t193 => (tartanref07_Order.l0 k t187 t190 t193 0))) = some (r1, r2) := H
    have A6 := Aside0.mk A60
    clear A60
    replace H := Option.bind_eq_some_iff.mp H
    obtain ⟨t190, A70, H⟩ := H
    replace H : ((tartanref06_RestA.f k l0 a1).bind fun t193 => (tartanref07_Order.l0 k t187 t190 t193 0)) = some (r1, r2) := H
    have A7 := Aside0.mk A70
    clear A70
    replace H := Option.bind_eq_some_iff.mp H
    obtain ⟨t193, A80, H⟩ := H
    replace H : (tartanref07_Order.l0 k t187 t190 t193 0) = some (r1, r2) := H
    have A8 := Aside0.mk A80
    clear A80
    have H' := Aside0.mk H
    clear H
    go_enter Try.func32, Try.ntmps32
    go_wp2_with (first | ((with_reducible refine gate_callee (f := 17) rfl ?_); refine goesL_ (some 18) rfl rfl Try.func17 (by kernel_rfl) rfl #[.slice A0 l0.length c0, .int .i64 a1, .int .i64 a2] rfl (by (try simp only [List.map_toArray, List.map_cons, List.map_nil]); first | done | rfl | (simp only [List.length_drop, List.length_take]; rfl)) ?_; (with_reducible refine (tartanref06_Check.calls k _ _ l0 a1 a2 t186 _ ?side1 ?side2 A4.out).mono ?_); (case side1 => repeat (first | exact HR0.out | (with_reducible refine Kd.C_alloc ?_ _) | (with_reducible refine Kd.C_drewN ?_ _) | (with_reducible refine Kd.C_drew ?_))); (case side2 => exact HC0.out); rintro e w' ⟨rfl, ⟨nd, rfl⟩⟩; refine ⟨_, rfl, ?_⟩) | ((with_reducible refine gate_callee (f := 48) rfl ?_); refine goesL_ (some 24) rfl rfl Try.func48 (by kernel_rfl) rfl #[.slice A0 l0.length c0, .int .i64 a2] rfl (by (try simp only [List.map_toArray, List.map_cons, List.map_nil]); first | done | rfl | (simp only [List.length_drop, List.length_take]; rfl)) ?_; (with_reducible refine (tartanref07_byB.calls k _ _ l0 a2 t187 _ ?side1 ?side2 A6.out).mono ?_); (case side1 => repeat (first | exact HR0.out | (with_reducible refine Kd.C_alloc ?_ _) | (with_reducible refine Kd.C_drewN ?_ _) | (with_reducible refine Kd.C_drew ?_))); (case side2 => exact HC0.out); rintro e w9 ⟨v188, rfl, ho0, hb⟩; refine ⟨_, rfl, ?_⟩; have n0_ := Aside0.mk (Kd.R_lower ho0 (below_size (by repeat (first | (with_reducible first | exact HB.out | apply below_alloc | apply pw_below_drewN | apply below_drew1) | exact HB.out)))); have n1_ := Aside0.mk (below_step (by repeat (first | (with_reducible first | exact HB.out | apply below_alloc | apply pw_below_drewN | apply below_drew1) | exact HB.out)) hb); clear HB; have HO189 := n0_; have HB := n1_; clear n0_ n1_; (try clear hb); (try clear hb2); (try clear hk); (try clear hi); (try clear ho0)) | ((with_reducible refine gate_callee (f := 49) rfl ?_); refine goesL_ (some 26) rfl rfl Try.func49 (by kernel_rfl) rfl #[.slice A0 l0.length c0] rfl (by (try simp only [List.map_toArray, List.map_cons, List.map_nil]); first | done | rfl | (simp only [List.length_drop, List.length_take]; rfl)) ?_; (with_reducible refine (tartanref07_still.calls k _ _ l0 t190 _ ?side1 ?side2 A7.out).mono ?_); (case side1 => repeat (first | exact (Kd.C_below HR0.out HB.out) | (with_reducible refine Kd.C_alloc ?_ _) | (with_reducible refine Kd.C_drewN ?_ _) | (with_reducible refine Kd.C_drew ?_))); (case side2 => exact HC0.out); rintro e w10 ⟨v191, rfl, ho0, hb⟩; refine ⟨_, rfl, ?_⟩; have n0_ := Aside0.mk (Kd.R_below (by (with_reducible repeat (first | apply Kd.R_alloc | apply Kd.R_drewN | apply Kd.R_drew)); exact HO189.out) hb); have n1_ := Aside0.mk (Kd.R_lower ho0 (below_size (by repeat (first | (with_reducible first | exact HB.out | apply below_alloc | apply pw_below_drewN | apply below_drew1) | exact HB.out)))); have n2_ := Aside0.mk (below_step (by repeat (first | (with_reducible first | exact HB.out | apply below_alloc | apply pw_below_drewN | apply below_drew1) | exact HB.out)) hb); clear HO189; clear HB; have HO189 := n0_; have HO192 := n1_; have HB := n2_; clear n0_ n1_ n2_; (try clear hb); (try clear hb2); (try clear hk); (try clear hi); (try clear ho0)) | ((with_reducible refine gate_callee (f := 27) rfl ?_); refine goesL_ (some 29) rfl rfl Try.func27 (by kernel_rfl) rfl #[.slice A0 l0.length c0, .int .i64 a1] rfl (by (try simp only [List.map_toArray, List.map_cons, List.map_nil]); first | done | rfl | (simp only [List.length_drop, List.length_take]; rfl)) ?_; (with_reducible refine (tartanref06_RestA.calls k _ _ l0 a1 t193 _ ?side1 ?side2 A8.out).mono ?_); (case side1 => repeat (first | exact (Kd.C_below HR0.out HB.out) | (with_reducible refine Kd.C_alloc ?_ _) | (with_reducible refine Kd.C_drewN ?_ _) | (with_reducible refine Kd.C_drew ?_))); (case side2 => exact HC0.out); rintro e w11 ⟨v194, rfl, ho0, hb⟩; refine ⟨_, rfl, ?_⟩; have n0_ := Aside0.mk (Kd.R_below (by (with_reducible repeat (first | apply Kd.R_alloc | apply Kd.R_drewN | apply Kd.R_drew)); exact HO189.out) hb); have n1_ := Aside0.mk (Kd.R_elder' (by (with_reducible repeat (first | apply Kd.R_alloc | apply Kd.R_drewN | apply Kd.R_drew)); exact HO192.out) (Kd.R_base ho0) hb); have n2_ := Aside0.mk (Kd.R_lower (Kd.R_new' ho0 (Kd.R_lt (by (with_reducible repeat (first | apply Kd.R_alloc | apply Kd.R_drewN | apply Kd.R_drew)); exact HO192.out))) (below_size (by repeat (first | (with_reducible first | exact HB.out | apply below_alloc | apply pw_below_drewN | apply below_drew1) | exact HB.out)))); have n3_ := Aside0.mk (below_step (by repeat (first | (with_reducible first | exact HB.out | apply below_alloc | apply pw_below_drewN | apply below_drew1) | exact HB.out)) hb); clear HO189; clear HO192; clear HB; have HO189 := n0_; have HO192 := n1_; have HO195 := n2_; have HB := n3_; clear n0_ n1_ n2_ n3_; (try clear hb); (try clear hb2); (try clear hk); (try clear hi); (try clear ho0)))
    go_loopg [9, 12] k (fun kq v9 v12 w' => ∃ (x9_1 : List (S37)) (x12_1 : Int), v12 = .int .i64 x12_1 ∧ Aside0 (tartanref07_Order.l0 kq x9_1 t190 t193 x12_1 = some (r1, r2)) ∧ Aside0 (kq ≤ k) ∧ Aside0 (Kd.R k37 37 w' w.heap.size (fun _ => True) v9 x9_1) ∧ Aside0 (Kd.R (Kd.int .i64) 3 w' w.heap.size (fun k_ => some k_ ≠ (v194 : Value).ownBlock) v191 t190) ∧ Aside0 (Kd.R (Kd.int .i64) 3 w' w.heap.size (fun k_ => some k_ ≠ (v191 : Value).ownBlock) v194 t193) ∧ Aside0 (Below w.heap.size w w'))
    case atStart => exact ⟨(t187), (0), (by first | rfl | (simp; done) | (simp [*]; done)), H', ⟨Nat.le_refl _⟩, ⟨by (with_reducible repeat (first | apply Kd.R_alloc | apply Kd.R_drewN | apply Kd.R_drew)); exact HO189.out⟩, ⟨by (with_reducible repeat (first | apply Kd.R_alloc | apply Kd.R_drewN | apply Kd.R_drew)); exact Kd.R_mono HO192.out (fun _ hk => hk.2)⟩, ⟨by (with_reducible repeat (first | apply Kd.R_alloc | apply Kd.R_drewN | apply Kd.R_drew)); exact Kd.R_mono HO195.out (fun _ hk => hk.2)⟩, ⟨by repeat (first | (with_reducible first | exact HB.out | apply below_alloc | apply pw_below_drewN | apply below_drew1) | exact HB.out)⟩⟩
    case round =>
      clear H'
      try clear c1
      try clear c2
      try clear p2
      try clear c3
      try clear c4
      try clear c5
      try clear c5b0
      try clear c5b1
      obtain ⟨x9_1, x12_1, rfl, HA, HK1, HO_9, HO_10, HO_11, HB⟩ := hrel
      cases gk with
      | zero => exact absurd HA.out (by simp [tartanref07_Order.l0])
      | succ k1 =>
        have H := HA.out
        clear HA
        simp only [tartanref07_Order.l0] at H
        by_cases c12 : x12_1 < (t193.length : Int)
        · rw [if_pos c12] at H
          have c12b0 : decide (x12_1 < (t193.length : Int)) = true := decide_eq_true c12
          clear c12
          by_cases c13 : 0 ≤ x12_1
          · rw [if_pos c13] at H
            have c13b0 : decide (0 ≤ x12_1) = true := decide_eq_true c13
            clear c13
            replace H := Option.bind_eq_some_iff.mp H
            obtain ⟨t197, A140, H⟩ := H
            replace H : ((some (([] : List (S37)) : List (S37))).bind fun y198 => (if 0 ≤ t197 then (if t197 ≤ (x9_1.length : Int) then ((some (x9_1.take (t197 : Int).toNat : List (S37))).bind fun y201 => (if y198.length + y201.length < 8796093022208 then ((some (y198 ++ y201 : List (S37))).bind fun y205 => (if y205.length < 8796093022208 then ((some (y205 ++ [(⟨rd t193 x12_1, (-1)⟩ : S37)] : List (S37))).bind fun y209 => ((some (x9_1.drop (t197 : Int).toNat : List (S37))).bind fun y212 => (if y209.length + y212.length < 8796093022208 then (tartanref07_Order.l0 k1 (y209 ++ y212) t190 t193 (wrap64 (x12_1 + 1))) else (none)))) else (none))) else (none))) else (none)) else (none))) = some (r1, r2) := H
            have A14 := Aside0.mk A140
            clear A140
            obtain ⟨y198, hy198⟩ : ∃ y_ : List (S37), y_ = (([] : List (S37))) := ⟨_, rfl⟩
            replace H : (if 0 ≤ t197 then (if t197 ≤ (x9_1.length : Int) then ((some (x9_1.take (t197 : Int).toNat : List (S37))).bind fun y201 => (if y198.length + y201.length < 8796093022208 then ((some (y198 ++ y201 : List (S37))).bind fun y205 => (if y205.length < 8796093022208 then ((some (y205 ++ [(⟨rd t193 x12_1, (-1)⟩ : S37)] : List (S37))).bind fun y209 => ((some (x9_1.drop (t197 : Int).toNat : List (S37))).bind fun y212 => (if y209.length + y212.length < 8796093022208 then (tartanref07_Order.l0 k1 (y209 ++ y212) t190 t193 (wrap64 (x12_1 + 1))) else (none)))) else (none))) else (none))) else (none)) else (none)) = some (r1, r2) := by first | (rw [hy198]; with_reducible exact H) | (have H2_ := (Option.bind_some _ _).symm.trans H; rw [hy198]; with_reducible exact H2_) | (have H2_ := (Option.bind_some _ _).symm.trans H; with_reducible exact H2_) | with_reducible exact H | (rw [hy198]; exact H) | exact H
            have Ny198 := Aside0.mk hy198
            clear hy198
            by_cases c15 : 0 ≤ t197
            · rw [if_pos c15] at H
              have c15b0 := eq_true c15
              have c15b1 : decide (0 ≤ t197) = true := decide_eq_true c15
              clear c15
              by_cases c16 : t197 ≤ (x9_1.length : Int)
              · rw [if_pos c16] at H
                have c16b0 := eq_true c16
                have c16b1 : decide (t197 ≤ (x9_1.length : Int)) = true := decide_eq_true c16
                clear c16
                obtain ⟨y201, hy201⟩ : ∃ y_ : List (S37), y_ = (x9_1.take (t197 : Int).toNat) := ⟨_, rfl⟩
                replace H : (if y198.length + y201.length < 8796093022208 then ((some (y198 ++ y201 : List (S37))).bind fun y205 => (if y205.length < 8796093022208 then ((some (y205 ++ [(⟨rd t193 x12_1, (-1)⟩ : S37)] : List (S37))).bind fun y209 => ((some (x9_1.drop (t197 : Int).toNat : List (S37))).bind fun y212 => (if y209.length + y212.length < 8796093022208 then (tartanref07_Order.l0 k1 (y209 ++ y212) t190 t193 (wrap64 (x12_1 + 1))) else (none)))) else (none))) else (none)) = some (r1, r2) := by first | (rw [hy201]; with_reducible exact H) | (have H2_ := (Option.bind_some _ _).symm.trans H; rw [hy201]; with_reducible exact H2_) | (have H2_ := (Option.bind_some _ _).symm.trans H; with_reducible exact H2_) | with_reducible exact H | (rw [hy201]; exact H) | exact H
                have Ny201 := Aside0.mk hy201
                clear hy201
                by_cases c17 : y198.length + y201.length < 8796093022208
                · rw [if_pos c17] at H
                  have LMc17 := Aside0.mk c17
                  clear c17
                  obtain ⟨y205, hy205⟩ : ∃ y_ : List (S37), y_ = (y198 ++ y201) := ⟨_, rfl⟩
                  replace H : (if y205.length < 8796093022208 then ((some (y205 ++ [(⟨rd t193 x12_1, (-1)⟩ : S37)] : List (S37))).bind fun y209 => ((some (x9_1.drop (t197 : Int).toNat : List (S37))).bind fun y212 => (if y209.length + y212.length < 8796093022208 then (tartanref07_Order.l0 k1 (y209 ++ y212) t190 t193 (wrap64 (x12_1 + 1))) else (none)))) else (none)) = some (r1, r2) := by first | (rw [hy205]; with_reducible exact H) | (have H2_ := (Option.bind_some _ _).symm.trans H; rw [hy205]; with_reducible exact H2_) | (have H2_ := (Option.bind_some _ _).symm.trans H; with_reducible exact H2_) | with_reducible exact H | (rw [hy205]; exact H) | exact H
                  have Ny205 := Aside0.mk hy205
                  clear hy205
                  by_cases c18 : y205.length < 8796093022208
                  · rw [if_pos c18] at H
                    have LMc18 := Aside0.mk c18
                    clear c18
                    obtain ⟨y209, hy209⟩ : ∃ y_ : List (S37), y_ = (y205 ++ [(⟨rd t193 x12_1, (-1)⟩ : S37)]) := ⟨_, rfl⟩
                    replace H : ((some (x9_1.drop (t197 : Int).toNat : List (S37))).bind fun y212 => (if y209.length + y212.length < 8796093022208 then (tartanref07_Order.l0 k1 (y209 ++ y212) t190 t193 (wrap64 (x12_1 + 1))) else (none))) = some (r1, r2) := by first | (rw [hy209]; with_reducible exact H) | (have H2_ := (Option.bind_some _ _).symm.trans H; rw [hy209]; with_reducible exact H2_) | (have H2_ := (Option.bind_some _ _).symm.trans H; with_reducible exact H2_) | with_reducible exact H | (rw [hy209]; exact H) | exact H
                    have Ny209 := Aside0.mk hy209
                    clear hy209
                    have c19b0 := eq_true (of_decide_eq_true (by first | (with_reducible assumption) | assumption) : 0 ≤ t197)
                    have c20b0 := eq_true (of_decide_eq_true (by first | (with_reducible assumption) | assumption) : t197 ≤ (x9_1.length : Int))
                    obtain ⟨y212, hy212⟩ : ∃ y_ : List (S37), y_ = (x9_1.drop (t197 : Int).toNat) := ⟨_, rfl⟩
                    replace H : (if y209.length + y212.length < 8796093022208 then (tartanref07_Order.l0 k1 (y209 ++ y212) t190 t193 (wrap64 (x12_1 + 1))) else (none)) = some (r1, r2) := by first | (rw [hy212]; with_reducible exact H) | (have H2_ := (Option.bind_some _ _).symm.trans H; rw [hy212]; with_reducible exact H2_) | (have H2_ := (Option.bind_some _ _).symm.trans H; with_reducible exact H2_) | with_reducible exact H | (rw [hy212]; exact H) | exact H
                    have Ny212 := Aside0.mk hy212
                    clear hy212
                    by_cases c21 : y209.length + y212.length < 8796093022208
                    · rw [if_pos c21] at H
                      have LMc21 := Aside0.mk c21
                      clear c21
                      obtain ⟨y216, hy216⟩ : ∃ y_ : List (S37), y_ = (y209 ++ y212) := ⟨_, rfl⟩
                      replace H : (tartanref07_Order.l0 k1 y216 t190 t193 (wrap64 (x12_1 + 1))) = some (r1, r2) := by first | (rw [hy216]; with_reducible exact H) | (have H2_ := (Option.bind_some _ _).symm.trans H; rw [hy216]; with_reducible exact H2_) | (have H2_ := (Option.bind_some _ _).symm.trans H; with_reducible exact H2_) | with_reducible exact H | (rw [hy216]; exact H) | exact H
                      have Ny216 := Aside0.mk hy216
                      clear hy216
                      have H' := Aside0.mk H
                      clear H
                      obtain ⟨Ao22, co22, eo22⟩ := Kd.R_slice HO_11.out
                      subst eo22
                      have p196 : 0 ≤ (x12_1 : Int) := of_decide_eq_true (by first | (with_reducible assumption) | assumption)
                      have q196 : x12_1 < (t193.length : Int) := of_decide_eq_true (by first | (with_reducible assumption) | assumption)
                      obtain ⟨ad196, e196, hx196_0⟩ := Kd.at_int (Kd.R_reads' HO_11.out).2.2 x12_1 p196 q196
                      cases e196
                      replace p196 := eq_true p196
                      replace q196 := eq_true q196
                      obtain ⟨Ao23, co23, eo23⟩ := Kd.R_slice HO_9.out
                      subst eo23
                      obtain ⟨Ao24, co24, eo24⟩ := Kd.R_slice HO_10.out
                      subst eo24
                      go_wp2_with (first | ((with_reducible refine gate_callee (f := 50) rfl ?_); refine goesL_ (some 42) rfl rfl Try.func50 (by kernel_rfl) rfl #[.slice Ao23 x9_1.length co23, .slice Ao24 t190.length co24, .int .i64 (rd t193 x12_1)] rfl (by (try simp only [List.map_toArray, List.map_cons, List.map_nil]); first | done | rfl | (simp only [List.length_drop, List.length_take]; rfl)) ?_; (with_reducible refine (tartanref07_place.calls k1 _ _ x9_1 _ _ t190 (rd t193 x12_1) t197 _ ?side1 ?side2 ?side3 ?side4 A14.out).mono ?_); (case side1 => repeat (first | exact (Kd.R_reads' HO_9.out).2.2 | (with_reducible refine Kd.C_alloc ?_ _) | (with_reducible refine Kd.C_drewN ?_ _) | (with_reducible refine Kd.C_drew ?_))); (case side2 => exact (Kd.R_reads' HO_9.out).2.1); (case side3 => repeat (first | exact (Kd.R_reads' HO_10.out).2.2 | (with_reducible refine Kd.C_alloc ?_ _) | (with_reducible refine Kd.C_drewN ?_ _) | (with_reducible refine Kd.C_drew ?_))); (case side4 => exact (Kd.R_reads' HO_10.out).2.1); rintro e w' ⟨rfl, ⟨nd, rfl⟩⟩; refine ⟨_, rfl, ?_⟩) | ((with_reducible refine gate_dst (N := 43) rfl ?_); refine Kd.R_lit k37 _ 37 ?hg (N := 43) ?hd (xs := ([] : List (S37))) (inner := []) (ok := fun _ => True) (okp := fun _ => True) ?hr ?hp (fun _ hk => hk) trivial (Below.refl _ _) (Nat.le_refl _) (by simp) ?_; (case hd => rfl); (case hg => rfl); (case hr => first | (go_simp; done) | (go_simp; rfl)); (case hp => exact (Reps.none _ _)); intro v199 w25 ho26 hb hg_ hnew_; clear hg_ hnew_; (first | rw [← Ny198.out] at ho26 | (simp only [Int.reduceToNat] at ho26; rw [← Ny198.out] at ho26)); have n0_ := Aside0.mk (Kd.R_elder' (by (with_reducible repeat (first | apply Kd.R_alloc | apply Kd.R_drewN | apply Kd.R_drew)); exact HO_9.out) (Kd.R_base ho26) hb); have n1_ := Aside0.mk (Kd.R_below (by (with_reducible repeat (first | apply Kd.R_alloc | apply Kd.R_drewN | apply Kd.R_drew)); exact HO_10.out) hb); have n2_ := Aside0.mk (Kd.R_below (by (with_reducible repeat (first | apply Kd.R_alloc | apply Kd.R_drewN | apply Kd.R_drew)); exact HO_11.out) hb); have n3_ := Aside0.mk (Kd.R_lower (Kd.R_new' ho26 (Kd.R_lt (by (with_reducible repeat (first | apply Kd.R_alloc | apply Kd.R_drewN | apply Kd.R_drew)); exact HO_9.out))) (below_size (by repeat (first | (with_reducible first | exact HB.out | apply below_alloc | apply pw_below_drewN | apply below_drew1) | exact HB.out)))); have n4_ := Aside0.mk (below_step (by repeat (first | (with_reducible first | exact HB.out | apply below_alloc | apply pw_below_drewN | apply below_drew1) | exact HB.out)) hb); clear HO_9; clear HO_10; clear HO_11; clear HB; have HO_9 := n0_; have HO_10 := n1_; have HO_11 := n2_; have HO200 := n3_; have HB := n4_; clear n0_ n1_ n2_ n3_ n4_; clear hb ho26; have q27 : (t197 : Int) ≤ ((x9_1.length : Int) : Int) := of_decide_eq_true (by first | (with_reducible assumption) | assumption); obtain ⟨i027, hi027, _, hsz27, _⟩ := info_parts info37; have hroom27 : x9_1.length ≤ co23 := (Kd.R_reads' HO_9.out).2.1; have hC27 : Kd.C k37 _ Ao23 x9_1.length x9_1 := (Kd.R_reads' HO_9.out).2.2; have hcut27 := cut_to (P := Try.prog) 22 37 .i64 Try.underlying22 hi027 Ao23 x9_1.length co23 t197 (of_decide_eq_true (by first | (with_reducible assumption) | assumption)) q27 hroom27; have hr27 := Kd.C_take (m := (t197 : Int).toNat) hC27 (by omega); have hy27 : y201.length = (t197 : Int).toNat := (by rw [Ny201.out, List.length_take]; omega); rw [← Ny201.out] at hr27; rw [← hy27] at hcut27; have HR204 := Aside0.mk hr27; have HC204 := Aside0.mk (show y201.length ≤ co23 from by omega); clear hr27 hC27 hroom27 hi027 hsz27; have KY27 := Aside0.mk hy27; clear hy27; have KL27 := Aside0.mk (show (t197 : Int).toNat ≤ x9_1.length from by omega); replace q27 := eq_true q27) | ((with_reducible refine gate_builtin (b := .append) (xs := #[.tmp 43, .tmp 46]) rfl ?_); at_builtin; refine Kd.R_append_rows k37 (w0 := w) w.heap.size rfl (.tmp 43) (.tmp 46) 22 37 (.agg #[(.int .i64 0), (.int .i64 0)]) 16 rfl Try.underlying22 info37 rfl (by decide) (by omega) v199 y198 y201 _ _ _ (fun k_ => some k_ ≠ (.slice Ao23 x9_1.length co23 : Value).ownBlock) (fun _ => False) rfl rfl ?aO ?aR (fun _ _ h => h) (fun _ h => h.elim) ?aF ?aB ?aS ?aL ?_; (case aR => repeat (first | exact (by repeat (first | (with_reducible exact HR204.out) | (with_reducible refine Kd.C_alloc ?_ _) | (with_reducible refine Kd.C_drewN ?_ _) | (with_reducible refine Kd.C_drew ?_) | exact HR204.out)) | (with_reducible refine Kd.C_alloc ?_ _) | (with_reducible refine Kd.C_drewN ?_ _) | (with_reducible refine Kd.C_drew ?_))); (case aB => exact (by repeat (first | (with_reducible first | exact HB.out | apply below_alloc | apply pw_below_drewN | apply below_drew1) | exact HB.out))); (case aF => exact (fun k_ hk => Kd.fresh' (Kd.R_lt (by (with_reducible repeat (first | apply Kd.R_alloc | apply Kd.R_drewN | apply Kd.R_drew)); exact HO_9.out)) k_ hk)); (case aO => exact (by (with_reducible repeat (first | apply Kd.R_alloc | apply Kd.R_drewN | apply Kd.R_drew)); exact Kd.R_mono HO200.out (fun _ hk => hk.2))); (case aS => exact (below_size (by repeat (first | (with_reducible first | exact HB.out | apply below_alloc | apply pw_below_drewN | apply below_drew1) | exact HB.out)))); (case aL => have := LMc17.out; omega); intro v206 w28 ho hb hg hat; rw [← Ny205.out] at ho; have n0_ := Aside0.mk (Kd.R_after (ok := (fun _ => True)) (by (with_reducible repeat (first | apply Kd.R_alloc | apply Kd.R_drewN | apply Kd.R_drew)); exact HO_9.out) hg hat); have n1_ := Aside0.mk (Kd.R_over' (by (with_reducible repeat (first | apply Kd.R_alloc | apply Kd.R_drewN | apply Kd.R_drew)); exact HO_10.out) (Kd.R_typed (by (with_reducible repeat (first | apply Kd.R_alloc | apply Kd.R_drewN | apply Kd.R_drew)); exact HO200.out)) (by decide) hg); have n2_ := Aside0.mk (Kd.R_over' (by (with_reducible repeat (first | apply Kd.R_alloc | apply Kd.R_drewN | apply Kd.R_drew)); exact HO_11.out) (Kd.R_typed (by (with_reducible repeat (first | apply Kd.R_alloc | apply Kd.R_drewN | apply Kd.R_drew)); exact HO200.out)) (by decide) hg); have n3_ := Aside0.mk (hb); have n4_ := Aside0.mk ((show Kd.C k37 w28 Ao23 y201.length y201 from by rw [Ny201.out]; exact Kd.C_take (m := (t197 : Int).toNat) ((Kd.R_reads' (Kd.R_after (ok := (fun _ => True)) (by (with_reducible repeat (first | apply Kd.R_alloc | apply Kd.R_drewN | apply Kd.R_drew)); exact HO_9.out) hg hat)).2.2) KL27.out)); have n5_ := Aside0.mk (ho); clear HO_9; clear HO_10; clear HO_11; clear HB; clear HR204; clear HO200; have HO_9 := n0_; have HO_10 := n1_; have HO_11 := n2_; have HB := n3_; have HR204 := n4_; have HO207 := n5_; clear n0_ n1_ n2_ n3_ n4_ n5_; clear ho hb hg hat; have p208 : 0 ≤ (x12_1 : Int) := of_decide_eq_true (by first | (with_reducible assumption) | assumption); have q208 : x12_1 < (t193.length : Int) := of_decide_eq_true (by first | (with_reducible assumption) | assumption); obtain ⟨ad208, e208, hx208_0⟩ := Kd.at_int (Kd.R_reads' HO_11.out).2.2 x12_1 p208 q208; obtain rfl : ad196 = ad208 := (by injection e208); replace p208 := eq_true p208; replace q208 := eq_true q208) | ((with_reducible refine gate_builtin (b := .append) (xs := #[.tmp 48, .tmp 54]) rfl ?_); at_builtin; refine Kd.R_append k37 (w0 := w) w.heap.size rfl (.tmp 48) (.tmp 54) 22 37 (.agg #[(.int .i64 0), (.int .i64 0)]) 16 rfl Try.underlying22 info37 rfl (by decide) (by omega) v206 y205 (⟨rd t193 x12_1, (-1)⟩ : S37) [.int .i64 (rd t193 x12_1), .int .i64 (-1)] (fun k_ => some k_ ≠ (.slice Ao23 x9_1.length co23 : Value).ownBlock) (fun _ => False) rfl rfl ?aP (fun _ hk => hk.elim) ?aF ?aO ?aB ?aS ?aL ?_; (case aP => exact k37_mkM _ _ _ (⟨rd t193 x12_1, (-1)⟩ : S37)); (case aB => exact (by repeat (first | (with_reducible first | exact HB.out | apply below_alloc | apply pw_below_drewN | apply below_drew1) | exact HB.out))); (case aF => exact (fun k_ hk => Kd.fresh' (Kd.R_lt (by (with_reducible repeat (first | apply Kd.R_alloc | apply Kd.R_drewN | apply Kd.R_drew)); exact HO_9.out)) k_ hk)); (case aO => exact (by (with_reducible repeat (first | apply Kd.R_alloc | apply Kd.R_drewN | apply Kd.R_drew)); exact HO207.out)); (case aS => exact (below_size (by repeat (first | (with_reducible first | exact HB.out | apply below_alloc | apply pw_below_drewN | apply below_drew1) | exact HB.out)))); (case aL => have := LMc18.out; omega); intro v210 w29 ho hb hg hat; rw [← Ny209.out] at ho; have n0_ := Aside0.mk (Kd.R_after (ok := (fun _ => True)) (by (with_reducible repeat (first | apply Kd.R_alloc | apply Kd.R_drewN | apply Kd.R_drew)); exact HO_9.out) hg hat); have n1_ := Aside0.mk (Kd.R_over' (by (with_reducible repeat (first | apply Kd.R_alloc | apply Kd.R_drewN | apply Kd.R_drew)); exact HO_10.out) (Kd.R_typed (by (with_reducible repeat (first | apply Kd.R_alloc | apply Kd.R_drewN | apply Kd.R_drew)); exact HO207.out)) (by decide) hg); have n2_ := Aside0.mk (Kd.R_over' (by (with_reducible repeat (first | apply Kd.R_alloc | apply Kd.R_drewN | apply Kd.R_drew)); exact HO_11.out) (Kd.R_typed (by (with_reducible repeat (first | apply Kd.R_alloc | apply Kd.R_drewN | apply Kd.R_drew)); exact HO207.out)) (by decide) hg); have n3_ := Aside0.mk (hb); have n4_ := Aside0.mk ((show Kd.C k37 w29 Ao23 y201.length y201 from by rw [Ny201.out]; exact Kd.C_take (m := (t197 : Int).toNat) ((Kd.R_reads' (Kd.R_after (ok := (fun _ => True)) (by (with_reducible repeat (first | apply Kd.R_alloc | apply Kd.R_drewN | apply Kd.R_drew)); exact HO_9.out) hg hat)).2.2) KL27.out)); have n5_ := Aside0.mk (ho); clear HO_9; clear HO_10; clear HO_11; clear HB; clear HR204; clear HO207; have HO_9 := n0_; have HO_10 := n1_; have HO_11 := n2_; have HB := n3_; have HR204 := n4_; have HO211 := n5_; clear n0_ n1_ n2_ n3_ n4_ n5_; clear ho hb hg hat; have q30 : (t197 : Int) ≤ ((x9_1.length : Int) : Int) := of_decide_eq_true (by first | (with_reducible assumption) | assumption); obtain ⟨i030, hi030, _, hsz30, _⟩ := info_parts info37; have hroom30 : x9_1.length ≤ co23 := (Kd.R_reads' HO_9.out).2.1; have hC30 : Kd.C k37 _ Ao23 x9_1.length x9_1 := (Kd.R_reads' HO_9.out).2.2; have q030 : (0 : Int) ≤ (t197 : Int) := of_decide_eq_true (by first | (with_reducible assumption) | assumption); have hcut30 := cut_from (P := Try.prog) 22 37 .i64 Try.underlying22 hi030 2 hsz30 Ao23 x9_1.length co23 t197 q030 q30; have hr30 := Kd.C_drop (m := (t197 : Int).toNat) (c := co23) hC30 (by omega) hroom30; obtain ⟨A30, hA30⟩ : ∃ A1, A1 = (if co23 = (t197 : Int).toNat then Ao23 else (Ao23 : Option Addr).map (·.add ((t197 : Int).toNat * 2))) := ⟨_, rfl⟩; obtain ⟨c30, hc30⟩ : ∃ c1, c1 = co23 - (t197 : Int).toNat := ⟨_, rfl⟩; have hy30 : y212.length = x9_1.length - (t197 : Int).toNat := (by rw [Ny212.out, List.length_drop] <;> omega); rw [show (x9_1).drop (t197 : Int).toNat = y212 from Ny212.out.symm] at hr30; replace hr30 : Kd.C k37 _ A30 y212.length y212 := (by rw [hA30]; exact hr30); rw [← hy30, ← hA30, ← hc30] at hcut30; have HR215 := Aside0.mk hr30; have HC215 := Aside0.mk (show y212.length ≤ c30 from by rw [hy30, hc30]; exact Nat.sub_le_sub_right hroom30 _); clear hr30 hC30 hroom30 hi030 hsz30 hc30; have KY30 := Aside0.mk hy30; have KA30 := Aside0.mk hA30; clear hy30 hA30; have KL30 := Aside0.mk (show (t197 : Int).toNat ≤ x9_1.length from by omega); replace q30 := eq_true q30) | ((with_reducible refine gate_builtin (b := .append) (xs := #[.tmp 56, .tmp 59]) rfl ?_); at_builtin; refine Kd.R_append_rows k37 (w0 := w) w.heap.size rfl (.tmp 56) (.tmp 59) 22 37 (.agg #[(.int .i64 0), (.int .i64 0)]) 16 rfl Try.underlying22 info37 rfl (by decide) (by omega) v210 y209 y212 _ _ _ (fun k_ => some k_ ≠ (.slice Ao23 x9_1.length co23 : Value).ownBlock) (fun _ => False) rfl rfl ?aO ?aR (fun _ _ h => h) (fun _ h => h.elim) ?aF ?aB ?aS ?aL ?_; (case aR => repeat (first | exact (by repeat (first | (with_reducible exact HR215.out) | (with_reducible refine Kd.C_alloc ?_ _) | (with_reducible refine Kd.C_drewN ?_ _) | (with_reducible refine Kd.C_drew ?_) | exact HR215.out)) | (with_reducible refine Kd.C_alloc ?_ _) | (with_reducible refine Kd.C_drewN ?_ _) | (with_reducible refine Kd.C_drew ?_))); (case aB => exact (by repeat (first | (with_reducible first | exact HB.out | apply below_alloc | apply pw_below_drewN | apply below_drew1) | exact HB.out))); (case aF => exact (fun k_ hk => Kd.fresh' (Kd.R_lt (by (with_reducible repeat (first | apply Kd.R_alloc | apply Kd.R_drewN | apply Kd.R_drew)); exact HO_9.out)) k_ hk)); (case aO => exact (by (with_reducible repeat (first | apply Kd.R_alloc | apply Kd.R_drewN | apply Kd.R_drew)); exact HO211.out)); (case aS => exact (below_size (by repeat (first | (with_reducible first | exact HB.out | apply below_alloc | apply pw_below_drewN | apply below_drew1) | exact HB.out)))); (case aL => have := LMc21.out; omega); intro v217 w31 ho hb hg hat; rw [← Ny216.out] at ho; have n0_ := Aside0.mk (Kd.R_after (ok := (fun _ => True)) (by (with_reducible repeat (first | apply Kd.R_alloc | apply Kd.R_drewN | apply Kd.R_drew)); exact HO_9.out) hg hat); have n1_ := Aside0.mk (Kd.R_over' (by (with_reducible repeat (first | apply Kd.R_alloc | apply Kd.R_drewN | apply Kd.R_drew)); exact HO_10.out) (Kd.R_typed (by (with_reducible repeat (first | apply Kd.R_alloc | apply Kd.R_drewN | apply Kd.R_drew)); exact HO211.out)) (by decide) hg); have n2_ := Aside0.mk (Kd.R_over' (by (with_reducible repeat (first | apply Kd.R_alloc | apply Kd.R_drewN | apply Kd.R_drew)); exact HO_11.out) (Kd.R_typed (by (with_reducible repeat (first | apply Kd.R_alloc | apply Kd.R_drewN | apply Kd.R_drew)); exact HO211.out)) (by decide) hg); have n3_ := Aside0.mk (hb); have n4_ := Aside0.mk ((show Kd.C k37 w31 Ao23 y201.length y201 from by rw [Ny201.out]; exact Kd.C_take (m := (t197 : Int).toNat) ((Kd.R_reads' (Kd.R_after (ok := (fun _ => True)) (by (with_reducible repeat (first | apply Kd.R_alloc | apply Kd.R_drewN | apply Kd.R_drew)); exact HO_9.out) hg hat)).2.2) KL27.out)); have n5_ := Aside0.mk ((show Kd.C k37 w31 A30 y212.length y212 from by rw [Ny212.out, KA30.out]; exact Kd.C_drop (m := (t197 : Int).toNat) (c := co23) ((Kd.R_reads' (Kd.R_after (ok := (fun _ => True)) (by (with_reducible repeat (first | apply Kd.R_alloc | apply Kd.R_drewN | apply Kd.R_drew)); exact HO_9.out) hg hat)).2.2) KL30.out ((Kd.R_reads' (Kd.R_after (ok := (fun _ => True)) (by (with_reducible repeat (first | apply Kd.R_alloc | apply Kd.R_drewN | apply Kd.R_drew)); exact HO_9.out) hg hat)).2.1))); have n6_ := Aside0.mk (ho); clear HO_9; clear HO_10; clear HO_11; clear HB; clear HR204; clear HR215; clear HO211; have HO_9 := n0_; have HO_10 := n1_; have HO_11 := n2_; have HB := n3_; have HR204 := n4_; have HR215 := n5_; have HO218 := n6_; clear n0_ n1_ n2_ n3_ n4_ n5_ n6_; clear ho hb hg hat))
                      go_roundg k1
                      case measure => have := HK1.out; omega
                      case rel => exact ⟨(y216), (wrap64 (x12_1 + 1)), (by first | rfl | (simp; done) | (simp [*]; done)), H', ⟨by have := HK1.out; omega⟩, ⟨by (with_reducible repeat (first | apply Kd.R_alloc | apply Kd.R_drewN | apply Kd.R_drew)); exact Kd.R_mono HO218.out (fun _ hk => trivial)⟩, ⟨by (with_reducible repeat (first | apply Kd.R_alloc | apply Kd.R_drewN | apply Kd.R_drew)); exact HO_10.out⟩, ⟨by (with_reducible repeat (first | apply Kd.R_alloc | apply Kd.R_drewN | apply Kd.R_drew)); exact HO_11.out⟩, ⟨by repeat (first | (with_reducible first | exact HB.out | apply below_alloc | apply pw_below_drewN | apply below_drew1) | exact HB.out)⟩⟩
                    · rw [if_neg c21] at H
                      exact absurd H (by simp)
                  · rw [if_neg c18] at H
                    exact absurd H (by simp)
                · rw [if_neg c17] at H
                  exact absurd H (by simp)
              · rw [if_neg c16] at H
                exact absurd H (by simp)
            · rw [if_neg c15] at H
              exact absurd H (by simp)
          · rw [if_neg c13] at H
            exact absurd H (by simp)
        · rw [if_neg c12] at H
          have c12b0 : decide (x12_1 < (t193.length : Int)) = false := decide_eq_false c12
          clear c12
          simp only [Option.some.injEq, Prod.mk.injEq] at H
          obtain ⟨rfl, rfl⟩ := H
          obtain ⟨Ao32, co32, eo32⟩ := Kd.R_slice HO_11.out
          subst eo32
          go_wp2
          go_ret2
          exact ⟨_, by first | rfl | (simp [errW_none, errW_some] <;> rfl) | (simp [*, errW_none, errW_some] <;> rfl), by (with_reducible repeat (first | apply Kd.R_alloc | apply Kd.R_drewN | apply Kd.R_drew)); exact HO_9.out, by repeat (first | (with_reducible first | exact HB.out | apply below_alloc | apply pw_below_drewN | apply below_drew1) | exact HB.out)⟩
  · rw [if_neg c5] at H
    have c5b0 : (t186 == 0) = false := beq_eq_false_iff_ne.mpr c5
    have c5b1 : (t186 != 0) = true := bne_iff_ne.mpr c5
    simp only [Option.some.injEq, Prod.mk.injEq] at H
    obtain ⟨rfl, rfl⟩ := H
    go_enter Try.func32, Try.ntmps32
    go_wp2_with (first | ((with_reducible refine gate_callee (f := 17) rfl ?_); refine goesL_ (some 18) rfl rfl Try.func17 (by kernel_rfl) rfl #[.slice A0 l0.length c0, .int .i64 a1, .int .i64 a2] rfl (by (try simp only [List.map_toArray, List.map_cons, List.map_nil]); first | done | rfl | (simp only [List.length_drop, List.length_take]; rfl)) ?_; (with_reducible refine (tartanref06_Check.calls k _ _ l0 a1 a2 t186 _ ?side1 ?side2 A4.out).mono ?_); (case side1 => repeat (first | exact HR0.out | (with_reducible refine Kd.C_alloc ?_ _) | (with_reducible refine Kd.C_drewN ?_ _) | (with_reducible refine Kd.C_drew ?_))); (case side2 => exact HC0.out); rintro e w' ⟨rfl, ⟨nd, rfl⟩⟩; refine ⟨_, rfl, ?_⟩))
    go_ret2
    exact ⟨_, by first | rfl | (simp [errW_none, errW_some] <;> rfl) | (simp [*, errW_none, errW_some] <;> rfl), by first | exact Kd.R_nil _ _ _ _ _ | exact Kd.N_nil _ _ _ _ _ | exact Kd.V_nil _ _ _ _ _ | exact Kd.Q_nil _ _ _ _ _ | exact Kd.S_nil _ _ _ _ _, by repeat (first | (with_reducible first | exact HB.out | apply below_alloc | apply pw_below_drewN | apply below_drew1) | exact HB.out)⟩

end Go.Proofs.Ytphmnjapjalfgaa.X
