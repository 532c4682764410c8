-- by pr.py, round the kit's print (a twelfth state) out of the translation. Not trusted: Lean checks it.
import Derived.Test.YtchpgkojlhipgaaX0
namespace Go.Proofs.Ytchpgkojlhipgaa.X
open Go.RowKit Go.Proofs.YtchpgkojlhipgaaW.PrintWords Go.Proofs.YtchpgkojlhipgaaW.PrintLast Go.Proofs.YtchpgkojlhipgaaW.PrintMore
attribute [local go_sem] max2_int min2_int max_two min_two max_three min_three max_four min_four   -- for this text's walks alone
set_option linter.unusedVariables false
set_option linter.unusedSimpArgs false

/-! ### tartanref03_Few: function 54 -/
mutual
def tartanref03_Few.l0 : Nat → List (List ByteArray) → Int → Int → Option (Bool)
  | 0, _, _, _ => none
  | k + 1, x0, x3, x4 => if x4 < (x0.length : Int) then (if 0 ≤ x4 then (if ((rd_L2 x0 x4).length : Int) > 60 then (some false) else (tartanref03_Few.l1 k x0 x3 x4 0)) else (none)) else (some true)
def tartanref03_Few.l1 : Nat → List (List ByteArray) → Int → Int → Int → Option (Bool)
  | 0, _, _, _, _ => none
  | k + 1, x0, x3, x4, x5 => if 0 ≤ x4 then (if x4 < (x0.length : Int) then (if x5 < ((rd_L2 x0 x4).length : Int) then (if 0 ≤ x5 then (if (wrap64 ((wrap64 (x3 + ((rdOf ByteArray.empty (rd_L2 x0 x4) x5).size : Int))) + 1)) > 8000 then (some false) else (tartanref03_Few.l1 k x0 (wrap64 ((wrap64 (x3 + ((rdOf ByteArray.empty (rd_L2 x0 x4) x5).size : Int))) + 1)) x4 (wrap64 (x5 + 1)))) else (none)) else (tartanref03_Few.l0 k x0 x3 (wrap64 (x4 + 1)))) else (none)) else (none)
end
def tartanref03_Few.f (k : Nat) (l0 : List (List ByteArray)) : Option (Bool) := if (l0.length : Int) > 60 then (some false) else (tartanref03_Few.l0 k l0 0 0)
theorem tartanref03_Few.mono_l : ∀ k, (∀ y0 y1 y2, LeO (tartanref03_Few.l0 k y0 y1 y2) (tartanref03_Few.l0 (k + 1) y0 y1 y2)) ∧ (∀ y0 y1 y2 y3, LeO (tartanref03_Few.l1 k y0 y1 y2 y3) (tartanref03_Few.l1 (k + 1) y0 y1 y2 y3))
  | 0 => ⟨fun _ _ _ r h => by simp [tartanref03_Few.l0] at h, fun _ _ _ _ r h => by simp [tartanref03_Few.l1] at h⟩
  | k + 1 => by
    obtain ⟨ih0, ih1⟩ := tartanref03_Few.mono_l k
    refine ⟨?_, ?_⟩
    · intro y0 y1 y2
      unfold tartanref03_Few.l0
      repeat' first
      | (with_reducible exact ih0 _ _ _)
      | (with_reducible exact ih1 _ _ _ _)
      | (with_reducible exact LeO.refl _)
      | (with_reducible exact LeO.none _)
      | (with_reducible refine LeO.ite ?_ ?_)
      | (with_reducible refine LeO.bind ?_ (fun _ => ?_))
      | exact ih0 _ _ _
      | exact ih1 _ _ _ _
      | exact LeO.none _
      | refine LeO.ite ?_ ?_
      | refine LeO.bind ?_ (fun _ => ?_)
    · intro y0 y1 y2 y3
      unfold tartanref03_Few.l1
      repeat' first
      | (with_reducible exact ih0 _ _ _)
      | (with_reducible exact ih1 _ _ _ _)
      | (with_reducible exact LeO.refl _)
      | (with_reducible exact LeO.none _)
      | (with_reducible refine LeO.ite ?_ ?_)
      | (with_reducible refine LeO.bind ?_ (fun _ => ?_))
      | exact ih0 _ _ _
      | exact ih1 _ _ _ _
      | exact LeO.none _
      | refine LeO.ite ?_ ?_
      | refine LeO.bind ?_ (fun _ => ?_)
theorem tartanref03_Few.mono : ∀ a0 k, LeO (tartanref03_Few.f k a0) (tartanref03_Few.f (k + 1) a0) := by
  intro a0 k
  obtain ⟨ih0, ih1⟩ := tartanref03_Few.mono_l k
  unfold tartanref03_Few.f
  repeat' first
      | (with_reducible exact ih0 _ _ _)
      | (with_reducible exact ih1 _ _ _ _)
      | (with_reducible exact LeO.refl _)
      | (with_reducible exact LeO.none _)
      | (with_reducible refine LeO.ite ?_ ?_)
      | (with_reducible refine LeO.bind ?_ (fun _ => ?_))
      | exact ih0 _ _ _
      | exact ih1 _ _ _ _
      | exact LeO.none _
      | refine LeO.ite ?_ ?_
      | refine LeO.bind ?_ (fun _ => ?_)
set_option maxHeartbeats 8000000 in
set_option maxRecDepth 100000 in
theorem tartanref03_Few.calls (k : Nat) (A0 : Option Addr) (c0 : Nat) (l0 : List (List ByteArray)) (r : Bool) (w : World) (hr0 : Kd.C (Kd.slice 9 Kd.string) w A0 l0.length l0) (hc0 : l0.length ≤ c0) (h : tartanref03_Few.f k l0 = some r) :
    Calls Try.prog 54 #[.slice A0 l0.length c0] w fun e w' => e = .returned (.bool r) ∧ Drawn0 w w' := by
  have HR0 := Aside0.mk hr0
  have HC0 := Aside0.mk hc0
  clear hr0 hc0
  have H : (if (l0.length : Int) > 60 then (some false) else (tartanref03_Few.l0 k l0 0 0)) = some r := h
  clear h
  by_cases c2 : (l0.length : Int) > 60
  · rw [if_pos c2] at H
    have c2b0 : decide (60 < (l0.length : Int)) = true := decide_eq_true c2
    have c2b1 : decide (60 < l0.length) = true := decide_eq_true (by omega)
    clear c2
    obtain rfl := Option.some.inj H
    go_enter Try.func54, Try.ntmps54
    go_wp2
    go_ret
    exact ⟨by first | rfl | (simp; done) | (simp [*]; done), by repeat (first | exact Drawn0.refl _ | apply Drawn0.step)⟩
  · rw [if_neg c2] at H
    have c2b0 : decide (60 < (l0.length : Int)) = false := decide_eq_false c2
    have c2b1 : decide (60 < l0.length) = false := decide_eq_false (by omega)
    clear c2
    have H' := Aside0.mk H
    clear H
    go_enter Try.func54, Try.ntmps54
    go_wp2
    go_loopg [3, 4] k (fun kq v3 v4 w' => ∃ (x3_1 : Int) (x4_1 : Int), v3 = .int .i64 x3_1 ∧ v4 = .int .i64 x4_1 ∧ Aside0 (tartanref03_Few.l0 kq l0 x3_1 x4_1 = some r) ∧ Aside0 (kq ≤ k) ∧ Drawn0 w w')
    case atStart => exact ⟨(0), (0), (by first | rfl | (simp; done) | (simp [*]; done)), (by first | rfl | (simp; done) | (simp [*]; done)), H', ⟨Nat.le_refl _⟩, by repeat (first | exact Drawn0.refl _ | apply Drawn0.step)⟩
    case round =>
      clear H'
      try clear c2
      try clear c2b0
      try clear c2b1
      try clear p2
      obtain ⟨x3_1, x4_1, rfl, rfl, HA, HK1, ⟨m1, rfl⟩⟩ := hrel
      cases gk with
      | zero => exact absurd HA.out (by simp [tartanref03_Few.l0])
      | succ k1 =>
        have H := HA.out
        clear HA
        simp only [tartanref03_Few.l0] at H
        by_cases c3 : x4_1 < (l0.length : Int)
        · rw [if_pos c3] at H
          have c3b0 : decide (x4_1 < (l0.length : Int)) = true := decide_eq_true c3
          clear c3
          by_cases c4 : 0 ≤ x4_1
          · rw [if_pos c4] at H
            have c4b0 : decide (0 ≤ x4_1) = true := decide_eq_true c4
            clear c4
            by_cases c5 : ((rd_L2 l0 x4_1).length : Int) > 60
            · rw [if_pos c5] at H
              have c5b0 : decide (60 < ((rd_L2 l0 x4_1).length : Int)) = true := decide_eq_true c5
              have c5b1 : decide (60 < (rd_L2 l0 x4_1).length) = true := decide_eq_true (by omega)
              clear c5
              obtain rfl := Option.some.inj H
              have p178 : 0 ≤ (x4_1 : Int) := of_decide_eq_true (by first | (with_reducible assumption) | assumption)
              have q178 : x4_1 < (l0.length : Int) := of_decide_eq_true (by first | (with_reducible assumption) | assumption)
              obtain ⟨ad178, A178_0, c178_0, e178, hx178_0, hl178_0, hi178_0⟩ := at_L2 HR0.out x4_1 p178 q178
              cases e178
              have HR178_0 := Aside0.mk hi178_0
              have HC178_0 := Aside0.mk hl178_0
              clear hi178_0 hl178_0
              replace p178 := eq_true p178
              replace q178 := eq_true q178
              go_wp2
              go_ret
              exact ⟨by first | rfl | (simp; done) | (simp [*]; done), by repeat (first | exact Drawn0.refl _ | apply Drawn0.step)⟩
            · rw [if_neg c5] at H
              have c5b0 : decide (60 < ((rd_L2 l0 x4_1).length : Int)) = false := decide_eq_false c5
              have c5b1 : decide (60 < (rd_L2 l0 x4_1).length) = false := decide_eq_false (by omega)
              clear c5
              have H' := Aside0.mk H
              clear H
              have p178 : 0 ≤ (x4_1 : Int) := of_decide_eq_true (by first | (with_reducible assumption) | assumption)
              have q178 : x4_1 < (l0.length : Int) := of_decide_eq_true (by first | (with_reducible assumption) | assumption)
              obtain ⟨ad178, A178_0, c178_0, e178, hx178_0, hl178_0, hi178_0⟩ := at_L2 HR0.out x4_1 p178 q178
              cases e178
              have HR178_0 := Aside0.mk hi178_0
              have HC178_0 := Aside0.mk hl178_0
              clear hi178_0 hl178_0
              replace p178 := eq_true p178
              replace q178 := eq_true q178
              go_wp2
              go_loopg [3, 5] k1 (fun kq v3 v5 w' => ∃ (x3_2 : Int) (x5_2 : Int), v3 = .int .i64 x3_2 ∧ v5 = .int .i64 x5_2 ∧ Aside0 (tartanref03_Few.l1 kq l0 x3_2 x4_1 x5_2 = some r) ∧ Aside0 (kq ≤ k1) ∧ Drawn0 w w')
              case atStart => exact ⟨(x3_1), (0), (by first | rfl | (simp; done) | (simp [*]; done)), (by first | rfl | (simp; done) | (simp [*]; done)), H', ⟨Nat.le_refl _⟩, by repeat (first | exact Drawn0.refl _ | apply Drawn0.step)⟩
              case round =>
                clear H'
                try clear c1
                try clear p1
                try clear q1
                try clear hx1
                try clear c2
                try clear c2b0
                try clear c2b1
                try clear p2
                try clear c3
                try clear c3b0
                try clear c4
                try clear c4b0
                try clear c5
                try clear c5b0
                try clear c5b1
                try clear hx178_0
                try clear p178
                try clear p2
                try clear q178
                obtain ⟨x3_2, x5_2, rfl, rfl, HA, HK2, ⟨m2, rfl⟩⟩ := hrel
                cases gk with
                | zero => exact absurd HA.out (by simp [tartanref03_Few.l1])
                | succ k2 =>
                  have H := HA.out
                  clear HA
                  simp only [tartanref03_Few.l1] at H
                  by_cases c6 : 0 ≤ x4_1
                  · rw [if_pos c6] at H
                    have c6b0 : decide (0 ≤ x4_1) = true := decide_eq_true c6
                    clear c6
                    by_cases c7 : x4_1 < (l0.length : Int)
                    · rw [if_pos c7] at H
                      have c7b0 : decide (x4_1 < (l0.length : Int)) = true := decide_eq_true c7
                      clear c7
                      by_cases c8 : x5_2 < ((rd_L2 l0 x4_1).length : Int)
                      · rw [if_pos c8] at H
                        have c8b0 : decide (x5_2 < ((rd_L2 l0 x4_1).length : Int)) = true := decide_eq_true c8
                        clear c8
                        by_cases c9 : 0 ≤ x5_2
                        · rw [if_pos c9] at H
                          have c9b0 : decide (0 ≤ x5_2) = true := decide_eq_true c9
                          clear c9
                          by_cases c10 : (wrap64 ((wrap64 (x3_2 + ((rdOf ByteArray.empty (rd_L2 l0 x4_1) x5_2).size : Int))) + 1)) > 8000
                          · rw [if_pos c10] at H
                            have c10b0 : decide (8000 < (wrap64 ((wrap64 (x3_2 + ((rdOf ByteArray.empty (rd_L2 l0 x4_1) x5_2).size : Int))) + 1))) = true := decide_eq_true c10
                            clear c10
                            obtain rfl := Option.some.inj H
                            have p179 : 0 ≤ (x4_1 : Int) := of_decide_eq_true (by first | (with_reducible assumption) | assumption)
                            have q179 : x4_1 < (l0.length : Int) := of_decide_eq_true (by first | (with_reducible assumption) | assumption)
                            obtain ⟨ad179, A179_0, c179_0, e179, hx179_0, hl179_0, hi179_0⟩ := at_L2 HR0.out x4_1 p179 q179
                            obtain rfl : ad178 = ad179 := (by injection e179)
                            have HR179_0 := Aside0.mk hi179_0
                            have HC179_0 := Aside0.mk hl179_0
                            clear hi179_0 hl179_0
                            replace p179 := eq_true p179
                            replace q179 := eq_true q179
                            have p180 : 0 ≤ (x4_1 : Int) := of_decide_eq_true (by first | (with_reducible assumption) | assumption)
                            have q180 : x4_1 < (l0.length : Int) := of_decide_eq_true (by first | (with_reducible assumption) | assumption)
                            obtain ⟨ad180, A180_0, c180_0, e180, hx180_0, hl180_0, hi180_0⟩ := at_L2 HR0.out x4_1 p180 q180
                            obtain rfl : ad178 = ad180 := (by injection e180)
                            have HR180_0 := Aside0.mk hi180_0
                            have HC180_0 := Aside0.mk hl180_0
                            clear hi180_0 hl180_0
                            replace p180 := eq_true p180
                            replace q180 := eq_true q180
                            have ea_ := Option.some.inj (hx179_0.symm.trans hx180_0)
                            injection ea_ with ea_ en_ ec_
                            subst ea_
                            subst ec_
                            clear en_
                            have p181 : 0 ≤ (x5_2 : Int) := of_decide_eq_true (by first | (with_reducible assumption) | assumption)
                            have q181 : x5_2 < ((rd_L2 l0 x4_1).length : Int) := of_decide_eq_true (by first | (with_reducible assumption) | assumption)
                            obtain ⟨ad181, e181, hx181_0⟩ := Kd.at_string HR180_0.out x5_2 p181 q181
                            cases e181
                            replace p181 := eq_true p181
                            replace q181 := eq_true q181
                            go_wp2
                            go_ret
                            exact ⟨by first | rfl | (simp; done) | (simp [*]; done), by repeat (first | exact Drawn0.refl _ | apply Drawn0.step)⟩
                          · rw [if_neg c10] at H
                            have c10b0 : decide (8000 < (wrap64 ((wrap64 (x3_2 + ((rdOf ByteArray.empty (rd_L2 l0 x4_1) x5_2).size : Int))) + 1))) = false := decide_eq_false c10
                            clear c10
                            have H' := Aside0.mk H
                            clear H
                            have p179 : 0 ≤ (x4_1 : Int) := of_decide_eq_true (by first | (with_reducible assumption) | assumption)
                            have q179 : x4_1 < (l0.length : Int) := of_decide_eq_true (by first | (with_reducible assumption) | assumption)
                            obtain ⟨ad179, A179_0, c179_0, e179, hx179_0, hl179_0, hi179_0⟩ := at_L2 HR0.out x4_1 p179 q179
                            obtain rfl : ad178 = ad179 := (by injection e179)
                            have HR179_0 := Aside0.mk hi179_0
                            have HC179_0 := Aside0.mk hl179_0
                            clear hi179_0 hl179_0
                            replace p179 := eq_true p179
                            replace q179 := eq_true q179
                            have p180 : 0 ≤ (x4_1 : Int) := of_decide_eq_true (by first | (with_reducible assumption) | assumption)
                            have q180 : x4_1 < (l0.length : Int) := of_decide_eq_true (by first | (with_reducible assumption) | assumption)
                            obtain ⟨ad180, A180_0, c180_0, e180, hx180_0, hl180_0, hi180_0⟩ := at_L2 HR0.out x4_1 p180 q180
                            obtain rfl : ad178 = ad180 := (by injection e180)
                            have HR180_0 := Aside0.mk hi180_0
                            have HC180_0 := Aside0.mk hl180_0
                            clear hi180_0 hl180_0
                            replace p180 := eq_true p180
                            replace q180 := eq_true q180
                            have ea_ := Option.some.inj (hx179_0.symm.trans hx180_0)
                            injection ea_ with ea_ en_ ec_
                            subst ea_
                            subst ec_
                            clear en_
                            have p181 : 0 ≤ (x5_2 : Int) := of_decide_eq_true (by first | (with_reducible assumption) | assumption)
                            have q181 : x5_2 < ((rd_L2 l0 x4_1).length : Int) := of_decide_eq_true (by first | (with_reducible assumption) | assumption)
                            obtain ⟨ad181, e181, hx181_0⟩ := Kd.at_string HR180_0.out x5_2 p181 q181
                            cases e181
                            replace p181 := eq_true p181
                            replace q181 := eq_true q181
                            go_wp2
                            go_roundg k2
                            case measure => have := HK1.out; have := HK2.out; omega
                            case rel => exact ⟨(wrap64 ((wrap64 (x3_2 + ((rdOf ByteArray.empty (rd_L2 l0 x4_1) x5_2).size : Int))) + 1)), (wrap64 (x5_2 + 1)), (by first | rfl | (simp; done) | (simp [*]; done)), (by first | rfl | (simp; done) | (simp [*]; done)), H', ⟨by have := HK1.out; have := HK2.out; omega⟩, by repeat (first | exact Drawn0.refl _ | apply Drawn0.step)⟩
                        · rw [if_neg c9] at H
                          exact absurd H (by simp)
                      · rw [if_neg c8] at H
                        have c8b0 : decide (x5_2 < ((rd_L2 l0 x4_1).length : Int)) = false := decide_eq_false c8
                        clear c8
                        have H' := Aside0.mk H
                        clear H
                        have p179 : 0 ≤ (x4_1 : Int) := of_decide_eq_true (by first | (with_reducible assumption) | assumption)
                        have q179 : x4_1 < (l0.length : Int) := of_decide_eq_true (by first | (with_reducible assumption) | assumption)
                        obtain ⟨ad179, A179_0, c179_0, e179, hx179_0, hl179_0, hi179_0⟩ := at_L2 HR0.out x4_1 p179 q179
                        obtain rfl : ad178 = ad179 := (by injection e179)
                        have HR179_0 := Aside0.mk hi179_0
                        have HC179_0 := Aside0.mk hl179_0
                        clear hi179_0 hl179_0
                        replace p179 := eq_true p179
                        replace q179 := eq_true q179
                        go_wp2
                        go_roundg k2
                        case measure => have := HK1.out; have := HK2.out; omega
                        case rel => exact ⟨(x3_2), (wrap64 (x4_1 + 1)), (by first | rfl | (simp; done) | (simp [*]; done)), (by first | rfl | (simp; done) | (simp [*]; done)), H', ⟨by have := HK1.out; have := HK2.out; omega⟩, by repeat (first | exact Drawn0.refl _ | apply Drawn0.step)⟩
                    · rw [if_neg c7] at H
                      exact absurd H (by simp)
                  · rw [if_neg c6] at H
                    exact absurd H (by simp)
          · rw [if_neg c4] at H
            exact absurd H (by simp)
        · rw [if_neg c3] at H
          have c3b0 : decide (x4_1 < (l0.length : Int)) = false := decide_eq_false c3
          clear c3
          obtain rfl := Option.some.inj H
          go_wp2
          go_ret
          exact ⟨by first | rfl | (simp; done) | (simp [*]; done), by repeat (first | exact Drawn0.refl _ | apply Drawn0.step)⟩

end Go.Proofs.Ytchpgkojlhipgaa.X
