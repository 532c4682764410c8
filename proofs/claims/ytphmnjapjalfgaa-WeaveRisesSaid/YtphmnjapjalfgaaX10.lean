-- by pr.py, round the kit's print (a twelfth state) out of the translation. Not trusted: Lean checks it.
import Derived.Test.YtphmnjapjalfgaaX0
import Derived.Test.YtphmnjapjalfgaaX1
import Derived.Test.YtphmnjapjalfgaaX2
import Derived.Test.YtphmnjapjalfgaaGOrder
import Derived.Test.YtphmnjapjalfgaaGPairs5
namespace Go.Proofs.Ytphmnjapjalfgaa.X
open Go.RowKit Go.Proofs.YtphmnjapjalfgaaW.PrintWords Go.Proofs.YtphmnjapjalfgaaW.PrintLast Go.Proofs.YtphmnjapjalfgaaW.PrintMore
attribute [local go_sem] max2_int min2_int max_two min_two max_three min_three max_four min_four   -- for this text's walks alone
set_option linter.unusedVariables false
set_option linter.unusedSimpArgs false

attribute [local go_sem high] eqA37
/-! ### tartanlaw07_WeaveRises: function 11 -/
mutual
def tartanlaw07_WeaveRises.j0 : Nat → List (S37) → Int → Int → Bool → Bool → Option (Bool)
  | 0, _, _, _, _, _ => none
  | k + 1, x0, x1, x2, x7, x29 => if x29 = true then (some x7) else ((weave_Order.f x0 x1 x2).bind fun bt230 => (if bt230.2 = 0 then ((pairs_Still.f x0).bind fun t234 => (tartanlaw07_WeaveRises.l0 k x0 x2 x7 bt230.1 t234 (-1) 0 0)) else (some x7)))
def tartanlaw07_WeaveRises.l0 : Nat → List (S37) → Int → Bool → List (S37) → List Int → Int → Int → Int → Option (Bool)
  | 0, _, _, _, _, _, _, _, _ => none
  | k + 1, x0, x2, x7, x8, x10, x11, x12, x13 => if x13 < (x8.length : Int) then (if 0 ≤ x13 then (if ((rd_T37 x8 x13).f1) ≥ 0 then (if ((rd_T37 x8 x13).f1) = x12 then (tartanlaw07_WeaveRises.j2 k x0 x2 x7 x8 x10 x11 (wrap64 (x12 + 1)) x13) else (some false)) else (tartanlaw07_WeaveRises.j2 k x0 x2 x7 x8 x10 x11 x12 x13)) else (none)) else (if x7 = true then (some (x12 == x2)) else (some false))
def tartanlaw07_WeaveRises.j2 : Nat → List (S37) → Int → Bool → List (S37) → List Int → Int → Int → Int → Option (Bool)
  | 0, _, _, _, _, _, _, _, _ => none
  | k + 1, x0, x2, x7, x8, x10, x11, x12, x13 => tartanlaw07_WeaveRises.l1 k x0 x2 x7 x8 x10 x11 x12 x13 false 0
def tartanlaw07_WeaveRises.l1 : Nat → List (S37) → Int → Bool → List (S37) → List Int → Int → Int → Int → Bool → Int → Option (Bool)
  | 0, _, _, _, _, _, _, _, _, _, _ => none
  | k + 1, x0, x2, x7, x8, x10, x11, x12, x13, x14, x15 => if x15 < (x10.length : Int) then (if x14 = true then (tartanlaw07_WeaveRises.l1 k x0 x2 x7 x8 x10 x11 x12 x13 true (wrap64 (x15 + 1))) else (if 0 ≤ x15 then (if (rd x10 x15) ≥ 0 then (if (rd x10 x15) < (x0.length : Int) then (if 0 ≤ (rd x10 x15) then (if 0 ≤ x13 then (if x13 < (x8.length : Int) then (tartanlaw07_WeaveRises.l1 k x0 x2 x7 x8 x10 x11 x12 x13 (((rd_T37 x0 (rd x10 x15)).f0) == ((rd_T37 x8 x13).f0) && (((rd_T37 x0 (rd x10 x15)).f1) == ((rd_T37 x8 x13).f1))) (wrap64 (x15 + 1))) else (none)) else (none)) else (none)) else (tartanlaw07_WeaveRises.l1 k x0 x2 x7 x8 x10 x11 x12 x13 false (wrap64 (x15 + 1)))) else (tartanlaw07_WeaveRises.l1 k x0 x2 x7 x8 x10 x11 x12 x13 false (wrap64 (x15 + 1)))) else (none))) else (if x14 = true then (tartanlaw07_WeaveRises.j4 k x0 x2 x7 x8 x10 x11 x12 x13 true) else (if 0 ≤ x13 then (if x13 < (x8.length : Int) then (tartanlaw07_WeaveRises.j4 k x0 x2 x7 x8 x10 x11 x12 x13 (decide (((rd_T37 x8 x13).f1) < 0))) else (none)) else (none)))
def tartanlaw07_WeaveRises.j4 : Nat → List (S37) → Int → Bool → List (S37) → List Int → Int → Int → Int → Bool → Option (Bool)
  | 0, _, _, _, _, _, _, _, _, _ => none
  | k + 1, x0, x2, x7, x8, x10, x11, x12, x13, x109 => if x109 = true then (if 0 ≤ x13 then (if x13 < (x8.length : Int) then (if ((rd_T37 x8 x13).f0) ≤ x11 then (some false) else (tartanlaw07_WeaveRises.l0 k x0 x2 x7 x8 x10 ((rd_T37 x8 x13).f0) x12 (wrap64 (x13 + 1)))) else (none)) else (none)) else (tartanlaw07_WeaveRises.l0 k x0 x2 x7 x8 x10 x11 x12 (wrap64 (x13 + 1)))
end
def tartanlaw07_WeaveRises.f (k : Nat) (l0 : List (S37)) (a1 : Int) (a2 : Int) : Option (Bool) := (tartanlaw07_works.f k).bind fun t229 => (if t229 = true then (if (l0.length : Int) > 60 then (tartanlaw07_WeaveRises.j0 k l0 a1 a2 t229 true) else (if a1 > 60 then (tartanlaw07_WeaveRises.j0 k l0 a1 a2 t229 true) else (tartanlaw07_WeaveRises.j0 k l0 a1 a2 t229 (decide (a2 > 60))))) else (some false))
theorem tartanlaw07_WeaveRises.mono_l : ∀ k, (∀ y0 y1 y2 y3 y4, LeO (tartanlaw07_WeaveRises.j0 k y0 y1 y2 y3 y4) (tartanlaw07_WeaveRises.j0 (k + 1) y0 y1 y2 y3 y4)) ∧ (∀ y0 y1 y2 y3 y4 y5 y6 y7, LeO (tartanlaw07_WeaveRises.l0 k y0 y1 y2 y3 y4 y5 y6 y7) (tartanlaw07_WeaveRises.l0 (k + 1) y0 y1 y2 y3 y4 y5 y6 y7)) ∧ (∀ y0 y1 y2 y3 y4 y5 y6 y7, LeO (tartanlaw07_WeaveRises.j2 k y0 y1 y2 y3 y4 y5 y6 y7) (tartanlaw07_WeaveRises.j2 (k + 1) y0 y1 y2 y3 y4 y5 y6 y7)) ∧ (∀ y0 y1 y2 y3 y4 y5 y6 y7 y8 y9, LeO (tartanlaw07_WeaveRises.l1 k y0 y1 y2 y3 y4 y5 y6 y7 y8 y9) (tartanlaw07_WeaveRises.l1 (k + 1) y0 y1 y2 y3 y4 y5 y6 y7 y8 y9)) ∧ (∀ y0 y1 y2 y3 y4 y5 y6 y7 y8, LeO (tartanlaw07_WeaveRises.j4 k y0 y1 y2 y3 y4 y5 y6 y7 y8) (tartanlaw07_WeaveRises.j4 (k + 1) y0 y1 y2 y3 y4 y5 y6 y7 y8))
  | 0 => ⟨fun _ _ _ _ _ r h => by simp [tartanlaw07_WeaveRises.j0] at h, fun _ _ _ _ _ _ _ _ r h => by simp [tartanlaw07_WeaveRises.l0] at h, fun _ _ _ _ _ _ _ _ r h => by simp [tartanlaw07_WeaveRises.j2] at h, fun _ _ _ _ _ _ _ _ _ _ r h => by simp [tartanlaw07_WeaveRises.l1] at h, fun _ _ _ _ _ _ _ _ _ r h => by simp [tartanlaw07_WeaveRises.j4] at h⟩
  | k + 1 => by
    obtain ⟨ih0, ih1, ih2, ih3, ih4⟩ := tartanlaw07_WeaveRises.mono_l k
    refine ⟨?_, ?_, ?_, ?_, ?_⟩
    · intro y0 y1 y2 y3 y4
      unfold tartanlaw07_WeaveRises.j0
      repeat' first
      | (with_reducible exact ih0 _ _ _ _ _)
      | (with_reducible exact ih1 _ _ _ _ _ _ _ _)
      | (with_reducible exact ih2 _ _ _ _ _ _ _ _)
      | (with_reducible exact ih3 _ _ _ _ _ _ _ _ _ _)
      | (with_reducible exact ih4 _ _ _ _ _ _ _ _ _)
      | (with_reducible exact tartanlaw07_works.mono _)
      | (with_reducible exact LeO.refl _)
      | (with_reducible exact LeO.none _)
      | (with_reducible refine LeO.ite ?_ ?_)
      | (with_reducible refine LeO.bind ?_ (fun _ => ?_))
      | exact ih0 _ _ _ _ _
      | exact ih1 _ _ _ _ _ _ _ _
      | exact ih2 _ _ _ _ _ _ _ _
      | exact ih3 _ _ _ _ _ _ _ _ _ _
      | exact ih4 _ _ _ _ _ _ _ _ _
      | exact tartanlaw07_works.mono _
      | exact LeO.none _
      | refine LeO.ite ?_ ?_
      | refine LeO.bind ?_ (fun _ => ?_)
    · intro y0 y1 y2 y3 y4 y5 y6 y7
      unfold tartanlaw07_WeaveRises.l0
      repeat' first
      | (with_reducible exact ih0 _ _ _ _ _)
      | (with_reducible exact ih1 _ _ _ _ _ _ _ _)
      | (with_reducible exact ih2 _ _ _ _ _ _ _ _)
      | (with_reducible exact ih3 _ _ _ _ _ _ _ _ _ _)
      | (with_reducible exact ih4 _ _ _ _ _ _ _ _ _)
      | (with_reducible exact tartanlaw07_works.mono _)
      | (with_reducible exact LeO.refl _)
      | (with_reducible exact LeO.none _)
      | (with_reducible refine LeO.ite ?_ ?_)
      | (with_reducible refine LeO.bind ?_ (fun _ => ?_))
      | exact ih0 _ _ _ _ _
      | exact ih1 _ _ _ _ _ _ _ _
      | exact ih2 _ _ _ _ _ _ _ _
      | exact ih3 _ _ _ _ _ _ _ _ _ _
      | exact ih4 _ _ _ _ _ _ _ _ _
      | exact tartanlaw07_works.mono _
      | exact LeO.none _
      | refine LeO.ite ?_ ?_
      | refine LeO.bind ?_ (fun _ => ?_)
    · intro y0 y1 y2 y3 y4 y5 y6 y7
      unfold tartanlaw07_WeaveRises.j2
      repeat' first
      | (with_reducible exact ih0 _ _ _ _ _)
      | (with_reducible exact ih1 _ _ _ _ _ _ _ _)
      | (with_reducible exact ih2 _ _ _ _ _ _ _ _)
      | (with_reducible exact ih3 _ _ _ _ _ _ _ _ _ _)
      | (with_reducible exact ih4 _ _ _ _ _ _ _ _ _)
      | (with_reducible exact tartanlaw07_works.mono _)
      | (with_reducible exact LeO.refl _)
      | (with_reducible exact LeO.none _)
      | (with_reducible refine LeO.ite ?_ ?_)
      | (with_reducible refine LeO.bind ?_ (fun _ => ?_))
      | exact ih0 _ _ _ _ _
      | exact ih1 _ _ _ _ _ _ _ _
      | exact ih2 _ _ _ _ _ _ _ _
      | exact ih3 _ _ _ _ _ _ _ _ _ _
      | exact ih4 _ _ _ _ _ _ _ _ _
      | exact tartanlaw07_works.mono _
      | exact LeO.none _
      | refine LeO.ite ?_ ?_
      | refine LeO.bind ?_ (fun _ => ?_)
    · intro y0 y1 y2 y3 y4 y5 y6 y7 y8 y9
      unfold tartanlaw07_WeaveRises.l1
      repeat' first
      | (with_reducible exact ih0 _ _ _ _ _)
      | (with_reducible exact ih1 _ _ _ _ _ _ _ _)
      | (with_reducible exact ih2 _ _ _ _ _ _ _ _)
      | (with_reducible exact ih3 _ _ _ _ _ _ _ _ _ _)
      | (with_reducible exact ih4 _ _ _ _ _ _ _ _ _)
      | (with_reducible exact tartanlaw07_works.mono _)
      | (with_reducible exact LeO.refl _)
      | (with_reducible exact LeO.none _)
      | (with_reducible refine LeO.ite ?_ ?_)
      | (with_reducible refine LeO.bind ?_ (fun _ => ?_))
      | exact ih0 _ _ _ _ _
      | exact ih1 _ _ _ _ _ _ _ _
      | exact ih2 _ _ _ _ _ _ _ _
      | exact ih3 _ _ _ _ _ _ _ _ _ _
      | exact ih4 _ _ _ _ _ _ _ _ _
      | exact tartanlaw07_works.mono _
      | exact LeO.none _
      | refine LeO.ite ?_ ?_
      | refine LeO.bind ?_ (fun _ => ?_)
    · intro y0 y1 y2 y3 y4 y5 y6 y7 y8
      unfold tartanlaw07_WeaveRises.j4
      repeat' first
      | (with_reducible exact ih0 _ _ _ _ _)
      | (with_reducible exact ih1 _ _ _ _ _ _ _ _)
      | (with_reducible exact ih2 _ _ _ _ _ _ _ _)
      | (with_reducible exact ih3 _ _ _ _ _ _ _ _ _ _)
      | (with_reducible exact ih4 _ _ _ _ _ _ _ _ _)
      | (with_reducible exact tartanlaw07_works.mono _)
      | (with_reducible exact LeO.refl _)
      | (with_reducible exact LeO.none _)
      | (with_reducible refine LeO.ite ?_ ?_)
      | (with_reducible refine LeO.bind ?_ (fun _ => ?_))
      | exact ih0 _ _ _ _ _
      | exact ih1 _ _ _ _ _ _ _ _
      | exact ih2 _ _ _ _ _ _ _ _
      | exact ih3 _ _ _ _ _ _ _ _ _ _
      | exact ih4 _ _ _ _ _ _ _ _ _
      | exact tartanlaw07_works.mono _
      | exact LeO.none _
      | refine LeO.ite ?_ ?_
      | refine LeO.bind ?_ (fun _ => ?_)
theorem tartanlaw07_WeaveRises.mono : ∀ a0 a1 a2 k, LeO (tartanlaw07_WeaveRises.f k a0 a1 a2) (tartanlaw07_WeaveRises.f (k + 1) a0 a1 a2) := by
  intro a0 a1 a2 k
  obtain ⟨ih0, ih1, ih2, ih3, ih4⟩ := tartanlaw07_WeaveRises.mono_l k
  unfold tartanlaw07_WeaveRises.f
  repeat' first
      | (with_reducible exact ih0 _ _ _ _ _)
      | (with_reducible exact ih1 _ _ _ _ _ _ _ _)
      | (with_reducible exact ih2 _ _ _ _ _ _ _ _)
      | (with_reducible exact ih3 _ _ _ _ _ _ _ _ _ _)
      | (with_reducible exact ih4 _ _ _ _ _ _ _ _ _)
      | (with_reducible exact tartanlaw07_works.mono _)
      | (with_reducible exact LeO.refl _)
      | (with_reducible exact LeO.none _)
      | (with_reducible refine LeO.ite ?_ ?_)
      | (with_reducible refine LeO.bind ?_ (fun _ => ?_))
      | exact ih0 _ _ _ _ _
      | exact ih1 _ _ _ _ _ _ _ _
      | exact ih2 _ _ _ _ _ _ _ _
      | exact ih3 _ _ _ _ _ _ _ _ _ _
      | exact ih4 _ _ _ _ _ _ _ _ _
      | exact tartanlaw07_works.mono _
      | exact LeO.none _
      | refine LeO.ite ?_ ?_
      | refine LeO.bind ?_ (fun _ => ?_)
set_option maxHeartbeats 8000000 in
set_option maxRecDepth 100000 in
theorem tartanlaw07_WeaveRises.calls (k : Nat) (A0 : Option Addr) (c0 : Nat) (l0 : List (S37)) (a1 : Int) (a2 : Int) (r : Bool) (w : World) (hr0 : Kd.C k37 w A0 l0.length l0) (hc0 : l0.length ≤ c0) (h : tartanlaw07_WeaveRises.f k l0 a1 a2 = some r) :
    Calls Try.prog 11 #[.slice A0 l0.length c0, .int .i64 a1, .int .i64 a2] w fun e w' => e = .returned (.bool r) ∧ Below w.heap.size w w' := by
  have hu37 := Try.underlying37
  have HR0 := Aside0.mk hr0
  have HC0 := Aside0.mk hc0
  clear hr0 hc0
  have HB := Aside0.mk (Below.refl w.heap.size w)
  have H : ((tartanlaw07_works.f k).bind fun t229 => (if t229 = true then (if (l0.length : Int) > 60 then (tartanlaw07_WeaveRises.j0 k l0 a1 a2 t229 true) else (if a1 > 60 then (tartanlaw07_WeaveRises.j0 k l0 a1 a2 t229 true) else (tartanlaw07_WeaveRises.j0 k l0 a1 a2 t229 (decide (a2 > 60))))) else (some false))) = some r := h
  clear h
  replace H := Option.bind_eq_some_iff.mp H
  obtain ⟨t229, A40, H⟩ := H
  replace H : (if t229 = true then (if (l0.length : Int) > 60 then (tartanlaw07_WeaveRises.j0 k l0 a1 a2 t229 true) else (if a1 > 60 then (tartanlaw07_WeaveRises.j0 k l0 a1 a2 t229 true) else (tartanlaw07_WeaveRises.j0 k l0 a1 a2 t229 (decide (a2 > 60))))) else (some false)) = some r := H
  have A4 := Aside0.mk A40
  clear A40
  by_cases c5 : t229 = true
  · subst c5
    have H1 : (if (l0.length : Int) > 60 then (tartanlaw07_WeaveRises.j0 k l0 a1 a2 true true) else (if a1 > 60 then (tartanlaw07_WeaveRises.j0 k l0 a1 a2 true true) else (tartanlaw07_WeaveRises.j0 k l0 a1 a2 true (decide (a2 > 60))))) = some r := by first | (rw [if_pos rfl] at H; exact H) | (rw [if_pos trivial] at H; exact H) | simpa using H
    clear H
    have H := H1
    clear H1
    have HC6 := Aside0.mk H
    clear H
    go_enter Try.func11, Try.ntmps11
    go_upto_region 4 with (first | (go_at_call 30; (with_reducible refine (tartanlaw07_works.calls k  true _ A4.out).mono ?_); rintro e w7 ⟨rfl, hb⟩; have n0_ := Aside0.mk (below_step (by repeat (first | (with_reducible first | exact HB.out | apply below_alloc | apply pw_below_drewN | apply below_drew1) | exact HB.out)) hb); clear HB; have HB := n0_; clear n0_; (try clear hb); (try clear hb2); (try clear hk); (try clear hi)))
    repeat (go_quiet (first | (go_at_call 30; (with_reducible refine (tartanlaw07_works.calls k  true _ A4.out).mono ?_); rintro e w7 ⟨rfl, hb⟩; have n0_ := Aside0.mk (below_step (by repeat (first | (with_reducible first | exact HB.out | apply below_alloc | apply pw_below_drewN | apply below_drew1) | exact HB.out)) hb); clear HB; have HB := n0_; clear n0_; (try clear hb); (try clear hb2); (try clear hk); (try clear hi))); go_upto_region 4 with (first | (go_at_call 30; (with_reducible refine (tartanlaw07_works.calls k  true _ A4.out).mono ?_); rintro e w7 ⟨rfl, hb⟩; have n0_ := Aside0.mk (below_step (by repeat (first | (with_reducible first | exact HB.out | apply below_alloc | apply pw_below_drewN | apply below_drew1) | exact HB.out)) hb); clear HB; have HB := n0_; clear n0_; (try clear hb); (try clear hb2); (try clear hk); (try clear hi))))
    (try simp only [Act.put, List.setIfInBounds_toArray, List.set_cons_zero, List.set_cons_succ])
    go_cut [29] (fun v29 wc => ∃ (kq : Nat) (x29_5 : Bool), v29 = .bool x29_5 ∧ Aside0 (tartanlaw07_WeaveRises.j0 kq l0 a1 a2 true x29_5 = some r) ∧ Aside0 (kq ≤ k) ∧ Aside0 (Below w.heap.size w wc))
    case first =>
      have H := HC6.out
      clear HC6
      by_cases c8 : (l0.length : Int) > 60
      · rw [if_pos c8] at H
        have c8b0 : decide (60 < (l0.length : Int)) = true := decide_eq_true c8
        have c8b1 : decide (60 < l0.length) = true := decide_eq_true (by omega)
        clear c8
        (first | rw [c8b0] | (simp only [i64_w, i32_w]; rw [c8b0]) | skip)
        have H' := Aside0.mk H
        clear H
        go_wp2
        repeat (go_quiet (fail); try go_wp2)
        go_meet
        case rel => exact ⟨_, (true), (by first | rfl | (simp; done) | (simp [*]; done)), H', ⟨by first | omega | exact Nat.le_refl _⟩, ⟨by repeat (first | (with_reducible first | exact HB.out | apply below_alloc | apply pw_below_drewN | apply below_drew1) | exact HB.out)⟩⟩
      · rw [if_neg c8] at H
        have c8b0 : decide (60 < (l0.length : Int)) = false := decide_eq_false c8
        have c8b1 : decide (60 < l0.length) = false := decide_eq_false (by omega)
        clear c8
        (first | rw [c8b0] | (simp only [i64_w, i32_w]; rw [c8b0]) | skip)
        by_cases c9 : a1 > 60
        · rw [if_pos c9] at H
          have c9b0 : decide (60 < a1) = true := decide_eq_true c9
          clear c9
          have H' := Aside0.mk H
          clear H
          go_wp2
          repeat (go_quiet (fail); try go_wp2)
          go_meet
          case rel => exact ⟨_, (true), (by first | rfl | (simp; done) | (simp [*]; done)), H', ⟨by first | omega | exact Nat.le_refl _⟩, ⟨by repeat (first | (with_reducible first | exact HB.out | apply below_alloc | apply pw_below_drewN | apply below_drew1) | exact HB.out)⟩⟩
        · rw [if_neg c9] at H
          have c9b0 : decide (60 < a1) = false := decide_eq_false c9
          clear c9
          have H' := Aside0.mk H
          clear H
          go_wp2
          repeat (go_quiet (fail); try go_wp2)
          go_meet
          case rel => exact ⟨_, (decide (a2 > 60)), (by first | rfl | (simp; done) | (simp [*]; done)), H', ⟨by first | omega | exact Nat.le_refl _⟩, ⟨by repeat (first | (with_reducible first | exact HB.out | apply below_alloc | apply pw_below_drewN | apply below_drew1) | exact HB.out)⟩⟩
    case rest =>
      clear HC6
      try clear c1
      try clear p2
      try clear c5
      try clear c8
      try clear c8b0
      try clear c8b1
      try clear c9
      try clear c9b0
      obtain ⟨kq, x29_5, rfl, HA, HJ5, HB⟩ := hcut
      cases kq with
      | zero => exact absurd HA.out (by simp [tartanlaw07_WeaveRises.j0])
      | succ kj5 =>
        have H := HA.out
        clear HA
        simp only [tartanlaw07_WeaveRises.j0] at H
        by_cases c10 : x29_5 = true
        · subst c10
          have H1 : (some true) = some r := by first | (rw [if_pos rfl] at H; exact H) | (rw [if_pos trivial] at H; exact H) | simpa using H
          clear H
          have H := H1
          clear H1
          obtain rfl := Option.some.inj H
          go_wp2
          repeat (go_quiet (fail); try go_wp2)
          go_ret
          exact ⟨by first | rfl | (simp [errW_none, errW_some] <;> rfl) | (simp [*, errW_none, errW_some] <;> rfl), by repeat (first | (with_reducible first | exact HB.out | apply below_alloc | apply pw_below_drewN | apply below_drew1) | exact HB.out)⟩
        · replace c10 := Bool.eq_false_iff.mpr c10
          subst c10
          have H1 : ((weave_Order.f l0 a1 a2).bind fun bt230 => (if bt230.2 = 0 then ((pairs_Still.f l0).bind fun t234 => (tartanlaw07_WeaveRises.l0 kj5 l0 a2 true bt230.1 t234 (-1) 0 0)) else (some true))) = some r := by rw [if_neg (show ¬ (false = true) by decide)] at H; exact H
          clear H
          have H := H1
          clear H1
          replace H := Option.bind_eq_some_iff.mp H
          obtain ⟨⟨t230, t231⟩, A110, H⟩ := H
          replace H : (if t231 = 0 then ((pairs_Still.f l0).bind fun t234 => (tartanlaw07_WeaveRises.l0 kj5 l0 a2 true t230 t234 (-1) 0 0)) else (some true)) = some r := H
          have A11 := Aside0.mk A110
          clear A110
          by_cases c12 : t231 = 0
          · rw [if_pos c12] at H
            have c12b0 : (t231 == 0) = true := beq_iff_eq.mpr c12
            have c12b1 : (t231 != 0) = false := bne_eq_false_iff_eq.mpr c12
            clear c12
            replace H := Option.bind_eq_some_iff.mp H
            obtain ⟨t234, A130, H⟩ := H
            replace H : (tartanlaw07_WeaveRises.l0 kj5 l0 a2 true t230 t234 (-1) 0 0) = some r := H
            have A13 := Aside0.mk A130
            clear A130
            have H' := Aside0.mk H
            clear H
            go_wp2_with (first | (go_at_call 31; (with_reducible refine (weave_Order.calls _ _ l0 a1 a2 t230 t231 _ ?side1 ?side2 A11.out).mono ?_); (case side1 => repeat (first | exact (Kd.C_below HR0.out HB.out) | (with_reducible refine Kd.C_alloc ?_ _) | (with_reducible refine Kd.C_drewN ?_ _) | (with_reducible refine Kd.C_drew ?_))); (case side2 => exact HC0.out); rintro e w14 ⟨v232, rfl, ho0, hb⟩; have n0_ := Aside0.mk (Kd.R_lower ho0 (below_size (by repeat (first | (with_reducible first | exact HB.out | apply below_alloc | apply pw_below_drewN | apply below_drew1) | exact HB.out)))); have n1_ := Aside0.mk (below_step (by repeat (first | (with_reducible first | exact HB.out | apply below_alloc | apply pw_below_drewN | apply below_drew1) | exact HB.out)) hb); clear HB; have HO233 := n0_; have HB := n1_; clear n0_ n1_; (try clear hb); (try clear hb2); (try clear hk); (try clear hi); (try clear ho0)) | (go_at_call 24; (with_reducible refine (pairs_Still.calls _ _ l0 t234 _ ?side1 ?side2 A13.out).mono ?_); (case side1 => repeat (first | exact (Kd.C_below HR0.out HB.out) | (with_reducible refine Kd.C_alloc ?_ _) | (with_reducible refine Kd.C_drewN ?_ _) | (with_reducible refine Kd.C_drew ?_))); (case side2 => exact HC0.out); rintro e w15 ⟨v235, rfl, ho0, hb⟩; have n0_ := Aside0.mk (Kd.R_below (by (with_reducible repeat (first | apply Kd.R_alloc | apply Kd.R_drewN | apply Kd.R_drew)); exact HO233.out) hb); have n1_ := Aside0.mk (Kd.R_lower ho0 (below_size (by repeat (first | (with_reducible first | exact HB.out | apply below_alloc | apply pw_below_drewN | apply below_drew1) | exact HB.out)))); have n2_ := Aside0.mk (below_step (by repeat (first | (with_reducible first | exact HB.out | apply below_alloc | apply pw_below_drewN | apply below_drew1) | exact HB.out)) hb); clear HO233; clear HB; have HO233 := n0_; have HO236 := n1_; have HB := n2_; clear n0_ n1_ n2_; (try clear hb); (try clear hb2); (try clear hk); (try clear hi); (try clear ho0)))
            repeat (go_quiet (first | (go_at_call 31; (with_reducible refine (weave_Order.calls _ _ l0 a1 a2 t230 t231 _ ?side1 ?side2 A11.out).mono ?_); (case side1 => repeat (first | exact (Kd.C_below HR0.out HB.out) | (with_reducible refine Kd.C_alloc ?_ _) | (with_reducible refine Kd.C_drewN ?_ _) | (with_reducible refine Kd.C_drew ?_))); (case side2 => exact HC0.out); rintro e w14 ⟨v232, rfl, ho0, hb⟩; have n0_ := Aside0.mk (Kd.R_lower ho0 (below_size (by repeat (first | (with_reducible first | exact HB.out | apply below_alloc | apply pw_below_drewN | apply below_drew1) | exact HB.out)))); have n1_ := Aside0.mk (below_step (by repeat (first | (with_reducible first | exact HB.out | apply below_alloc | apply pw_below_drewN | apply below_drew1) | exact HB.out)) hb); clear HB; have HO233 := n0_; have HB := n1_; clear n0_ n1_; (try clear hb); (try clear hb2); (try clear hk); (try clear hi); (try clear ho0)) | (go_at_call 24; (with_reducible refine (pairs_Still.calls _ _ l0 t234 _ ?side1 ?side2 A13.out).mono ?_); (case side1 => repeat (first | exact (Kd.C_below HR0.out HB.out) | (with_reducible refine Kd.C_alloc ?_ _) | (with_reducible refine Kd.C_drewN ?_ _) | (with_reducible refine Kd.C_drew ?_))); (case side2 => exact HC0.out); rintro e w15 ⟨v235, rfl, ho0, hb⟩; have n0_ := Aside0.mk (Kd.R_below (by (with_reducible repeat (first | apply Kd.R_alloc | apply Kd.R_drewN | apply Kd.R_drew)); exact HO233.out) hb); have n1_ := Aside0.mk (Kd.R_lower ho0 (below_size (by repeat (first | (with_reducible first | exact HB.out | apply below_alloc | apply pw_below_drewN | apply below_drew1) | exact HB.out)))); have n2_ := Aside0.mk (below_step (by repeat (first | (with_reducible first | exact HB.out | apply below_alloc | apply pw_below_drewN | apply below_drew1) | exact HB.out)) hb); clear HO233; clear HB; have HO233 := n0_; have HO236 := n1_; have HB := n2_; clear n0_ n1_ n2_; (try clear hb); (try clear hb2); (try clear hk); (try clear hi); (try clear ho0))); try go_wp2_with (first | (go_at_call 31; (with_reducible refine (weave_Order.calls _ _ l0 a1 a2 t230 t231 _ ?side1 ?side2 A11.out).mono ?_); (case side1 => repeat (first | exact (Kd.C_below HR0.out HB.out) | (with_reducible refine Kd.C_alloc ?_ _) | (with_reducible refine Kd.C_drewN ?_ _) | (with_reducible refine Kd.C_drew ?_))); (case side2 => exact HC0.out); rintro e w14 ⟨v232, rfl, ho0, hb⟩; have n0_ := Aside0.mk (Kd.R_lower ho0 (below_size (by repeat (first | (with_reducible first | exact HB.out | apply below_alloc | apply pw_below_drewN | apply below_drew1) | exact HB.out)))); have n1_ := Aside0.mk (below_step (by repeat (first | (with_reducible first | exact HB.out | apply below_alloc | apply pw_below_drewN | apply below_drew1) | exact HB.out)) hb); clear HB; have HO233 := n0_; have HB := n1_; clear n0_ n1_; (try clear hb); (try clear hb2); (try clear hk); (try clear hi); (try clear ho0)) | (go_at_call 24; (with_reducible refine (pairs_Still.calls _ _ l0 t234 _ ?side1 ?side2 A13.out).mono ?_); (case side1 => repeat (first | exact (Kd.C_below HR0.out HB.out) | (with_reducible refine Kd.C_alloc ?_ _) | (with_reducible refine Kd.C_drewN ?_ _) | (with_reducible refine Kd.C_drew ?_))); (case side2 => exact HC0.out); rintro e w15 ⟨v235, rfl, ho0, hb⟩; have n0_ := Aside0.mk (Kd.R_below (by (with_reducible repeat (first | apply Kd.R_alloc | apply Kd.R_drewN | apply Kd.R_drew)); exact HO233.out) hb); have n1_ := Aside0.mk (Kd.R_lower ho0 (below_size (by repeat (first | (with_reducible first | exact HB.out | apply below_alloc | apply pw_below_drewN | apply below_drew1) | exact HB.out)))); have n2_ := Aside0.mk (below_step (by repeat (first | (with_reducible first | exact HB.out | apply below_alloc | apply pw_below_drewN | apply below_drew1) | exact HB.out)) hb); clear HO233; clear HB; have HO233 := n0_; have HO236 := n1_; have HB := n2_; clear n0_ n1_ n2_; (try clear hb); (try clear hb2); (try clear hk); (try clear hi); (try clear ho0))))
            go_loopg [11, 12, 13] kj5 (fun kq v11 v12 v13 w' => ∃ (x11_2 : Int) (x12_2 : Int) (x13_2 : Int), v11 = .int .i64 x11_2 ∧ v12 = .int .i64 x12_2 ∧ v13 = .int .i64 x13_2 ∧ Aside0 (tartanlaw07_WeaveRises.l0 kq l0 a2 true t230 t234 x11_2 x12_2 x13_2 = some r) ∧ Aside0 (kq ≤ kj5) ∧ Aside0 (Kd.R k37 37 w' w.heap.size (fun _ => True) v232 t230) ∧ Aside0 (Kd.R (Kd.int .i64) 3 w' w.heap.size (fun _ => True) v235 t234) ∧ Aside0 (Below w.heap.size w w'))
            case atStart => exact ⟨((-1)), (0), (0), (by first | rfl | (simp; done) | (simp [*]; done)), (by first | rfl | (simp; done) | (simp [*]; done)), (by first | rfl | (simp; done) | (simp [*]; done)), H', ⟨Nat.le_refl _⟩, ⟨by (with_reducible repeat (first | apply Kd.R_alloc | apply Kd.R_drewN | apply Kd.R_drew)); exact HO233.out⟩, ⟨by (with_reducible repeat (first | apply Kd.R_alloc | apply Kd.R_drewN | apply Kd.R_drew)); exact HO236.out⟩, ⟨by repeat (first | (with_reducible first | exact HB.out | apply below_alloc | apply pw_below_drewN | apply below_drew1) | exact HB.out)⟩⟩
            case round =>
              clear H'
              try clear c1
              try clear p2
              try clear c5
              try clear c8
              try clear c8b0
              try clear c8b1
              try clear c9
              try clear c9b0
              try clear c10
              try clear c11
              try clear c12
              try clear c12b0
              try clear c12b1
              try clear p2
              obtain ⟨x11_2, x12_2, x13_2, rfl, rfl, rfl, HA, HK2, HO_8, HO_10, HB⟩ := hrel
              cases gk with
              | zero => exact absurd HA.out (by simp [tartanlaw07_WeaveRises.l0])
              | succ k2 =>
                have H := HA.out
                clear HA
                simp only [tartanlaw07_WeaveRises.l0] at H
                by_cases c16 : x13_2 < (t230.length : Int)
                · rw [if_pos c16] at H
                  have c16b0 : decide (x13_2 < (t230.length : Int)) = true := decide_eq_true c16
                  clear c16
                  by_cases c17 : 0 ≤ x13_2
                  · rw [if_pos c17] at H
                    have c17b0 : decide (0 ≤ x13_2) = true := decide_eq_true c17
                    clear c17
                    have HC18 := Aside0.mk H
                    clear H
                    obtain ⟨Ao19, co19, eo19⟩ := Kd.R_slice HO_8.out
                    subst eo19
                    have p237 : 0 ≤ (x13_2 : Int) := of_decide_eq_true (by first | (with_reducible assumption) | assumption)
                    have q237 : x13_2 < (t230.length : Int) := of_decide_eq_true (by first | (with_reducible assumption) | assumption)
                    obtain ⟨ad237, e237, hx237_0, hx237_1⟩ := at_T37 (Kd.R_reads' HO_8.out).2.2 x13_2 p237 q237
                    cases e237
                    replace p237 := eq_true p237
                    replace q237 := eq_true q237
                    go_upto_if 54 with (fail)
                    repeat (go_quiet (fail); go_upto_if 54 with (fail))
                    go_cut [12] (fun v12 wc => ∃ (kq : Nat) (x12_17 : Int), v12 = .int .i64 x12_17 ∧ Aside0 (tartanlaw07_WeaveRises.j2 kq l0 a2 true t230 t234 x11_2 x12_17 x13_2 = some r) ∧ Aside0 (kq ≤ k2) ∧ Aside0 (Kd.R k37 37 wc w.heap.size (fun _ => True) (.slice (some ad237) t230.length co19) t230) ∧ Aside0 (Kd.R (Kd.int .i64) 3 wc w.heap.size (fun _ => True) v235 t234) ∧ Aside0 (Below w.heap.size w wc))
                    case first =>
                      have H := HC18.out
                      clear HC18
                      by_cases c20 : ((rd_T37 t230 x13_2).f1) ≥ 0
                      · rw [if_pos c20] at H
                        have c20b0 : decide (0 ≤ ((rd_T37 t230 x13_2).f1)) = true := decide_eq_true c20
                        clear c20
                        (first | rw [c20b0] | (simp only [i64_w, i32_w]; rw [c20b0]) | skip)
                        by_cases c21 : ((rd_T37 t230 x13_2).f1) = x12_2
                        · rw [if_pos c21] at H
                          have c21b0 : (((rd_T37 t230 x13_2).f1) == x12_2) = true := beq_iff_eq.mpr c21
                          have c21b1 : (((rd_T37 t230 x13_2).f1) != x12_2) = false := bne_eq_false_iff_eq.mpr c21
                          clear c21
                          have H' := Aside0.mk H
                          clear H
                          have p238 : 0 ≤ (x13_2 : Int) := of_decide_eq_true (by first | (with_reducible assumption) | assumption)
                          have q238 : x13_2 < (t230.length : Int) := of_decide_eq_true (by first | (with_reducible assumption) | assumption)
                          obtain ⟨ad238, e238, hx238_0, hx238_1⟩ := at_T37 (Kd.R_reads' HO_8.out).2.2 x13_2 p238 q238
                          obtain rfl : ad237 = ad238 := (by injection e238)
                          replace p238 := eq_true p238
                          replace q238 := eq_true q238
                          go_wp2
                          repeat (go_quiet (fail); try go_wp2)
                          go_meet
                          case rel => exact ⟨_, (wrap64 (x12_2 + 1)), (by first | rfl | (simp; done) | (simp [*]; done)), H', ⟨by have := HJ5.out; have := HK2.out; first | omega | exact Nat.le_refl _⟩, ⟨by (with_reducible repeat (first | apply Kd.R_alloc | apply Kd.R_drewN | apply Kd.R_drew)); exact HO_8.out⟩, ⟨by (with_reducible repeat (first | apply Kd.R_alloc | apply Kd.R_drewN | apply Kd.R_drew)); exact HO_10.out⟩, ⟨by repeat (first | (with_reducible first | exact HB.out | apply below_alloc | apply pw_below_drewN | apply below_drew1) | exact HB.out)⟩⟩
                        · rw [if_neg c21] at H
                          have c21b0 : (((rd_T37 t230 x13_2).f1) == x12_2) = false := beq_eq_false_iff_ne.mpr c21
                          have c21b1 : (((rd_T37 t230 x13_2).f1) != x12_2) = true := bne_iff_ne.mpr c21
                          obtain rfl := Option.some.inj H
                          have p238 : 0 ≤ (x13_2 : Int) := of_decide_eq_true (by first | (with_reducible assumption) | assumption)
                          have q238 : x13_2 < (t230.length : Int) := of_decide_eq_true (by first | (with_reducible assumption) | assumption)
                          obtain ⟨ad238, e238, hx238_0, hx238_1⟩ := at_T37 (Kd.R_reads' HO_8.out).2.2 x13_2 p238 q238
                          obtain rfl : ad237 = ad238 := (by injection e238)
                          replace p238 := eq_true p238
                          replace q238 := eq_true q238
                          go_wp2
                          repeat (go_quiet (fail); try go_wp2)
                          go_ret
                          exact ⟨by first | rfl | (simp [errW_none, errW_some] <;> rfl) | (simp [*, errW_none, errW_some] <;> rfl), by repeat (first | (with_reducible first | exact HB.out | apply below_alloc | apply pw_below_drewN | apply below_drew1) | exact HB.out)⟩
                      · rw [if_neg c20] at H
                        have c20b0 : decide (0 ≤ ((rd_T37 t230 x13_2).f1)) = false := decide_eq_false c20
                        clear c20
                        (first | rw [c20b0] | (simp only [i64_w, i32_w]; rw [c20b0]) | skip)
                        have H' := Aside0.mk H
                        clear H
                        go_wp2
                        repeat (go_quiet (fail); try go_wp2)
                        go_meet
                        case rel => exact ⟨_, (x12_2), (by first | rfl | (simp; done) | (simp [*]; done)), H', ⟨by have := HJ5.out; have := HK2.out; first | omega | exact Nat.le_refl _⟩, ⟨by (with_reducible repeat (first | apply Kd.R_alloc | apply Kd.R_drewN | apply Kd.R_drew)); exact HO_8.out⟩, ⟨by (with_reducible repeat (first | apply Kd.R_alloc | apply Kd.R_drewN | apply Kd.R_drew)); exact HO_10.out⟩, ⟨by repeat (first | (with_reducible first | exact HB.out | apply below_alloc | apply pw_below_drewN | apply below_drew1) | exact HB.out)⟩⟩
                    case rest =>
                      clear HC18
                      try clear c1
                      try clear c2
                      try clear p2
                      try clear q2
                      try clear hx2
                      try clear c5
                      try clear p6
                      try clear c8
                      try clear c8b0
                      try clear c8b1
                      try clear c9
                      try clear c9b0
                      try clear c10
                      try clear c11
                      try clear c12
                      try clear c12b0
                      try clear c12b1
                      try clear c16
                      try clear c16b0
                      try clear c17
                      try clear c17b0
                      try clear c20
                      try clear c20b0
                      try clear c21
                      try clear c21b0
                      try clear c21b1
                      try clear hx237_0
                      try clear hx237_1
                      try clear hx238_0
                      try clear hx238_1
                      try clear p2
                      try clear p237
                      try clear p238
                      try clear q237
                      try clear q238
                      obtain ⟨kq, x12_17, rfl, HA, HJ17, HO_8, HO_10, HB⟩ := hcut
                      cases kq with
                      | zero => exact absurd HA.out (by simp [tartanlaw07_WeaveRises.j2])
                      | succ kj17 =>
                        have H := HA.out
                        clear HA
                        simp only [tartanlaw07_WeaveRises.j2] at H
                        have H' := Aside0.mk H
                        clear H
                        go_wp2
                        repeat (go_quiet (fail); try go_wp2)
                        go_loopg [14, 15] kj17 (fun kq v14 v15 w' => ∃ (x14_4 : Bool) (x15_4 : Int), v14 = .bool x14_4 ∧ v15 = .int .i64 x15_4 ∧ Aside0 (tartanlaw07_WeaveRises.l1 kq l0 a2 true t230 t234 x11_2 x12_17 x13_2 x14_4 x15_4 = some r) ∧ Aside0 (kq ≤ kj17) ∧ Aside0 (Kd.R k37 37 w' w.heap.size (fun _ => True) (.slice (some ad237) t230.length co19) t230) ∧ Aside0 (Kd.R (Kd.int .i64) 3 w' w.heap.size (fun _ => True) v235 t234) ∧ Aside0 (Below w.heap.size w w'))
                        case atStart => exact ⟨(false), (0), (by first | rfl | (simp; done) | (simp [*]; done)), (by first | rfl | (simp; done) | (simp [*]; done)), H', ⟨Nat.le_refl _⟩, ⟨by (with_reducible repeat (first | apply Kd.R_alloc | apply Kd.R_drewN | apply Kd.R_drew)); exact HO_8.out⟩, ⟨by (with_reducible repeat (first | apply Kd.R_alloc | apply Kd.R_drewN | apply Kd.R_drew)); exact HO_10.out⟩, ⟨by repeat (first | (with_reducible first | exact HB.out | apply below_alloc | apply pw_below_drewN | apply below_drew1) | exact HB.out)⟩⟩
                        case round =>
                          clear H'
                          try clear c1
                          try clear c2
                          try clear p2
                          try clear q2
                          try clear hx2
                          try clear c5
                          try clear p6
                          try clear c8
                          try clear c8b0
                          try clear c8b1
                          try clear c9
                          try clear c9b0
                          try clear c10
                          try clear c11
                          try clear c12
                          try clear c12b0
                          try clear c12b1
                          try clear c16
                          try clear c16b0
                          try clear c17
                          try clear c17b0
                          try clear c20
                          try clear c20b0
                          try clear c21
                          try clear c21b0
                          try clear c21b1
                          try clear hx237_0
                          try clear hx237_1
                          try clear hx238_0
                          try clear hx238_1
                          try clear p2
                          try clear p237
                          try clear p238
                          try clear p6
                          try clear q2
                          try clear q237
                          try clear q238
                          obtain ⟨x14_4, x15_4, rfl, rfl, HA, HK4, HO_8, HO_10, HB⟩ := hrel
                          cases gk with
                          | zero => exact absurd HA.out (by simp [tartanlaw07_WeaveRises.l1])
                          | succ k4 =>
                            have H := HA.out
                            clear HA
                            simp only [tartanlaw07_WeaveRises.l1] at H
                            by_cases c22 : x15_4 < (t234.length : Int)
                            · rw [if_pos c22] at H
                              have c22b0 : decide (x15_4 < (t234.length : Int)) = true := decide_eq_true c22
                              clear c22
                              by_cases c23 : x14_4 = true
                              · subst c23
                                have H1 : (tartanlaw07_WeaveRises.l1 k4 l0 a2 true t230 t234 x11_2 x12_17 x13_2 true (wrap64 (x15_4 + 1))) = some r := by first | (rw [if_pos rfl] at H; exact H) | (rw [if_pos trivial] at H; exact H) | simpa using H
                                clear H
                                have H := H1
                                clear H1
                                have H' := Aside0.mk H
                                clear H
                                obtain ⟨Ao24, co24, eo24⟩ := Kd.R_slice HO_10.out
                                subst eo24
                                go_wp2
                                repeat (go_quiet (fail); try go_wp2)
                                go_roundg k4
                                case measure => have := HJ5.out; have := HK2.out; have := HJ17.out; have := HK4.out; omega
                                case rel => exact ⟨(true), (wrap64 (x15_4 + 1)), (by first | rfl | (simp; done) | (simp [*]; done)), (by first | rfl | (simp; done) | (simp [*]; done)), H', ⟨by have := HJ5.out; have := HK2.out; have := HJ17.out; have := HK4.out; omega⟩, ⟨by (with_reducible repeat (first | apply Kd.R_alloc | apply Kd.R_drewN | apply Kd.R_drew)); exact HO_8.out⟩, ⟨by (with_reducible repeat (first | apply Kd.R_alloc | apply Kd.R_drewN | apply Kd.R_drew)); exact HO_10.out⟩, ⟨by repeat (first | (with_reducible first | exact HB.out | apply below_alloc | apply pw_below_drewN | apply below_drew1) | exact HB.out)⟩⟩
                              · replace c23 := Bool.eq_false_iff.mpr c23
                                subst c23
                                have H1 : (if 0 ≤ x15_4 then (if (rd t234 x15_4) ≥ 0 then (if (rd t234 x15_4) < (l0.length : Int) then (if 0 ≤ (rd t234 x15_4) then (if 0 ≤ x13_2 then (if x13_2 < (t230.length : Int) then (tartanlaw07_WeaveRises.l1 k4 l0 a2 true t230 t234 x11_2 x12_17 x13_2 (((rd_T37 l0 (rd t234 x15_4)).f0) == ((rd_T37 t230 x13_2).f0) && (((rd_T37 l0 (rd t234 x15_4)).f1) == ((rd_T37 t230 x13_2).f1))) (wrap64 (x15_4 + 1))) else (none)) else (none)) else (none)) else (tartanlaw07_WeaveRises.l1 k4 l0 a2 true t230 t234 x11_2 x12_17 x13_2 false (wrap64 (x15_4 + 1)))) else (tartanlaw07_WeaveRises.l1 k4 l0 a2 true t230 t234 x11_2 x12_17 x13_2 false (wrap64 (x15_4 + 1)))) else (none)) = some r := by rw [if_neg (show ¬ (false = true) by decide)] at H; exact H
                                clear H
                                have H := H1
                                clear H1
                                by_cases c25 : 0 ≤ x15_4
                                · rw [if_pos c25] at H
                                  have c25b0 : decide (0 ≤ x15_4) = true := decide_eq_true c25
                                  clear c25
                                  by_cases c26 : (rd t234 x15_4) ≥ 0
                                  · rw [if_pos c26] at H
                                    have c26b0 : decide (0 ≤ (rd t234 x15_4)) = true := decide_eq_true c26
                                    clear c26
                                    by_cases c27 : (rd t234 x15_4) < (l0.length : Int)
                                    · rw [if_pos c27] at H
                                      have c27b0 : decide ((rd t234 x15_4) < (l0.length : Int)) = true := decide_eq_true c27
                                      clear c27
                                      by_cases c28 : 0 ≤ (rd t234 x15_4)
                                      · rw [if_pos c28] at H
                                        have c28b0 : decide (0 ≤ (rd t234 x15_4)) = true := decide_eq_true c28
                                        clear c28
                                        by_cases c29 : 0 ≤ x13_2
                                        · rw [if_pos c29] at H
                                          have c29b0 : decide (0 ≤ x13_2) = true := decide_eq_true c29
                                          clear c29
                                          by_cases c30 : x13_2 < (t230.length : Int)
                                          · rw [if_pos c30] at H
                                            have c30b0 : decide (x13_2 < (t230.length : Int)) = true := decide_eq_true c30
                                            clear c30
                                            have H' := Aside0.mk H
                                            clear H
                                            obtain ⟨Ao31, co31, eo31⟩ := Kd.R_slice HO_10.out
                                            subst eo31
                                            have p239 : 0 ≤ (x15_4 : Int) := of_decide_eq_true (by first | (with_reducible assumption) | assumption)
                                            have q239 : x15_4 < (t234.length : Int) := of_decide_eq_true (by first | (with_reducible assumption) | assumption)
                                            obtain ⟨ad239, e239, hx239_0⟩ := Kd.at_int (Kd.R_reads' HO_10.out).2.2 x15_4 p239 q239
                                            cases e239
                                            replace p239 := eq_true p239
                                            replace q239 := eq_true q239
                                            have p240 : 0 ≤ (x15_4 : Int) := of_decide_eq_true (by first | (with_reducible assumption) | assumption)
                                            have q240 : x15_4 < (t234.length : Int) := of_decide_eq_true (by first | (with_reducible assumption) | assumption)
                                            obtain ⟨ad240, e240, hx240_0⟩ := Kd.at_int (Kd.R_reads' HO_10.out).2.2 x15_4 p240 q240
                                            obtain rfl : ad239 = ad240 := (by injection e240)
                                            replace p240 := eq_true p240
                                            replace q240 := eq_true q240
                                            have p241 : 0 ≤ (x15_4 : Int) := of_decide_eq_true (by first | (with_reducible assumption) | assumption)
                                            have q241 : x15_4 < (t234.length : Int) := of_decide_eq_true (by first | (with_reducible assumption) | assumption)
                                            obtain ⟨ad241, e241, hx241_0⟩ := Kd.at_int (Kd.R_reads' HO_10.out).2.2 x15_4 p241 q241
                                            obtain rfl : ad239 = ad241 := (by injection e241)
                                            replace p241 := eq_true p241
                                            replace q241 := eq_true q241
                                            have p242 : 0 ≤ ((rd t234 x15_4) : Int) := of_decide_eq_true (by first | (with_reducible assumption) | assumption)
                                            have q242 : (rd t234 x15_4) < (l0.length : Int) := of_decide_eq_true (by first | (with_reducible assumption) | assumption)
                                            obtain ⟨ad242, e242, hx242_0, hx242_1⟩ := at_T37 HR0.out (rd t234 x15_4) p242 q242
                                            cases e242
                                            replace hx242_0 := (HB.out.cell (World.block_lt_of_cell? w _ hx242_0)).trans hx242_0
                                            replace hx242_1 := (HB.out.cell (World.block_lt_of_cell? w _ hx242_1)).trans hx242_1
                                            replace p242 := eq_true p242
                                            replace q242 := eq_true q242
                                            have p243 : 0 ≤ (x13_2 : Int) := of_decide_eq_true (by first | (with_reducible assumption) | assumption)
                                            have q243 : x13_2 < (t230.length : Int) := of_decide_eq_true (by first | (with_reducible assumption) | assumption)
                                            obtain ⟨ad243, e243, hx243_0, hx243_1⟩ := at_T37 (Kd.R_reads' HO_8.out).2.2 x13_2 p243 q243
                                            obtain rfl : ad237 = ad243 := (by injection e243)
                                            replace p243 := eq_true p243
                                            replace q243 := eq_true q243
                                            go_wp2
                                            repeat (go_quiet (fail); try go_wp2)
                                            go_roundg k4
                                            case measure => have := HJ5.out; have := HK2.out; have := HJ17.out; have := HK4.out; omega
                                            case rel => exact ⟨((((rd_T37 l0 (rd t234 x15_4)).f0) == ((rd_T37 t230 x13_2).f0) && (((rd_T37 l0 (rd t234 x15_4)).f1) == ((rd_T37 t230 x13_2).f1)))), (wrap64 (x15_4 + 1)), (by first | rfl | (simp; done) | (simp [*]; done)), (by first | rfl | (simp; done) | (simp [*]; done)), H', ⟨by have := HJ5.out; have := HK2.out; have := HJ17.out; have := HK4.out; omega⟩, ⟨by (with_reducible repeat (first | apply Kd.R_alloc | apply Kd.R_drewN | apply Kd.R_drew)); exact HO_8.out⟩, ⟨by (with_reducible repeat (first | apply Kd.R_alloc | apply Kd.R_drewN | apply Kd.R_drew)); exact HO_10.out⟩, ⟨by repeat (first | (with_reducible first | exact HB.out | apply below_alloc | apply pw_below_drewN | apply below_drew1) | exact HB.out)⟩⟩
                                          · rw [if_neg c30] at H
                                            exact absurd H (by simp)
                                        · rw [if_neg c29] at H
                                          exact absurd H (by simp)
                                      · rw [if_neg c28] at H
                                        exact absurd H (by simp)
                                    · rw [if_neg c27] at H
                                      have c27b0 : decide ((rd t234 x15_4) < (l0.length : Int)) = false := decide_eq_false c27
                                      clear c27
                                      have H' := Aside0.mk H
                                      clear H
                                      obtain ⟨Ao32, co32, eo32⟩ := Kd.R_slice HO_10.out
                                      subst eo32
                                      have p239 : 0 ≤ (x15_4 : Int) := of_decide_eq_true (by first | (with_reducible assumption) | assumption)
                                      have q239 : x15_4 < (t234.length : Int) := of_decide_eq_true (by first | (with_reducible assumption) | assumption)
                                      obtain ⟨ad239, e239, hx239_0⟩ := Kd.at_int (Kd.R_reads' HO_10.out).2.2 x15_4 p239 q239
                                      cases e239
                                      replace p239 := eq_true p239
                                      replace q239 := eq_true q239
                                      have p240 : 0 ≤ (x15_4 : Int) := of_decide_eq_true (by first | (with_reducible assumption) | assumption)
                                      have q240 : x15_4 < (t234.length : Int) := of_decide_eq_true (by first | (with_reducible assumption) | assumption)
                                      obtain ⟨ad240, e240, hx240_0⟩ := Kd.at_int (Kd.R_reads' HO_10.out).2.2 x15_4 p240 q240
                                      obtain rfl : ad239 = ad240 := (by injection e240)
                                      replace p240 := eq_true p240
                                      replace q240 := eq_true q240
                                      go_wp2
                                      repeat (go_quiet (fail); try go_wp2)
                                      go_roundg k4
                                      case measure => have := HJ5.out; have := HK2.out; have := HJ17.out; have := HK4.out; omega
                                      case rel => exact ⟨(false), (wrap64 (x15_4 + 1)), (by first | rfl | (simp; done) | (simp [*]; done)), (by first | rfl | (simp; done) | (simp [*]; done)), H', ⟨by have := HJ5.out; have := HK2.out; have := HJ17.out; have := HK4.out; omega⟩, ⟨by (with_reducible repeat (first | apply Kd.R_alloc | apply Kd.R_drewN | apply Kd.R_drew)); exact HO_8.out⟩, ⟨by (with_reducible repeat (first | apply Kd.R_alloc | apply Kd.R_drewN | apply Kd.R_drew)); exact HO_10.out⟩, ⟨by repeat (first | (with_reducible first | exact HB.out | apply below_alloc | apply pw_below_drewN | apply below_drew1) | exact HB.out)⟩⟩
                                  · rw [if_neg c26] at H
                                    have c26b0 : decide (0 ≤ (rd t234 x15_4)) = false := decide_eq_false c26
                                    clear c26
                                    have H' := Aside0.mk H
                                    clear H
                                    obtain ⟨Ao33, co33, eo33⟩ := Kd.R_slice HO_10.out
                                    subst eo33
                                    have p239 : 0 ≤ (x15_4 : Int) := of_decide_eq_true (by first | (with_reducible assumption) | assumption)
                                    have q239 : x15_4 < (t234.length : Int) := of_decide_eq_true (by first | (with_reducible assumption) | assumption)
                                    obtain ⟨ad239, e239, hx239_0⟩ := Kd.at_int (Kd.R_reads' HO_10.out).2.2 x15_4 p239 q239
                                    cases e239
                                    replace p239 := eq_true p239
                                    replace q239 := eq_true q239
                                    go_wp2
                                    repeat (go_quiet (fail); try go_wp2)
                                    go_roundg k4
                                    case measure => have := HJ5.out; have := HK2.out; have := HJ17.out; have := HK4.out; omega
                                    case rel => exact ⟨(false), (wrap64 (x15_4 + 1)), (by first | rfl | (simp; done) | (simp [*]; done)), (by first | rfl | (simp; done) | (simp [*]; done)), H', ⟨by have := HJ5.out; have := HK2.out; have := HJ17.out; have := HK4.out; omega⟩, ⟨by (with_reducible repeat (first | apply Kd.R_alloc | apply Kd.R_drewN | apply Kd.R_drew)); exact HO_8.out⟩, ⟨by (with_reducible repeat (first | apply Kd.R_alloc | apply Kd.R_drewN | apply Kd.R_drew)); exact HO_10.out⟩, ⟨by repeat (first | (with_reducible first | exact HB.out | apply below_alloc | apply pw_below_drewN | apply below_drew1) | exact HB.out)⟩⟩
                                · rw [if_neg c25] at H
                                  exact absurd H (by simp)
                            · rw [if_neg c22] at H
                              have c22b0 : decide (x15_4 < (t234.length : Int)) = false := decide_eq_false c22
                              clear c22
                              have HC34 := Aside0.mk H
                              clear H
                              obtain ⟨Ao35, co35, eo35⟩ := Kd.R_slice HO_10.out
                              subst eo35
                              go_upto_region 23 with (fail)
                              repeat (go_quiet (fail); go_upto_region 23 with (fail))
                              go_cut [109] (fun v109 wc => ∃ (kq : Nat) (x109_33 : Bool), v109 = .bool x109_33 ∧ Aside0 (tartanlaw07_WeaveRises.j4 kq l0 a2 true t230 t234 x11_2 x12_17 x13_2 x109_33 = some r) ∧ Aside0 (kq ≤ k4) ∧ Aside0 (Kd.R k37 37 wc w.heap.size (fun _ => True) (.slice (some ad237) t230.length co19) t230) ∧ Aside0 (Kd.R (Kd.int .i64) 3 wc w.heap.size (fun _ => True) (.slice Ao35 t234.length co35) t234) ∧ Aside0 (Below w.heap.size w wc))
                              case first =>
                                have H := HC34.out
                                clear HC34
                                by_cases c36 : x14_4 = true
                                · subst c36
                                  have H1 : (tartanlaw07_WeaveRises.j4 k4 l0 a2 true t230 t234 x11_2 x12_17 x13_2 true) = some r := by first | (rw [if_pos rfl] at H; exact H) | (rw [if_pos trivial] at H; exact H) | simpa using H
                                  clear H
                                  have H := H1
                                  clear H1
                                  have H' := Aside0.mk H
                                  clear H
                                  go_wp2
                                  repeat (go_quiet (fail); try go_wp2)
                                  go_meet
                                  case rel => exact ⟨_, (true), (by first | rfl | (simp; done) | (simp [*]; done)), H', ⟨by have := HJ5.out; have := HK2.out; have := HJ17.out; have := HK4.out; first | omega | exact Nat.le_refl _⟩, ⟨by (with_reducible repeat (first | apply Kd.R_alloc | apply Kd.R_drewN | apply Kd.R_drew)); exact HO_8.out⟩, ⟨by (with_reducible repeat (first | apply Kd.R_alloc | apply Kd.R_drewN | apply Kd.R_drew)); exact HO_10.out⟩, ⟨by repeat (first | (with_reducible first | exact HB.out | apply below_alloc | apply pw_below_drewN | apply below_drew1) | exact HB.out)⟩⟩
                                · replace c36 := Bool.eq_false_iff.mpr c36
                                  subst c36
                                  have H1 : (if 0 ≤ x13_2 then (if x13_2 < (t230.length : Int) then (tartanlaw07_WeaveRises.j4 k4 l0 a2 true t230 t234 x11_2 x12_17 x13_2 (decide (((rd_T37 t230 x13_2).f1) < 0))) else (none)) else (none)) = some r := by rw [if_neg (show ¬ (false = true) by decide)] at H; exact H
                                  clear H
                                  have H := H1
                                  clear H1
                                  by_cases c37 : 0 ≤ x13_2
                                  · rw [if_pos c37] at H
                                    have c37b0 : decide (0 ≤ x13_2) = true := decide_eq_true c37
                                    clear c37
                                    (first | rw [c37b0] | (simp only [i64_w, i32_w]; rw [c37b0]) | skip)
                                    by_cases c38 : x13_2 < (t230.length : Int)
                                    · rw [if_pos c38] at H
                                      have c38b0 : decide (x13_2 < (t230.length : Int)) = true := decide_eq_true c38
                                      clear c38
                                      have H' := Aside0.mk H
                                      clear H
                                      have p244 : 0 ≤ (x13_2 : Int) := of_decide_eq_true (by first | (with_reducible assumption) | assumption)
                                      have q244 : x13_2 < (t230.length : Int) := of_decide_eq_true (by first | (with_reducible assumption) | assumption)
                                      obtain ⟨ad244, e244, hx244_0, hx244_1⟩ := at_T37 (Kd.R_reads' HO_8.out).2.2 x13_2 p244 q244
                                      obtain rfl : ad237 = ad244 := (by injection e244)
                                      replace p244 := eq_true p244
                                      replace q244 := eq_true q244
                                      go_wp2
                                      repeat (go_quiet (fail); try go_wp2)
                                      go_meet
                                      case rel => exact ⟨_, (decide (((rd_T37 t230 x13_2).f1) < 0)), (by first | rfl | (simp; done) | (simp [*]; done)), H', ⟨by have := HJ5.out; have := HK2.out; have := HJ17.out; have := HK4.out; first | omega | exact Nat.le_refl _⟩, ⟨by (with_reducible repeat (first | apply Kd.R_alloc | apply Kd.R_drewN | apply Kd.R_drew)); exact HO_8.out⟩, ⟨by (with_reducible repeat (first | apply Kd.R_alloc | apply Kd.R_drewN | apply Kd.R_drew)); exact HO_10.out⟩, ⟨by repeat (first | (with_reducible first | exact HB.out | apply below_alloc | apply pw_below_drewN | apply below_drew1) | exact HB.out)⟩⟩
                                    · rw [if_neg c38] at H
                                      exact absurd H (by simp)
                                  · rw [if_neg c37] at H
                                    exact absurd H (by simp)
                              case rest =>
                                clear HC34
                                try clear c1
                                try clear c2
                                try clear p2
                                try clear q2
                                try clear hx2
                                try clear c3
                                try clear c5
                                try clear p6
                                try clear c8
                                try clear c8b0
                                try clear c8b1
                                try clear c9
                                try clear c9b0
                                try clear c10
                                try clear c11
                                try clear c12
                                try clear c12b0
                                try clear c12b1
                                try clear c16
                                try clear c16b0
                                try clear c17
                                try clear c17b0
                                try clear c20
                                try clear c20b0
                                try clear c21
                                try clear c21b0
                                try clear c21b1
                                try clear c22
                                try clear c22b0
                                try clear c23
                                try clear p23
                                try clear q23
                                try clear hx23
                                try clear p24
                                try clear q24
                                try clear hx24
                                try clear c25
                                try clear c25b0
                                try clear c26
                                try clear c26b0
                                try clear c27
                                try clear c27b0
                                try clear c28
                                try clear c28b0
                                try clear c29
                                try clear c29b0
                                try clear c30
                                try clear c30b0
                                try clear c36
                                try clear c37
                                try clear c37b0
                                try clear c38
                                try clear c38b0
                                try clear hx237_0
                                try clear hx237_1
                                try clear hx238_0
                                try clear hx238_1
                                try clear hx239_0
                                try clear hx240_0
                                try clear hx241_0
                                try clear hx242_0
                                try clear hx242_1
                                try clear hx243_0
                                try clear hx243_1
                                try clear hx244_0
                                try clear hx244_1
                                try clear p2
                                try clear p237
                                try clear p238
                                try clear p239
                                try clear p240
                                try clear p241
                                try clear p242
                                try clear p243
                                try clear p244
                                try clear p6
                                try clear q2
                                try clear q237
                                try clear q238
                                try clear q239
                                try clear q240
                                try clear q241
                                try clear q242
                                try clear q243
                                try clear q244
                                obtain ⟨kq, x109_33, rfl, HA, HJ33, HO_8, HO_10, HB⟩ := hcut
                                cases kq with
                                | zero => exact absurd HA.out (by simp [tartanlaw07_WeaveRises.j4])
                                | succ kj33 =>
                                  have H := HA.out
                                  clear HA
                                  simp only [tartanlaw07_WeaveRises.j4] at H
                                  by_cases c39 : x109_33 = true
                                  · subst c39
                                    have H1 : (if 0 ≤ x13_2 then (if x13_2 < (t230.length : Int) then (if ((rd_T37 t230 x13_2).f0) ≤ x11_2 then (some false) else (tartanlaw07_WeaveRises.l0 kj33 l0 a2 true t230 t234 ((rd_T37 t230 x13_2).f0) x12_17 (wrap64 (x13_2 + 1)))) else (none)) else (none)) = some r := by first | (rw [if_pos rfl] at H; exact H) | (rw [if_pos trivial] at H; exact H) | simpa using H
                                    clear H
                                    have H := H1
                                    clear H1
                                    by_cases c40 : 0 ≤ x13_2
                                    · rw [if_pos c40] at H
                                      have c40b0 : decide (0 ≤ x13_2) = true := decide_eq_true c40
                                      clear c40
                                      by_cases c41 : x13_2 < (t230.length : Int)
                                      · rw [if_pos c41] at H
                                        have c41b0 : decide (x13_2 < (t230.length : Int)) = true := decide_eq_true c41
                                        clear c41
                                        by_cases c42 : ((rd_T37 t230 x13_2).f0) ≤ x11_2
                                        · rw [if_pos c42] at H
                                          have c42b0 : decide (((rd_T37 t230 x13_2).f0) ≤ x11_2) = true := decide_eq_true c42
                                          clear c42
                                          obtain rfl := Option.some.inj H
                                          have p245 : 0 ≤ (x13_2 : Int) := of_decide_eq_true (by first | (with_reducible assumption) | assumption)
                                          have q245 : x13_2 < (t230.length : Int) := of_decide_eq_true (by first | (with_reducible assumption) | assumption)
                                          obtain ⟨ad245, e245, hx245_0, hx245_1⟩ := at_T37 (Kd.R_reads' HO_8.out).2.2 x13_2 p245 q245
                                          obtain rfl : ad237 = ad245 := (by injection e245)
                                          replace p245 := eq_true p245
                                          replace q245 := eq_true q245
                                          go_wp2
                                          repeat (go_quiet (fail); try go_wp2)
                                          go_ret
                                          exact ⟨by first | rfl | (simp [errW_none, errW_some] <;> rfl) | (simp [*, errW_none, errW_some] <;> rfl), by repeat (first | (with_reducible first | exact HB.out | apply below_alloc | apply pw_below_drewN | apply below_drew1) | exact HB.out)⟩
                                        · rw [if_neg c42] at H
                                          have c42b0 : decide (((rd_T37 t230 x13_2).f0) ≤ x11_2) = false := decide_eq_false c42
                                          clear c42
                                          have H' := Aside0.mk H
                                          clear H
                                          have p245 : 0 ≤ (x13_2 : Int) := of_decide_eq_true (by first | (with_reducible assumption) | assumption)
                                          have q245 : x13_2 < (t230.length : Int) := of_decide_eq_true (by first | (with_reducible assumption) | assumption)
                                          obtain ⟨ad245, e245, hx245_0, hx245_1⟩ := at_T37 (Kd.R_reads' HO_8.out).2.2 x13_2 p245 q245
                                          obtain rfl : ad237 = ad245 := (by injection e245)
                                          replace p245 := eq_true p245
                                          replace q245 := eq_true q245
                                          have p246 : 0 ≤ (x13_2 : Int) := of_decide_eq_true (by first | (with_reducible assumption) | assumption)
                                          have q246 : x13_2 < (t230.length : Int) := of_decide_eq_true (by first | (with_reducible assumption) | assumption)
                                          obtain ⟨ad246, e246, hx246_0, hx246_1⟩ := at_T37 (Kd.R_reads' HO_8.out).2.2 x13_2 p246 q246
                                          obtain rfl : ad237 = ad246 := (by injection e246)
                                          replace p246 := eq_true p246
                                          replace q246 := eq_true q246
                                          go_wp2
                                          repeat (go_quiet (fail); try go_wp2)
                                          go_roundg kj33
                                          case measure => have := HJ5.out; have := HK2.out; have := HJ17.out; have := HK4.out; have := HJ33.out; omega
                                          case rel => exact ⟨((rd_T37 t230 x13_2).f0), (x12_17), (wrap64 (x13_2 + 1)), (by first | rfl | (simp; done) | (simp [*]; done)), (by first | rfl | (simp; done) | (simp [*]; done)), (by first | rfl | (simp; done) | (simp [*]; done)), H', ⟨by have := HJ5.out; have := HK2.out; have := HJ17.out; have := HK4.out; have := HJ33.out; omega⟩, ⟨by (with_reducible repeat (first | apply Kd.R_alloc | apply Kd.R_drewN | apply Kd.R_drew)); exact HO_8.out⟩, ⟨by (with_reducible repeat (first | apply Kd.R_alloc | apply Kd.R_drewN | apply Kd.R_drew)); exact HO_10.out⟩, ⟨by repeat (first | (with_reducible first | exact HB.out | apply below_alloc | apply pw_below_drewN | apply below_drew1) | exact HB.out)⟩⟩
                                      · rw [if_neg c41] at H
                                        exact absurd H (by simp)
                                    · rw [if_neg c40] at H
                                      exact absurd H (by simp)
                                  · replace c39 := Bool.eq_false_iff.mpr c39
                                    subst c39
                                    have H1 : (tartanlaw07_WeaveRises.l0 kj33 l0 a2 true t230 t234 x11_2 x12_17 (wrap64 (x13_2 + 1))) = some r := by rw [if_neg (show ¬ (false = true) by decide)] at H; exact H
                                    clear H
                                    have H := H1
                                    clear H1
                                    have H' := Aside0.mk H
                                    clear H
                                    go_wp2
                                    repeat (go_quiet (fail); try go_wp2)
                                    go_roundg kj33
                                    case measure => have := HJ5.out; have := HK2.out; have := HJ17.out; have := HK4.out; have := HJ33.out; omega
                                    case rel => exact ⟨(x11_2), (x12_17), (wrap64 (x13_2 + 1)), (by first | rfl | (simp; done) | (simp [*]; done)), (by first | rfl | (simp; done) | (simp [*]; done)), (by first | rfl | (simp; done) | (simp [*]; done)), H', ⟨by have := HJ5.out; have := HK2.out; have := HJ17.out; have := HK4.out; have := HJ33.out; omega⟩, ⟨by (with_reducible repeat (first | apply Kd.R_alloc | apply Kd.R_drewN | apply Kd.R_drew)); exact HO_8.out⟩, ⟨by (with_reducible repeat (first | apply Kd.R_alloc | apply Kd.R_drewN | apply Kd.R_drew)); exact HO_10.out⟩, ⟨by repeat (first | (with_reducible first | exact HB.out | apply below_alloc | apply pw_below_drewN | apply below_drew1) | exact HB.out)⟩⟩
                  · rw [if_neg c17] at H
                    exact absurd H (by simp)
                · rw [if_neg c16] at H
                  have c16b0 : decide (x13_2 < (t230.length : Int)) = false := decide_eq_false c16
                  clear c16
                  have c43 : true = true := rfl
                  have H1 : (some (x12_2 == a2)) = some r := by first | (rw [if_pos rfl] at H; exact H) | (rw [if_pos trivial] at H; exact H) | simpa using H
                  clear H
                  have H := H1
                  clear H1
                  obtain rfl := Option.some.inj H
                  obtain ⟨Ao44, co44, eo44⟩ := Kd.R_slice HO_8.out
                  subst eo44
                  go_wp2
                  repeat (go_quiet (fail); try go_wp2)
                  go_ret
                  exact ⟨by first | rfl | (simp [errW_none, errW_some] <;> rfl) | (simp [*, errW_none, errW_some] <;> rfl), by repeat (first | (with_reducible first | exact HB.out | apply below_alloc | apply pw_below_drewN | apply below_drew1) | exact HB.out)⟩
          · rw [if_neg c12] at H
            have c12b0 : (t231 == 0) = false := beq_eq_false_iff_ne.mpr c12
            have c12b1 : (t231 != 0) = true := bne_iff_ne.mpr c12
            obtain rfl := Option.some.inj H
            go_wp2_with (first | (go_at_call 31; (with_reducible refine (weave_Order.calls _ _ l0 a1 a2 t230 t231 _ ?side1 ?side2 A11.out).mono ?_); (case side1 => repeat (first | exact (Kd.C_below HR0.out HB.out) | (with_reducible refine Kd.C_alloc ?_ _) | (with_reducible refine Kd.C_drewN ?_ _) | (with_reducible refine Kd.C_drew ?_))); (case side2 => exact HC0.out); rintro e w46 ⟨v232, rfl, ho0, hb⟩; have n0_ := Aside0.mk (Kd.R_lower ho0 (below_size (by repeat (first | (with_reducible first | exact HB.out | apply below_alloc | apply pw_below_drewN | apply below_drew1) | exact HB.out)))); have n1_ := Aside0.mk (below_step (by repeat (first | (with_reducible first | exact HB.out | apply below_alloc | apply pw_below_drewN | apply below_drew1) | exact HB.out)) hb); clear HB; have HO233 := n0_; have HB := n1_; clear n0_ n1_; (try clear hb); (try clear hb2); (try clear hk); (try clear hi); (try clear ho0)))
            repeat (go_quiet (first | (go_at_call 31; (with_reducible refine (weave_Order.calls _ _ l0 a1 a2 t230 t231 _ ?side1 ?side2 A11.out).mono ?_); (case side1 => repeat (first | exact (Kd.C_below HR0.out HB.out) | (with_reducible refine Kd.C_alloc ?_ _) | (with_reducible refine Kd.C_drewN ?_ _) | (with_reducible refine Kd.C_drew ?_))); (case side2 => exact HC0.out); rintro e w46 ⟨v232, rfl, ho0, hb⟩; have n0_ := Aside0.mk (Kd.R_lower ho0 (below_size (by repeat (first | (with_reducible first | exact HB.out | apply below_alloc | apply pw_below_drewN | apply below_drew1) | exact HB.out)))); have n1_ := Aside0.mk (below_step (by repeat (first | (with_reducible first | exact HB.out | apply below_alloc | apply pw_below_drewN | apply below_drew1) | exact HB.out)) hb); clear HB; have HO233 := n0_; have HB := n1_; clear n0_ n1_; (try clear hb); (try clear hb2); (try clear hk); (try clear hi); (try clear ho0))); try go_wp2_with (first | (go_at_call 31; (with_reducible refine (weave_Order.calls _ _ l0 a1 a2 t230 t231 _ ?side1 ?side2 A11.out).mono ?_); (case side1 => repeat (first | exact (Kd.C_below HR0.out HB.out) | (with_reducible refine Kd.C_alloc ?_ _) | (with_reducible refine Kd.C_drewN ?_ _) | (with_reducible refine Kd.C_drew ?_))); (case side2 => exact HC0.out); rintro e w46 ⟨v232, rfl, ho0, hb⟩; have n0_ := Aside0.mk (Kd.R_lower ho0 (below_size (by repeat (first | (with_reducible first | exact HB.out | apply below_alloc | apply pw_below_drewN | apply below_drew1) | exact HB.out)))); have n1_ := Aside0.mk (below_step (by repeat (first | (with_reducible first | exact HB.out | apply below_alloc | apply pw_below_drewN | apply below_drew1) | exact HB.out)) hb); clear HB; have HO233 := n0_; have HB := n1_; clear n0_ n1_; (try clear hb); (try clear hb2); (try clear hk); (try clear hi); (try clear ho0))))
            go_ret
            exact ⟨by first | rfl | (simp [errW_none, errW_some] <;> rfl) | (simp [*, errW_none, errW_some] <;> rfl), by repeat (first | (with_reducible first | exact HB.out | apply below_alloc | apply pw_below_drewN | apply below_drew1) | exact HB.out)⟩
  · replace c5 := Bool.eq_false_iff.mpr c5
    subst c5
    have H1 : (some false) = some r := by rw [if_neg (show ¬ (false = true) by decide)] at H; exact H
    clear H
    have H := H1
    clear H1
    obtain rfl := Option.some.inj H
    go_enter Try.func11, Try.ntmps11
    go_wp2_with (first | (go_at_call 30; (with_reducible refine (tartanlaw07_works.calls k  false _ A4.out).mono ?_); rintro e w47 ⟨rfl, hb⟩; have n0_ := Aside0.mk (below_step (by repeat (first | (with_reducible first | exact HB.out | apply below_alloc | apply pw_below_drewN | apply below_drew1) | exact HB.out)) hb); clear HB; have HB := n0_; clear n0_; (try clear hb); (try clear hb2); (try clear hk); (try clear hi)))
    repeat (go_quiet (first | (go_at_call 30; (with_reducible refine (tartanlaw07_works.calls k  false _ A4.out).mono ?_); rintro e w47 ⟨rfl, hb⟩; have n0_ := Aside0.mk (below_step (by repeat (first | (with_reducible first | exact HB.out | apply below_alloc | apply pw_below_drewN | apply below_drew1) | exact HB.out)) hb); clear HB; have HB := n0_; clear n0_; (try clear hb); (try clear hb2); (try clear hk); (try clear hi))); try go_wp2_with (first | (go_at_call 30; (with_reducible refine (tartanlaw07_works.calls k  false _ A4.out).mono ?_); rintro e w47 ⟨rfl, hb⟩; have n0_ := Aside0.mk (below_step (by repeat (first | (with_reducible first | exact HB.out | apply below_alloc | apply pw_below_drewN | apply below_drew1) | exact HB.out)) hb); clear HB; have HB := n0_; clear n0_; (try clear hb); (try clear hb2); (try clear hk); (try clear hi))))
    go_ret
    exact ⟨by first | rfl | (simp [errW_none, errW_some] <;> rfl) | (simp [*, errW_none, errW_some] <;> rfl), by repeat (first | (with_reducible first | exact HB.out | apply below_alloc | apply pw_below_drewN | apply below_drew1) | exact HB.out)⟩

end Go.Proofs.Ytphmnjapjalfgaa.X
