-- by pr.py, round the kit's print (a twelfth state) out of the translation. Not trusted: Lean checks it.
import Derived.Test.YtphmnjapjalfgaaX0
import Derived.Test.YtphmnjapjalfgaaX4
import Derived.Test.YtphmnjapjalfgaaGPairs5
namespace Go.Proofs.Ytphmnjapjalfgaa.X
open Go.RowKit Go.Proofs.YtphmnjapjalfgaaW.PrintWords Go.Proofs.YtphmnjapjalfgaaW.PrintLast Go.Proofs.YtphmnjapjalfgaaW.PrintMore
attribute [local go_sem] max2_int min2_int max_two min_two max_three min_three max_four min_four   -- for this text's walks alone
set_option linter.unusedVariables false
set_option linter.unusedSimpArgs false

/-! ### tartanlaw06_PairsLongest: function 8 -/
mutual
def tartanlaw06_PairsLongest.j0 : Nat → List (S37) → List Int → Bool → Bool → Option (Bool)
  | 0, _, _, _, _ => none
  | k + 1, x0, x1, x5, x20 => if x20 = true then (some x5) else ((pairs_Still.f x0).bind fun t322 => (tartanlaw06_PairsLongest.l0 k x0 x1 x5 t322 0))
def tartanlaw06_PairsLongest.l0 : Nat → List (S37) → List Int → Bool → List Int → Int → Option (Bool)
  | 0, _, _, _, _, _ => none
  | k + 1, x0, x1, x5, x6, x7 => if x7 < (x6.length : Int) then (if 0 ≤ x7 then (if (rd x6 x7) < 0 then (some false) else (if (rd x6 x7) ≥ (x0.length : Int) then (some false) else (if x7 > 0 then (if 0 ≤ (wrap64 (x7 - 1)) then (if (wrap64 (x7 - 1)) < (x6.length : Int) then (if (rd x6 x7) ≤ (rd x6 (wrap64 (x7 - 1))) then (some false) else (if 0 ≤ (rd x6 x7) then (if (rd x6 x7) < (x0.length : Int) then (if 0 ≤ (rd x6 (wrap64 (x7 - 1))) then (if (rd x6 (wrap64 (x7 - 1))) < (x0.length : Int) then (if ((rd_T37 x0 (rd x6 x7)).f0) ≤ ((rd_T37 x0 (rd x6 (wrap64 (x7 - 1)))).f0) then (some false) else (tartanlaw06_PairsLongest.l0 k x0 x1 x5 x6 (wrap64 (x7 + 1)))) else (none)) else (none)) else (none)) else (none))) else (none)) else (none)) else (tartanlaw06_PairsLongest.l0 k x0 x1 x5 x6 (wrap64 (x7 + 1)))))) else (none)) else (tartanlaw06_PairsLongest.l1 k x0 x1 x5 x6 0)
def tartanlaw06_PairsLongest.l1 : Nat → List (S37) → List Int → Bool → List Int → Int → Option (Bool)
  | 0, _, _, _, _, _ => none
  | k + 1, x0, x1, x5, x6, x8 => if x8 < (x1.length : Int) then (if 0 ≤ x8 then (if (rd x1 x8) < 0 then (some x5) else (if (rd x1 x8) ≥ (x0.length : Int) then (some x5) else (if x8 > 0 then (if 0 ≤ (wrap64 (x8 - 1)) then (if (wrap64 (x8 - 1)) < (x1.length : Int) then (if (rd x1 x8) ≤ (rd x1 (wrap64 (x8 - 1))) then (some x5) else (if 0 ≤ (rd x1 x8) then (if (rd x1 x8) < (x0.length : Int) then (if 0 ≤ (rd x1 (wrap64 (x8 - 1))) then (if (rd x1 (wrap64 (x8 - 1))) < (x0.length : Int) then (if ((rd_T37 x0 (rd x1 x8)).f0) ≤ ((rd_T37 x0 (rd x1 (wrap64 (x8 - 1)))).f0) then (some x5) else (tartanlaw06_PairsLongest.l1 k x0 x1 x5 x6 (wrap64 (x8 + 1)))) else (none)) else (none)) else (none)) else (none))) else (none)) else (none)) else (tartanlaw06_PairsLongest.l1 k x0 x1 x5 x6 (wrap64 (x8 + 1)))))) else (none)) else (if (x1.length : Int) > (x6.length : Int) then (some false) else (if (x1.length : Int) < (x6.length : Int) then (some x5) else (tartanlaw06_PairsLongest.l2 k x1 x5 x6 0)))
def tartanlaw06_PairsLongest.l2 : Nat → List Int → Bool → List Int → Int → Option (Bool)
  | 0, _, _, _, _ => none
  | k + 1, x1, x5, x6, x9 => if x9 < (x6.length : Int) then (if 0 ≤ x9 then (if x9 < (x1.length : Int) then (if (rd x6 x9) = (rd x1 x9) then (tartanlaw06_PairsLongest.l2 k x1 x5 x6 (wrap64 (x9 + 1))) else (if x5 = true then (some (decide ((rd x6 x9) < (rd x1 x9)))) else (some false))) else (none)) else (none)) else (some x5)
end
def tartanlaw06_PairsLongest.f (k : Nat) (l0 : List (S37)) (l1 : List Int) : Option (Bool) := (tartanlaw06_works.f k).bind fun t321 => (if t321 = true then (if (l0.length : Int) > 60 then (tartanlaw06_PairsLongest.j0 k l0 l1 t321 true) else (tartanlaw06_PairsLongest.j0 k l0 l1 t321 (decide ((l1.length : Int) > 60)))) else (some false))
theorem tartanlaw06_PairsLongest.mono_l : ∀ k, (∀ y0 y1 y2 y3, LeO (tartanlaw06_PairsLongest.j0 k y0 y1 y2 y3) (tartanlaw06_PairsLongest.j0 (k + 1) y0 y1 y2 y3)) ∧ (∀ y0 y1 y2 y3 y4, LeO (tartanlaw06_PairsLongest.l0 k y0 y1 y2 y3 y4) (tartanlaw06_PairsLongest.l0 (k + 1) y0 y1 y2 y3 y4)) ∧ (∀ y0 y1 y2 y3 y4, LeO (tartanlaw06_PairsLongest.l1 k y0 y1 y2 y3 y4) (tartanlaw06_PairsLongest.l1 (k + 1) y0 y1 y2 y3 y4)) ∧ (∀ y0 y1 y2 y3, LeO (tartanlaw06_PairsLongest.l2 k y0 y1 y2 y3) (tartanlaw06_PairsLongest.l2 (k + 1) y0 y1 y2 y3))
  | 0 => ⟨fun _ _ _ _ r h => by simp [tartanlaw06_PairsLongest.j0] at h, fun _ _ _ _ _ r h => by simp [tartanlaw06_PairsLongest.l0] at h, fun _ _ _ _ _ r h => by simp [tartanlaw06_PairsLongest.l1] at h, fun _ _ _ _ r h => by simp [tartanlaw06_PairsLongest.l2] at h⟩
  | k + 1 => by
    obtain ⟨ih0, ih1, ih2, ih3⟩ := tartanlaw06_PairsLongest.mono_l k
    refine ⟨?_, ?_, ?_, ?_⟩
    · intro y0 y1 y2 y3
      unfold tartanlaw06_PairsLongest.j0
      repeat' first
      | (with_reducible exact ih0 _ _ _ _)
      | (with_reducible exact ih1 _ _ _ _ _)
      | (with_reducible exact ih2 _ _ _ _ _)
      | (with_reducible exact ih3 _ _ _ _)
      | (with_reducible exact tartanlaw06_works.mono _)
      | (with_reducible exact LeO.refl _)
      | (with_reducible exact LeO.none _)
      | (with_reducible refine LeO.ite ?_ ?_)
      | (with_reducible refine LeO.bind ?_ (fun _ => ?_))
      | exact ih0 _ _ _ _
      | exact ih1 _ _ _ _ _
      | exact ih2 _ _ _ _ _
      | exact ih3 _ _ _ _
      | exact tartanlaw06_works.mono _
      | exact LeO.none _
      | refine LeO.ite ?_ ?_
      | refine LeO.bind ?_ (fun _ => ?_)
    · intro y0 y1 y2 y3 y4
      unfold tartanlaw06_PairsLongest.l0
      repeat' first
      | (with_reducible exact ih0 _ _ _ _)
      | (with_reducible exact ih1 _ _ _ _ _)
      | (with_reducible exact ih2 _ _ _ _ _)
      | (with_reducible exact ih3 _ _ _ _)
      | (with_reducible exact tartanlaw06_works.mono _)
      | (with_reducible exact LeO.refl _)
      | (with_reducible exact LeO.none _)
      | (with_reducible refine LeO.ite ?_ ?_)
      | (with_reducible refine LeO.bind ?_ (fun _ => ?_))
      | exact ih0 _ _ _ _
      | exact ih1 _ _ _ _ _
      | exact ih2 _ _ _ _ _
      | exact ih3 _ _ _ _
      | exact tartanlaw06_works.mono _
      | exact LeO.none _
      | refine LeO.ite ?_ ?_
      | refine LeO.bind ?_ (fun _ => ?_)
    · intro y0 y1 y2 y3 y4
      unfold tartanlaw06_PairsLongest.l1
      repeat' first
      | (with_reducible exact ih0 _ _ _ _)
      | (with_reducible exact ih1 _ _ _ _ _)
      | (with_reducible exact ih2 _ _ _ _ _)
      | (with_reducible exact ih3 _ _ _ _)
      | (with_reducible exact tartanlaw06_works.mono _)
      | (with_reducible exact LeO.refl _)
      | (with_reducible exact LeO.none _)
      | (with_reducible refine LeO.ite ?_ ?_)
      | (with_reducible refine LeO.bind ?_ (fun _ => ?_))
      | exact ih0 _ _ _ _
      | exact ih1 _ _ _ _ _
      | exact ih2 _ _ _ _ _
      | exact ih3 _ _ _ _
      | exact tartanlaw06_works.mono _
      | exact LeO.none _
      | refine LeO.ite ?_ ?_
      | refine LeO.bind ?_ (fun _ => ?_)
    · intro y0 y1 y2 y3
      unfold tartanlaw06_PairsLongest.l2
      repeat' first
      | (with_reducible exact ih0 _ _ _ _)
      | (with_reducible exact ih1 _ _ _ _ _)
      | (with_reducible exact ih2 _ _ _ _ _)
      | (with_reducible exact ih3 _ _ _ _)
      | (with_reducible exact tartanlaw06_works.mono _)
      | (with_reducible exact LeO.refl _)
      | (with_reducible exact LeO.none _)
      | (with_reducible refine LeO.ite ?_ ?_)
      | (with_reducible refine LeO.bind ?_ (fun _ => ?_))
      | exact ih0 _ _ _ _
      | exact ih1 _ _ _ _ _
      | exact ih2 _ _ _ _ _
      | exact ih3 _ _ _ _
      | exact tartanlaw06_works.mono _
      | exact LeO.none _
      | refine LeO.ite ?_ ?_
      | refine LeO.bind ?_ (fun _ => ?_)
theorem tartanlaw06_PairsLongest.mono : ∀ a0 a1 k, LeO (tartanlaw06_PairsLongest.f k a0 a1) (tartanlaw06_PairsLongest.f (k + 1) a0 a1) := by
  intro a0 a1 k
  obtain ⟨ih0, ih1, ih2, ih3⟩ := tartanlaw06_PairsLongest.mono_l k
  unfold tartanlaw06_PairsLongest.f
  repeat' first
      | (with_reducible exact ih0 _ _ _ _)
      | (with_reducible exact ih1 _ _ _ _ _)
      | (with_reducible exact ih2 _ _ _ _ _)
      | (with_reducible exact ih3 _ _ _ _)
      | (with_reducible exact tartanlaw06_works.mono _)
      | (with_reducible exact LeO.refl _)
      | (with_reducible exact LeO.none _)
      | (with_reducible refine LeO.ite ?_ ?_)
      | (with_reducible refine LeO.bind ?_ (fun _ => ?_))
      | exact ih0 _ _ _ _
      | exact ih1 _ _ _ _ _
      | exact ih2 _ _ _ _ _
      | exact ih3 _ _ _ _
      | exact tartanlaw06_works.mono _
      | exact LeO.none _
      | refine LeO.ite ?_ ?_
      | refine LeO.bind ?_ (fun _ => ?_)
set_option maxHeartbeats 8000000 in
set_option maxRecDepth 100000 in
theorem tartanlaw06_PairsLongest.calls (k : Nat) (A0 : Option Addr) (c0 : Nat) (l0 : List (S37)) (A1 : Option Addr) (c1 : Nat) (l1 : List Int) (r : Bool) (w : World) (hr0 : Kd.C k37 w A0 l0.length l0) (hc0 : l0.length ≤ c0) (hr1 : Kd.C (Kd.int .i64) w A1 l1.length l1) (hc1 : l1.length ≤ c1) (h : tartanlaw06_PairsLongest.f k l0 l1 = some r) :
    Calls Try.prog 8 #[.slice A0 l0.length c0, .slice A1 l1.length c1] w fun e w' => e = .returned (.bool r) ∧ Below w.heap.size w w' := by
  have HR0 := Aside0.mk hr0
  have HC0 := Aside0.mk hc0
  clear hr0 hc0
  have HR1 := Aside0.mk hr1
  have HC1 := Aside0.mk hc1
  clear hr1 hc1
  have HB := Aside0.mk (Below.refl w.heap.size w)
  have H : ((tartanlaw06_works.f k).bind fun t321 => (if t321 = true then (if (l0.length : Int) > 60 then (tartanlaw06_PairsLongest.j0 k l0 l1 t321 true) else (tartanlaw06_PairsLongest.j0 k l0 l1 t321 (decide ((l1.length : Int) > 60)))) else (some false))) = some r := h
  clear h
  replace H := Option.bind_eq_some_iff.mp H
  obtain ⟨t321, A30, H⟩ := H
  replace H : (if t321 = true then (if (l0.length : Int) > 60 then (tartanlaw06_PairsLongest.j0 k l0 l1 t321 true) else (tartanlaw06_PairsLongest.j0 k l0 l1 t321 (decide ((l1.length : Int) > 60)))) else (some false)) = some r := H
  have A3 := Aside0.mk A30
  clear A30
  by_cases c4 : t321 = true
  · subst c4
    have H1 : (if (l0.length : Int) > 60 then (tartanlaw06_PairsLongest.j0 k l0 l1 true true) else (tartanlaw06_PairsLongest.j0 k l0 l1 true (decide ((l1.length : Int) > 60)))) = some r := by first | (rw [if_pos rfl] at H; exact H) | (rw [if_pos trivial] at H; exact H) | simpa using H
    clear H
    have H := H1
    clear H1
    have HC5 := Aside0.mk H
    clear H
    go_enter Try.func8, Try.ntmps8
    go_upto_region 4 with (first | (go_at_call 14; (with_reducible refine (tartanlaw06_works.calls k  true _ A3.out).mono ?_); rintro e w6 ⟨rfl, hb⟩; have n0_ := Aside0.mk (below_step (by repeat (first | (with_reducible first | exact HB.out | apply below_alloc | apply pw_below_drewN | apply below_drew1) | exact HB.out)) hb); clear HB; have HB := n0_; clear n0_; (try clear hb); (try clear hb2); (try clear hk); (try clear hi)))
    repeat (go_quiet (first | (go_at_call 14; (with_reducible refine (tartanlaw06_works.calls k  true _ A3.out).mono ?_); rintro e w6 ⟨rfl, hb⟩; have n0_ := Aside0.mk (below_step (by repeat (first | (with_reducible first | exact HB.out | apply below_alloc | apply pw_below_drewN | apply below_drew1) | exact HB.out)) hb); clear HB; have HB := n0_; clear n0_; (try clear hb); (try clear hb2); (try clear hk); (try clear hi))); go_upto_region 4 with (first | (go_at_call 14; (with_reducible refine (tartanlaw06_works.calls k  true _ A3.out).mono ?_); rintro e w6 ⟨rfl, hb⟩; have n0_ := Aside0.mk (below_step (by repeat (first | (with_reducible first | exact HB.out | apply below_alloc | apply pw_below_drewN | apply below_drew1) | exact HB.out)) hb); clear HB; have HB := n0_; clear n0_; (try clear hb); (try clear hb2); (try clear hk); (try clear hi))))
    (try simp only [Act.put, List.setIfInBounds_toArray, List.set_cons_zero, List.set_cons_succ])
    go_cut [20] (fun v20 wc => ∃ (kq : Nat) (x20_4 : Bool), v20 = .bool x20_4 ∧ Aside0 (tartanlaw06_PairsLongest.j0 kq l0 l1 true x20_4 = some r) ∧ Aside0 (kq ≤ k) ∧ Aside0 (Below w.heap.size w wc))
    case first =>
      have H := HC5.out
      clear HC5
      by_cases c7 : (l0.length : Int) > 60
      · rw [if_pos c7] at H
        have c7b0 : decide (60 < (l0.length : Int)) = true := decide_eq_true c7
        have c7b1 : decide (60 < l0.length) = true := decide_eq_true (by omega)
        clear c7
        (first | rw [c7b0] | (simp only [i64_w, i32_w]; rw [c7b0]) | skip)
        have H' := Aside0.mk H
        clear H
        go_wp2
        repeat (go_quiet (fail); try go_wp2)
        go_meet
        case rel => exact ⟨_, (true), (by first | rfl | (simp; done) | (simp [*]; done)), H', ⟨by first | omega | exact Nat.le_refl _⟩, ⟨by repeat (first | (with_reducible first | exact HB.out | apply below_alloc | apply pw_below_drewN | apply below_drew1) | exact HB.out)⟩⟩
      · rw [if_neg c7] at H
        have c7b0 : decide (60 < (l0.length : Int)) = false := decide_eq_false c7
        have c7b1 : decide (60 < l0.length) = false := decide_eq_false (by omega)
        clear c7
        (first | rw [c7b0] | (simp only [i64_w, i32_w]; rw [c7b0]) | skip)
        have H' := Aside0.mk H
        clear H
        go_wp2
        repeat (go_quiet (fail); try go_wp2)
        go_meet
        case rel => exact ⟨_, (decide ((l1.length : Int) > 60)), (by first | rfl | (simp; done) | (simp [*]; done)), H', ⟨by first | omega | exact Nat.le_refl _⟩, ⟨by repeat (first | (with_reducible first | exact HB.out | apply below_alloc | apply pw_below_drewN | apply below_drew1) | exact HB.out)⟩⟩
    case rest =>
      clear HC5
      try clear c1
      try clear p2
      try clear c4
      try clear c7
      try clear c7b0
      try clear c7b1
      obtain ⟨kq, x20_4, rfl, HA, HJ4, HB⟩ := hcut
      cases kq with
      | zero => exact absurd HA.out (by simp [tartanlaw06_PairsLongest.j0])
      | succ kj4 =>
        have H := HA.out
        clear HA
        simp only [tartanlaw06_PairsLongest.j0] at H
        by_cases c8 : x20_4 = true
        · subst c8
          have H1 : (some true) = some r := by first | (rw [if_pos rfl] at H; exact H) | (rw [if_pos trivial] at H; exact H) | simpa using H
          clear H
          have H := H1
          clear H1
          obtain rfl := Option.some.inj H
          go_wp2
          repeat (go_quiet (fail); try go_wp2)
          go_ret
          exact ⟨by first | rfl | (simp [errW_none, errW_some] <;> rfl) | (simp [*, errW_none, errW_some] <;> rfl), by repeat (first | (with_reducible first | exact HB.out | apply below_alloc | apply pw_below_drewN | apply below_drew1) | exact HB.out)⟩
        · replace c8 := Bool.eq_false_iff.mpr c8
          subst c8
          have H1 : ((pairs_Still.f l0).bind fun t322 => (tartanlaw06_PairsLongest.l0 kj4 l0 l1 true t322 0)) = some r := by rw [if_neg (show ¬ (false = true) by decide)] at H; exact H
          clear H
          have H := H1
          clear H1
          replace H := Option.bind_eq_some_iff.mp H
          obtain ⟨t322, A90, H⟩ := H
          replace H : (tartanlaw06_PairsLongest.l0 kj4 l0 l1 true t322 0) = some r := H
          have A9 := Aside0.mk A90
          clear A90
          have H' := Aside0.mk H
          clear H
          go_wp2_with (first | (go_at_call 24; (with_reducible refine (pairs_Still.calls _ _ l0 t322 _ ?side1 ?side2 A9.out).mono ?_); (case side1 => repeat (first | exact (Kd.C_below HR0.out HB.out) | (with_reducible refine Kd.C_alloc ?_ _) | (with_reducible refine Kd.C_drewN ?_ _) | (with_reducible refine Kd.C_drew ?_))); (case side2 => exact HC0.out); rintro e w10 ⟨v323, rfl, ho0, hb⟩; have n0_ := Aside0.mk (Kd.R_lower ho0 (below_size (by repeat (first | (with_reducible first | exact HB.out | apply below_alloc | apply pw_below_drewN | apply below_drew1) | exact HB.out)))); have n1_ := Aside0.mk (below_step (by repeat (first | (with_reducible first | exact HB.out | apply below_alloc | apply pw_below_drewN | apply below_drew1) | exact HB.out)) hb); clear HB; have HO324 := n0_; have HB := n1_; clear n0_ n1_; (try clear hb); (try clear hb2); (try clear hk); (try clear hi); (try clear ho0)))
          repeat (go_quiet (first | (go_at_call 24; (with_reducible refine (pairs_Still.calls _ _ l0 t322 _ ?side1 ?side2 A9.out).mono ?_); (case side1 => repeat (first | exact (Kd.C_below HR0.out HB.out) | (with_reducible refine Kd.C_alloc ?_ _) | (with_reducible refine Kd.C_drewN ?_ _) | (with_reducible refine Kd.C_drew ?_))); (case side2 => exact HC0.out); rintro e w10 ⟨v323, rfl, ho0, hb⟩; have n0_ := Aside0.mk (Kd.R_lower ho0 (below_size (by repeat (first | (with_reducible first | exact HB.out | apply below_alloc | apply pw_below_drewN | apply below_drew1) | exact HB.out)))); have n1_ := Aside0.mk (below_step (by repeat (first | (with_reducible first | exact HB.out | apply below_alloc | apply pw_below_drewN | apply below_drew1) | exact HB.out)) hb); clear HB; have HO324 := n0_; have HB := n1_; clear n0_ n1_; (try clear hb); (try clear hb2); (try clear hk); (try clear hi); (try clear ho0))); try go_wp2_with (first | (go_at_call 24; (with_reducible refine (pairs_Still.calls _ _ l0 t322 _ ?side1 ?side2 A9.out).mono ?_); (case side1 => repeat (first | exact (Kd.C_below HR0.out HB.out) | (with_reducible refine Kd.C_alloc ?_ _) | (with_reducible refine Kd.C_drewN ?_ _) | (with_reducible refine Kd.C_drew ?_))); (case side2 => exact HC0.out); rintro e w10 ⟨v323, rfl, ho0, hb⟩; have n0_ := Aside0.mk (Kd.R_lower ho0 (below_size (by repeat (first | (with_reducible first | exact HB.out | apply below_alloc | apply pw_below_drewN | apply below_drew1) | exact HB.out)))); have n1_ := Aside0.mk (below_step (by repeat (first | (with_reducible first | exact HB.out | apply below_alloc | apply pw_below_drewN | apply below_drew1) | exact HB.out)) hb); clear HB; have HO324 := n0_; have HB := n1_; clear n0_ n1_; (try clear hb); (try clear hb2); (try clear hk); (try clear hi); (try clear ho0))))
          go_loopg [7] kj4 (fun kq v7 w' => ∃ (x7_2 : Int), v7 = .int .i64 x7_2 ∧ Aside0 (tartanlaw06_PairsLongest.l0 kq l0 l1 true t322 x7_2 = some r) ∧ Aside0 (kq ≤ kj4) ∧ Aside0 (Kd.R (Kd.int .i64) 3 w' w.heap.size (fun _ => True) v323 t322) ∧ Aside0 (Below w.heap.size w w'))
          case atStart => exact ⟨(0), (by first | rfl | (simp; done) | (simp [*]; done)), H', ⟨Nat.le_refl _⟩, ⟨by (with_reducible repeat (first | apply Kd.R_alloc | apply Kd.R_drewN | apply Kd.R_drew)); exact HO324.out⟩, ⟨by repeat (first | (with_reducible first | exact HB.out | apply below_alloc | apply pw_below_drewN | apply below_drew1) | exact HB.out)⟩⟩
          case round =>
            clear H'
            try clear c1
            try clear p2
            try clear c4
            try clear c7
            try clear c7b0
            try clear c7b1
            try clear c8
            try clear p2
            obtain ⟨x7_2, rfl, HA, HK2, HO_6, HB⟩ := hrel
            cases gk with
            | zero => exact absurd HA.out (by simp [tartanlaw06_PairsLongest.l0])
            | succ k2 =>
              have H := HA.out
              clear HA
              simp only [tartanlaw06_PairsLongest.l0] at H
              by_cases c11 : x7_2 < (t322.length : Int)
              · rw [if_pos c11] at H
                have c11b0 : decide (x7_2 < (t322.length : Int)) = true := decide_eq_true c11
                clear c11
                by_cases c12 : 0 ≤ x7_2
                · rw [if_pos c12] at H
                  have c12b0 : decide (0 ≤ x7_2) = true := decide_eq_true c12
                  clear c12
                  by_cases c13 : (rd t322 x7_2) < 0
                  · rw [if_pos c13] at H
                    have c13b0 : decide ((rd t322 x7_2) < 0) = true := decide_eq_true c13
                    clear c13
                    obtain rfl := Option.some.inj H
                    obtain ⟨Ao14, co14, eo14⟩ := Kd.R_slice HO_6.out
                    subst eo14
                    have p325 : 0 ≤ (x7_2 : Int) := of_decide_eq_true (by first | (with_reducible assumption) | assumption)
                    have q325 : x7_2 < (t322.length : Int) := of_decide_eq_true (by first | (with_reducible assumption) | assumption)
                    obtain ⟨ad325, e325, hx325_0⟩ := Kd.at_int (Kd.R_reads' HO_6.out).2.2 x7_2 p325 q325
                    cases e325
                    replace p325 := eq_true p325
                    replace q325 := eq_true q325
                    go_wp2
                    repeat (go_quiet (fail); try go_wp2)
                    go_ret
                    exact ⟨by first | rfl | (simp [errW_none, errW_some] <;> rfl) | (simp [*, errW_none, errW_some] <;> rfl), by repeat (first | (with_reducible first | exact HB.out | apply below_alloc | apply pw_below_drewN | apply below_drew1) | exact HB.out)⟩
                  · rw [if_neg c13] at H
                    have c13b0 : decide ((rd t322 x7_2) < 0) = false := decide_eq_false c13
                    clear c13
                    by_cases c15 : (rd t322 x7_2) ≥ (l0.length : Int)
                    · rw [if_pos c15] at H
                      have c15b0 : decide ((l0.length : Int) ≤ (rd t322 x7_2)) = true := decide_eq_true c15
                      clear c15
                      obtain rfl := Option.some.inj H
                      obtain ⟨Ao16, co16, eo16⟩ := Kd.R_slice HO_6.out
                      subst eo16
                      have p325 : 0 ≤ (x7_2 : Int) := of_decide_eq_true (by first | (with_reducible assumption) | assumption)
                      have q325 : x7_2 < (t322.length : Int) := of_decide_eq_true (by first | (with_reducible assumption) | assumption)
                      obtain ⟨ad325, e325, hx325_0⟩ := Kd.at_int (Kd.R_reads' HO_6.out).2.2 x7_2 p325 q325
                      cases e325
                      replace p325 := eq_true p325
                      replace q325 := eq_true q325
                      have p326 : 0 ≤ (x7_2 : Int) := of_decide_eq_true (by first | (with_reducible assumption) | assumption)
                      have q326 : x7_2 < (t322.length : Int) := of_decide_eq_true (by first | (with_reducible assumption) | assumption)
                      obtain ⟨ad326, e326, hx326_0⟩ := Kd.at_int (Kd.R_reads' HO_6.out).2.2 x7_2 p326 q326
                      obtain rfl : ad325 = ad326 := (by injection e326)
                      replace p326 := eq_true p326
                      replace q326 := eq_true q326
                      go_wp2
                      repeat (go_quiet (fail); try go_wp2)
                      go_ret
                      exact ⟨by first | rfl | (simp [errW_none, errW_some] <;> rfl) | (simp [*, errW_none, errW_some] <;> rfl), by repeat (first | (with_reducible first | exact HB.out | apply below_alloc | apply pw_below_drewN | apply below_drew1) | exact HB.out)⟩
                    · rw [if_neg c15] at H
                      have c15b0 : decide ((l0.length : Int) ≤ (rd t322 x7_2)) = false := decide_eq_false c15
                      clear c15
                      by_cases c17 : x7_2 > 0
                      · rw [if_pos c17] at H
                        have c17b0 : decide (0 < x7_2) = true := decide_eq_true c17
                        clear c17
                        obtain ⟨ji18, hji18⟩ : ∃ j_ : Int, (wrap64 (x7_2 - 1)) = j_ := ⟨_, rfl⟩
                        replace H : (if 0 ≤ (ji18) then (if (ji18) < (t322.length : Int) then (if (rd t322 x7_2) ≤ (rd t322 (ji18)) then (some false) else (if 0 ≤ (rd t322 x7_2) then (if (rd t322 x7_2) < (l0.length : Int) then (if 0 ≤ (rd t322 (ji18)) then (if (rd t322 (ji18)) < (l0.length : Int) then (if ((rd_T37 l0 (rd t322 x7_2)).f0) ≤ ((rd_T37 l0 (rd t322 (ji18))).f0) then (some false) else (tartanlaw06_PairsLongest.l0 k2 l0 l1 true t322 (wrap64 (x7_2 + 1)))) else (none)) else (none)) else (none)) else (none))) else (none)) else (none)) = some r := by first | (rw [hji18] at H; exact H) | (simp only [hji18] at H ⊢; exact H)
                        have hji18w : (IntKind.i64.wrap (x7_2 - 1)) = ji18 := (i64_w _).trans hji18
                        by_cases c19 : 0 ≤ (ji18)
                        · rw [if_pos c19] at H
                          have c19b0 : decide (0 ≤ (ji18)) = true := decide_eq_true c19
                          clear c19
                          by_cases c20 : (ji18) < (t322.length : Int)
                          · rw [if_pos c20] at H
                            have c20b0 : decide ((ji18) < (t322.length : Int)) = true := decide_eq_true c20
                            clear c20
                            by_cases c21 : (rd t322 x7_2) ≤ (rd t322 (ji18))
                            · rw [if_pos c21] at H
                              have c21b0 : decide ((rd t322 x7_2) ≤ (rd t322 (ji18))) = true := decide_eq_true c21
                              clear c21
                              obtain rfl := Option.some.inj H
                              obtain ⟨Ao22, co22, eo22⟩ := Kd.R_slice HO_6.out
                              subst eo22
                              have p325 : 0 ≤ (x7_2 : Int) := of_decide_eq_true (by first | (with_reducible assumption) | assumption)
                              have q325 : x7_2 < (t322.length : Int) := of_decide_eq_true (by first | (with_reducible assumption) | assumption)
                              obtain ⟨ad325, e325, hx325_0⟩ := Kd.at_int (Kd.R_reads' HO_6.out).2.2 x7_2 p325 q325
                              cases e325
                              replace p325 := eq_true p325
                              replace q325 := eq_true q325
                              have p326 : 0 ≤ (x7_2 : Int) := of_decide_eq_true (by first | (with_reducible assumption) | assumption)
                              have q326 : x7_2 < (t322.length : Int) := of_decide_eq_true (by first | (with_reducible assumption) | assumption)
                              obtain ⟨ad326, e326, hx326_0⟩ := Kd.at_int (Kd.R_reads' HO_6.out).2.2 x7_2 p326 q326
                              obtain rfl : ad325 = ad326 := (by injection e326)
                              replace p326 := eq_true p326
                              replace q326 := eq_true q326
                              have p327 : 0 ≤ (x7_2 : Int) := of_decide_eq_true (by first | (with_reducible assumption) | assumption)
                              have q327 : x7_2 < (t322.length : Int) := of_decide_eq_true (by first | (with_reducible assumption) | assumption)
                              obtain ⟨ad327, e327, hx327_0⟩ := Kd.at_int (Kd.R_reads' HO_6.out).2.2 x7_2 p327 q327
                              obtain rfl : ad325 = ad327 := (by injection e327)
                              replace p327 := eq_true p327
                              replace q327 := eq_true q327
                              have p328 : 0 ≤ ((ji18) : Int) := of_decide_eq_true (by first | (with_reducible assumption) | assumption)
                              have q328 : (ji18) < (t322.length : Int) := of_decide_eq_true (by first | (with_reducible assumption) | assumption)
                              obtain ⟨ad328, e328, hx328_0⟩ := Kd.at_int (Kd.R_reads' HO_6.out).2.2 (ji18) p328 q328
                              obtain rfl : ad325 = ad328 := (by injection e328)
                              replace p328 := eq_true p328
                              replace q328 := eq_true q328
                              go_wp2
                              repeat (go_quiet (fail); try go_wp2)
                              go_ret
                              exact ⟨by first | rfl | (simp [errW_none, errW_some] <;> rfl) | (simp only [← hji18]; first | rfl | (simp [errW_none, errW_some] <;> rfl)) | (simp [*, errW_none, errW_some] <;> rfl), by repeat (first | (with_reducible first | exact HB.out | apply below_alloc | apply pw_below_drewN | apply below_drew1) | exact HB.out)⟩
                            · rw [if_neg c21] at H
                              have c21b0 : decide ((rd t322 x7_2) ≤ (rd t322 (ji18))) = false := decide_eq_false c21
                              clear c21
                              by_cases c23 : 0 ≤ (rd t322 x7_2)
                              · rw [if_pos c23] at H
                                have c23b0 : decide (0 ≤ (rd t322 x7_2)) = true := decide_eq_true c23
                                clear c23
                                by_cases c24 : (rd t322 x7_2) < (l0.length : Int)
                                · rw [if_pos c24] at H
                                  have c24b0 : decide ((rd t322 x7_2) < (l0.length : Int)) = true := decide_eq_true c24
                                  clear c24
                                  by_cases c25 : 0 ≤ (rd t322 (ji18))
                                  · rw [if_pos c25] at H
                                    have c25b0 : decide (0 ≤ (rd t322 (ji18))) = true := decide_eq_true c25
                                    clear c25
                                    by_cases c26 : (rd t322 (ji18)) < (l0.length : Int)
                                    · rw [if_pos c26] at H
                                      have c26b0 : decide ((rd t322 (ji18)) < (l0.length : Int)) = true := decide_eq_true c26
                                      clear c26
                                      by_cases c27 : ((rd_T37 l0 (rd t322 x7_2)).f0) ≤ ((rd_T37 l0 (rd t322 (ji18))).f0)
                                      · rw [if_pos c27] at H
                                        have c27b0 : decide (((rd_T37 l0 (rd t322 x7_2)).f0) ≤ ((rd_T37 l0 (rd t322 (ji18))).f0)) = true := decide_eq_true c27
                                        clear c27
                                        obtain rfl := Option.some.inj H
                                        obtain ⟨Ao28, co28, eo28⟩ := Kd.R_slice HO_6.out
                                        subst eo28
                                        have p325 : 0 ≤ (x7_2 : Int) := of_decide_eq_true (by first | (with_reducible assumption) | assumption)
                                        have q325 : x7_2 < (t322.length : Int) := of_decide_eq_true (by first | (with_reducible assumption) | assumption)
                                        obtain ⟨ad325, e325, hx325_0⟩ := Kd.at_int (Kd.R_reads' HO_6.out).2.2 x7_2 p325 q325
                                        cases e325
                                        replace p325 := eq_true p325
                                        replace q325 := eq_true q325
                                        have p326 : 0 ≤ (x7_2 : Int) := of_decide_eq_true (by first | (with_reducible assumption) | assumption)
                                        have q326 : x7_2 < (t322.length : Int) := of_decide_eq_true (by first | (with_reducible assumption) | assumption)
                                        obtain ⟨ad326, e326, hx326_0⟩ := Kd.at_int (Kd.R_reads' HO_6.out).2.2 x7_2 p326 q326
                                        obtain rfl : ad325 = ad326 := (by injection e326)
                                        replace p326 := eq_true p326
                                        replace q326 := eq_true q326
                                        have p327 : 0 ≤ (x7_2 : Int) := of_decide_eq_true (by first | (with_reducible assumption) | assumption)
                                        have q327 : x7_2 < (t322.length : Int) := of_decide_eq_true (by first | (with_reducible assumption) | assumption)
                                        obtain ⟨ad327, e327, hx327_0⟩ := Kd.at_int (Kd.R_reads' HO_6.out).2.2 x7_2 p327 q327
                                        obtain rfl : ad325 = ad327 := (by injection e327)
                                        replace p327 := eq_true p327
                                        replace q327 := eq_true q327
                                        have p328 : 0 ≤ ((ji18) : Int) := of_decide_eq_true (by first | (with_reducible assumption) | assumption)
                                        have q328 : (ji18) < (t322.length : Int) := of_decide_eq_true (by first | (with_reducible assumption) | assumption)
                                        obtain ⟨ad328, e328, hx328_0⟩ := Kd.at_int (Kd.R_reads' HO_6.out).2.2 (ji18) p328 q328
                                        obtain rfl : ad325 = ad328 := (by injection e328)
                                        replace p328 := eq_true p328
                                        replace q328 := eq_true q328
                                        have p329 : 0 ≤ (x7_2 : Int) := of_decide_eq_true (by first | (with_reducible assumption) | assumption)
                                        have q329 : x7_2 < (t322.length : Int) := of_decide_eq_true (by first | (with_reducible assumption) | assumption)
                                        obtain ⟨ad329, e329, hx329_0⟩ := Kd.at_int (Kd.R_reads' HO_6.out).2.2 x7_2 p329 q329
                                        obtain rfl : ad325 = ad329 := (by injection e329)
                                        replace p329 := eq_true p329
                                        replace q329 := eq_true q329
                                        have p330 : 0 ≤ ((rd t322 x7_2) : Int) := of_decide_eq_true (by first | (with_reducible assumption) | assumption)
                                        have q330 : (rd t322 x7_2) < (l0.length : Int) := of_decide_eq_true (by first | (with_reducible assumption) | assumption)
                                        obtain ⟨ad330, e330, hx330_0, hx330_1⟩ := at_T37 HR0.out (rd t322 x7_2) p330 q330
                                        cases e330
                                        replace hx330_0 := (HB.out.cell (World.block_lt_of_cell? w _ hx330_0)).trans hx330_0
                                        replace hx330_1 := (HB.out.cell (World.block_lt_of_cell? w _ hx330_1)).trans hx330_1
                                        replace p330 := eq_true p330
                                        replace q330 := eq_true q330
                                        have p331 : 0 ≤ ((ji18) : Int) := of_decide_eq_true (by first | (with_reducible assumption) | assumption)
                                        have q331 : (ji18) < (t322.length : Int) := of_decide_eq_true (by first | (with_reducible assumption) | assumption)
                                        obtain ⟨ad331, e331, hx331_0⟩ := Kd.at_int (Kd.R_reads' HO_6.out).2.2 (ji18) p331 q331
                                        obtain rfl : ad325 = ad331 := (by injection e331)
                                        replace p331 := eq_true p331
                                        replace q331 := eq_true q331
                                        have p332 : 0 ≤ ((rd t322 (ji18)) : Int) := of_decide_eq_true (by first | (with_reducible assumption) | assumption)
                                        have q332 : (rd t322 (ji18)) < (l0.length : Int) := of_decide_eq_true (by first | (with_reducible assumption) | assumption)
                                        obtain ⟨ad332, e332, hx332_0, hx332_1⟩ := at_T37 HR0.out (rd t322 (ji18)) p332 q332
                                        obtain rfl : ad330 = ad332 := (by injection e332)
                                        replace hx332_0 := (HB.out.cell (World.block_lt_of_cell? w _ hx332_0)).trans hx332_0
                                        replace hx332_1 := (HB.out.cell (World.block_lt_of_cell? w _ hx332_1)).trans hx332_1
                                        replace p332 := eq_true p332
                                        replace q332 := eq_true q332
                                        go_wp2
                                        repeat (go_quiet (fail); try go_wp2)
                                        go_ret
                                        exact ⟨by first | rfl | (simp [errW_none, errW_some] <;> rfl) | (simp only [← hji18]; first | rfl | (simp [errW_none, errW_some] <;> rfl)) | (simp [*, errW_none, errW_some] <;> rfl), by repeat (first | (with_reducible first | exact HB.out | apply below_alloc | apply pw_below_drewN | apply below_drew1) | exact HB.out)⟩
                                      · rw [if_neg c27] at H
                                        have c27b0 : decide (((rd_T37 l0 (rd t322 x7_2)).f0) ≤ ((rd_T37 l0 (rd t322 (ji18))).f0)) = false := decide_eq_false c27
                                        clear c27
                                        have H' := Aside0.mk H
                                        clear H
                                        obtain ⟨Ao29, co29, eo29⟩ := Kd.R_slice HO_6.out
                                        subst eo29
                                        have p325 : 0 ≤ (x7_2 : Int) := of_decide_eq_true (by first | (with_reducible assumption) | assumption)
                                        have q325 : x7_2 < (t322.length : Int) := of_decide_eq_true (by first | (with_reducible assumption) | assumption)
                                        obtain ⟨ad325, e325, hx325_0⟩ := Kd.at_int (Kd.R_reads' HO_6.out).2.2 x7_2 p325 q325
                                        cases e325
                                        replace p325 := eq_true p325
                                        replace q325 := eq_true q325
                                        have p326 : 0 ≤ (x7_2 : Int) := of_decide_eq_true (by first | (with_reducible assumption) | assumption)
                                        have q326 : x7_2 < (t322.length : Int) := of_decide_eq_true (by first | (with_reducible assumption) | assumption)
                                        obtain ⟨ad326, e326, hx326_0⟩ := Kd.at_int (Kd.R_reads' HO_6.out).2.2 x7_2 p326 q326
                                        obtain rfl : ad325 = ad326 := (by injection e326)
                                        replace p326 := eq_true p326
                                        replace q326 := eq_true q326
                                        have p327 : 0 ≤ (x7_2 : Int) := of_decide_eq_true (by first | (with_reducible assumption) | assumption)
                                        have q327 : x7_2 < (t322.length : Int) := of_decide_eq_true (by first | (with_reducible assumption) | assumption)
                                        obtain ⟨ad327, e327, hx327_0⟩ := Kd.at_int (Kd.R_reads' HO_6.out).2.2 x7_2 p327 q327
                                        obtain rfl : ad325 = ad327 := (by injection e327)
                                        replace p327 := eq_true p327
                                        replace q327 := eq_true q327
                                        have p328 : 0 ≤ ((ji18) : Int) := of_decide_eq_true (by first | (with_reducible assumption) | assumption)
                                        have q328 : (ji18) < (t322.length : Int) := of_decide_eq_true (by first | (with_reducible assumption) | assumption)
                                        obtain ⟨ad328, e328, hx328_0⟩ := Kd.at_int (Kd.R_reads' HO_6.out).2.2 (ji18) p328 q328
                                        obtain rfl : ad325 = ad328 := (by injection e328)
                                        replace p328 := eq_true p328
                                        replace q328 := eq_true q328
                                        have p329 : 0 ≤ (x7_2 : Int) := of_decide_eq_true (by first | (with_reducible assumption) | assumption)
                                        have q329 : x7_2 < (t322.length : Int) := of_decide_eq_true (by first | (with_reducible assumption) | assumption)
                                        obtain ⟨ad329, e329, hx329_0⟩ := Kd.at_int (Kd.R_reads' HO_6.out).2.2 x7_2 p329 q329
                                        obtain rfl : ad325 = ad329 := (by injection e329)
                                        replace p329 := eq_true p329
                                        replace q329 := eq_true q329
                                        have p330 : 0 ≤ ((rd t322 x7_2) : Int) := of_decide_eq_true (by first | (with_reducible assumption) | assumption)
                                        have q330 : (rd t322 x7_2) < (l0.length : Int) := of_decide_eq_true (by first | (with_reducible assumption) | assumption)
                                        obtain ⟨ad330, e330, hx330_0, hx330_1⟩ := at_T37 HR0.out (rd t322 x7_2) p330 q330
                                        cases e330
                                        replace hx330_0 := (HB.out.cell (World.block_lt_of_cell? w _ hx330_0)).trans hx330_0
                                        replace hx330_1 := (HB.out.cell (World.block_lt_of_cell? w _ hx330_1)).trans hx330_1
                                        replace p330 := eq_true p330
                                        replace q330 := eq_true q330
                                        have p331 : 0 ≤ ((ji18) : Int) := of_decide_eq_true (by first | (with_reducible assumption) | assumption)
                                        have q331 : (ji18) < (t322.length : Int) := of_decide_eq_true (by first | (with_reducible assumption) | assumption)
                                        obtain ⟨ad331, e331, hx331_0⟩ := Kd.at_int (Kd.R_reads' HO_6.out).2.2 (ji18) p331 q331
                                        obtain rfl : ad325 = ad331 := (by injection e331)
                                        replace p331 := eq_true p331
                                        replace q331 := eq_true q331
                                        have p332 : 0 ≤ ((rd t322 (ji18)) : Int) := of_decide_eq_true (by first | (with_reducible assumption) | assumption)
                                        have q332 : (rd t322 (ji18)) < (l0.length : Int) := of_decide_eq_true (by first | (with_reducible assumption) | assumption)
                                        obtain ⟨ad332, e332, hx332_0, hx332_1⟩ := at_T37 HR0.out (rd t322 (ji18)) p332 q332
                                        obtain rfl : ad330 = ad332 := (by injection e332)
                                        replace hx332_0 := (HB.out.cell (World.block_lt_of_cell? w _ hx332_0)).trans hx332_0
                                        replace hx332_1 := (HB.out.cell (World.block_lt_of_cell? w _ hx332_1)).trans hx332_1
                                        replace p332 := eq_true p332
                                        replace q332 := eq_true q332
                                        go_wp2
                                        repeat (go_quiet (fail); try go_wp2)
                                        go_roundg k2
                                        case measure => have := HJ4.out; have := HK2.out; omega
                                        case rel => exact ⟨(wrap64 (x7_2 + 1)), (by first | rfl | (simp; done) | (simp [*]; done)), H', ⟨by have := HJ4.out; have := HK2.out; omega⟩, ⟨by (with_reducible repeat (first | apply Kd.R_alloc | apply Kd.R_drewN | apply Kd.R_drew)); exact HO_6.out⟩, ⟨by repeat (first | (with_reducible first | exact HB.out | apply below_alloc | apply pw_below_drewN | apply below_drew1) | exact HB.out)⟩⟩
                                    · rw [if_neg c26] at H
                                      exact absurd H (by simp)
                                  · rw [if_neg c25] at H
                                    exact absurd H (by simp)
                                · rw [if_neg c24] at H
                                  exact absurd H (by simp)
                              · rw [if_neg c23] at H
                                exact absurd H (by simp)
                          · rw [if_neg c20] at H
                            exact absurd H (by simp)
                        · rw [if_neg c19] at H
                          exact absurd H (by simp)
                      · rw [if_neg c17] at H
                        have c17b0 : decide (0 < x7_2) = false := decide_eq_false c17
                        clear c17
                        have H' := Aside0.mk H
                        clear H
                        obtain ⟨Ao30, co30, eo30⟩ := Kd.R_slice HO_6.out
                        subst eo30
                        have p325 : 0 ≤ (x7_2 : Int) := of_decide_eq_true (by first | (with_reducible assumption) | assumption)
                        have q325 : x7_2 < (t322.length : Int) := of_decide_eq_true (by first | (with_reducible assumption) | assumption)
                        obtain ⟨ad325, e325, hx325_0⟩ := Kd.at_int (Kd.R_reads' HO_6.out).2.2 x7_2 p325 q325
                        cases e325
                        replace p325 := eq_true p325
                        replace q325 := eq_true q325
                        have p326 : 0 ≤ (x7_2 : Int) := of_decide_eq_true (by first | (with_reducible assumption) | assumption)
                        have q326 : x7_2 < (t322.length : Int) := of_decide_eq_true (by first | (with_reducible assumption) | assumption)
                        obtain ⟨ad326, e326, hx326_0⟩ := Kd.at_int (Kd.R_reads' HO_6.out).2.2 x7_2 p326 q326
                        obtain rfl : ad325 = ad326 := (by injection e326)
                        replace p326 := eq_true p326
                        replace q326 := eq_true q326
                        go_wp2
                        repeat (go_quiet (fail); try go_wp2)
                        go_roundg k2
                        case measure => have := HJ4.out; have := HK2.out; omega
                        case rel => exact ⟨(wrap64 (x7_2 + 1)), (by first | rfl | (simp; done) | (simp [*]; done)), H', ⟨by have := HJ4.out; have := HK2.out; omega⟩, ⟨by (with_reducible repeat (first | apply Kd.R_alloc | apply Kd.R_drewN | apply Kd.R_drew)); exact HO_6.out⟩, ⟨by repeat (first | (with_reducible first | exact HB.out | apply below_alloc | apply pw_below_drewN | apply below_drew1) | exact HB.out)⟩⟩
                · rw [if_neg c12] at H
                  exact absurd H (by simp)
              · rw [if_neg c11] at H
                have c11b0 : decide (x7_2 < (t322.length : Int)) = false := decide_eq_false c11
                clear c11
                have H' := Aside0.mk H
                clear H
                obtain ⟨Ao31, co31, eo31⟩ := Kd.R_slice HO_6.out
                subst eo31
                go_wp2
                repeat (go_quiet (fail); try go_wp2)
                go_loopg [8] k2 (fun kq v8 w' => ∃ (x8_3 : Int), v8 = .int .i64 x8_3 ∧ Aside0 (tartanlaw06_PairsLongest.l1 kq l0 l1 true t322 x8_3 = some r) ∧ Aside0 (kq ≤ k2) ∧ Aside0 (Kd.R (Kd.int .i64) 3 w' w.heap.size (fun _ => True) (.slice Ao31 t322.length co31) t322) ∧ Aside0 (Below w.heap.size w w'))
                case atStart => exact ⟨(0), (by first | rfl | (simp; done) | (simp [*]; done)), H', ⟨Nat.le_refl _⟩, ⟨by (with_reducible repeat (first | apply Kd.R_alloc | apply Kd.R_drewN | apply Kd.R_drew)); exact HO_6.out⟩, ⟨by repeat (first | (with_reducible first | exact HB.out | apply below_alloc | apply pw_below_drewN | apply below_drew1) | exact HB.out)⟩⟩
                case round =>
                  clear H'
                  try clear c1
                  try clear c2
                  try clear p2
                  try clear p3
                  try clear q3
                  try clear hx3
                  try clear c4
                  try clear p6
                  try clear c7
                  try clear c7b0
                  try clear c7b1
                  try clear c8
                  try clear c11
                  try clear c11b0
                  try clear c12
                  try clear c12b0
                  try clear c13
                  try clear c13b0
                  try clear c15
                  try clear c15b0
                  try clear c17
                  try clear c17b0
                  try clear c19
                  try clear c19b0
                  try clear c20
                  try clear c20b0
                  try clear c21
                  try clear c21b0
                  try clear c23
                  try clear c23b0
                  try clear c24
                  try clear c24b0
                  try clear c25
                  try clear c25b0
                  try clear c26
                  try clear c26b0
                  try clear c27
                  try clear c27b0
                  try clear hx325_0
                  try clear hx326_0
                  try clear hx327_0
                  try clear hx328_0
                  try clear hx329_0
                  try clear hx330_0
                  try clear hx330_1
                  try clear hx331_0
                  try clear hx332_0
                  try clear hx332_1
                  try clear p2
                  try clear p325
                  try clear p326
                  try clear p327
                  try clear p328
                  try clear p329
                  try clear p330
                  try clear p331
                  try clear p332
                  try clear q325
                  try clear q326
                  try clear q327
                  try clear q328
                  try clear q329
                  try clear q330
                  try clear q331
                  try clear q332
                  obtain ⟨x8_3, rfl, HA, HK3, HO_6, HB⟩ := hrel
                  cases gk with
                  | zero => exact absurd HA.out (by simp [tartanlaw06_PairsLongest.l1])
                  | succ k3 =>
                    have H := HA.out
                    clear HA
                    simp only [tartanlaw06_PairsLongest.l1] at H
                    by_cases c32 : x8_3 < (l1.length : Int)
                    · rw [if_pos c32] at H
                      have c32b0 : decide (x8_3 < (l1.length : Int)) = true := decide_eq_true c32
                      clear c32
                      by_cases c33 : 0 ≤ x8_3
                      · rw [if_pos c33] at H
                        have c33b0 : decide (0 ≤ x8_3) = true := decide_eq_true c33
                        clear c33
                        by_cases c34 : (rd l1 x8_3) < 0
                        · rw [if_pos c34] at H
                          have c34b0 : decide ((rd l1 x8_3) < 0) = true := decide_eq_true c34
                          clear c34
                          obtain rfl := Option.some.inj H
                          have p333 : 0 ≤ (x8_3 : Int) := of_decide_eq_true (by first | (with_reducible assumption) | assumption)
                          have q333 : x8_3 < (l1.length : Int) := of_decide_eq_true (by first | (with_reducible assumption) | assumption)
                          obtain ⟨ad333, e333, hx333_0⟩ := Kd.at_int HR1.out x8_3 p333 q333
                          cases e333
                          replace hx333_0 := (HB.out.cell (World.block_lt_of_cell? w _ hx333_0)).trans hx333_0
                          replace p333 := eq_true p333
                          replace q333 := eq_true q333
                          go_wp2
                          repeat (go_quiet (fail); try go_wp2)
                          go_ret
                          exact ⟨by first | rfl | (simp [errW_none, errW_some] <;> rfl) | (simp [*, errW_none, errW_some] <;> rfl), by repeat (first | (with_reducible first | exact HB.out | apply below_alloc | apply pw_below_drewN | apply below_drew1) | exact HB.out)⟩
                        · rw [if_neg c34] at H
                          have c34b0 : decide ((rd l1 x8_3) < 0) = false := decide_eq_false c34
                          clear c34
                          by_cases c35 : (rd l1 x8_3) ≥ (l0.length : Int)
                          · rw [if_pos c35] at H
                            have c35b0 : decide ((l0.length : Int) ≤ (rd l1 x8_3)) = true := decide_eq_true c35
                            clear c35
                            obtain rfl := Option.some.inj H
                            have p333 : 0 ≤ (x8_3 : Int) := of_decide_eq_true (by first | (with_reducible assumption) | assumption)
                            have q333 : x8_3 < (l1.length : Int) := of_decide_eq_true (by first | (with_reducible assumption) | assumption)
                            obtain ⟨ad333, e333, hx333_0⟩ := Kd.at_int HR1.out x8_3 p333 q333
                            cases e333
                            replace hx333_0 := (HB.out.cell (World.block_lt_of_cell? w _ hx333_0)).trans hx333_0
                            replace p333 := eq_true p333
                            replace q333 := eq_true q333
                            have p334 : 0 ≤ (x8_3 : Int) := of_decide_eq_true (by first | (with_reducible assumption) | assumption)
                            have q334 : x8_3 < (l1.length : Int) := of_decide_eq_true (by first | (with_reducible assumption) | assumption)
                            obtain ⟨ad334, e334, hx334_0⟩ := Kd.at_int HR1.out x8_3 p334 q334
                            obtain rfl : ad333 = ad334 := (by injection e334)
                            replace hx334_0 := (HB.out.cell (World.block_lt_of_cell? w _ hx334_0)).trans hx334_0
                            replace p334 := eq_true p334
                            replace q334 := eq_true q334
                            go_wp2
                            repeat (go_quiet (fail); try go_wp2)
                            go_ret
                            exact ⟨by first | rfl | (simp [errW_none, errW_some] <;> rfl) | (simp [*, errW_none, errW_some] <;> rfl), by repeat (first | (with_reducible first | exact HB.out | apply below_alloc | apply pw_below_drewN | apply below_drew1) | exact HB.out)⟩
                          · rw [if_neg c35] at H
                            have c35b0 : decide ((l0.length : Int) ≤ (rd l1 x8_3)) = false := decide_eq_false c35
                            clear c35
                            by_cases c36 : x8_3 > 0
                            · rw [if_pos c36] at H
                              have c36b0 : decide (0 < x8_3) = true := decide_eq_true c36
                              clear c36
                              obtain ⟨ji37, hji37⟩ : ∃ j_ : Int, (wrap64 (x8_3 - 1)) = j_ := ⟨_, rfl⟩
                              replace H : (if 0 ≤ (ji37) then (if (ji37) < (l1.length : Int) then (if (rd l1 x8_3) ≤ (rd l1 (ji37)) then (some true) else (if 0 ≤ (rd l1 x8_3) then (if (rd l1 x8_3) < (l0.length : Int) then (if 0 ≤ (rd l1 (ji37)) then (if (rd l1 (ji37)) < (l0.length : Int) then (if ((rd_T37 l0 (rd l1 x8_3)).f0) ≤ ((rd_T37 l0 (rd l1 (ji37))).f0) then (some true) else (tartanlaw06_PairsLongest.l1 k3 l0 l1 true t322 (wrap64 (x8_3 + 1)))) else (none)) else (none)) else (none)) else (none))) else (none)) else (none)) = some r := by first | (rw [hji37] at H; exact H) | (simp only [hji37] at H ⊢; exact H)
                              have hji37w : (IntKind.i64.wrap (x8_3 - 1)) = ji37 := (i64_w _).trans hji37
                              by_cases c38 : 0 ≤ (ji37)
                              · rw [if_pos c38] at H
                                have c38b0 : decide (0 ≤ (ji37)) = true := decide_eq_true c38
                                clear c38
                                by_cases c39 : (ji37) < (l1.length : Int)
                                · rw [if_pos c39] at H
                                  have c39b0 : decide ((ji37) < (l1.length : Int)) = true := decide_eq_true c39
                                  clear c39
                                  by_cases c40 : (rd l1 x8_3) ≤ (rd l1 (ji37))
                                  · rw [if_pos c40] at H
                                    have c40b0 : decide ((rd l1 x8_3) ≤ (rd l1 (ji37))) = true := decide_eq_true c40
                                    clear c40
                                    obtain rfl := Option.some.inj H
                                    have p333 : 0 ≤ (x8_3 : Int) := of_decide_eq_true (by first | (with_reducible assumption) | assumption)
                                    have q333 : x8_3 < (l1.length : Int) := of_decide_eq_true (by first | (with_reducible assumption) | assumption)
                                    obtain ⟨ad333, e333, hx333_0⟩ := Kd.at_int HR1.out x8_3 p333 q333
                                    cases e333
                                    replace hx333_0 := (HB.out.cell (World.block_lt_of_cell? w _ hx333_0)).trans hx333_0
                                    replace p333 := eq_true p333
                                    replace q333 := eq_true q333
                                    have p334 : 0 ≤ (x8_3 : Int) := of_decide_eq_true (by first | (with_reducible assumption) | assumption)
                                    have q334 : x8_3 < (l1.length : Int) := of_decide_eq_true (by first | (with_reducible assumption) | assumption)
                                    obtain ⟨ad334, e334, hx334_0⟩ := Kd.at_int HR1.out x8_3 p334 q334
                                    obtain rfl : ad333 = ad334 := (by injection e334)
                                    replace hx334_0 := (HB.out.cell (World.block_lt_of_cell? w _ hx334_0)).trans hx334_0
                                    replace p334 := eq_true p334
                                    replace q334 := eq_true q334
                                    have p335 : 0 ≤ (x8_3 : Int) := of_decide_eq_true (by first | (with_reducible assumption) | assumption)
                                    have q335 : x8_3 < (l1.length : Int) := of_decide_eq_true (by first | (with_reducible assumption) | assumption)
                                    obtain ⟨ad335, e335, hx335_0⟩ := Kd.at_int HR1.out x8_3 p335 q335
                                    obtain rfl : ad333 = ad335 := (by injection e335)
                                    replace hx335_0 := (HB.out.cell (World.block_lt_of_cell? w _ hx335_0)).trans hx335_0
                                    replace p335 := eq_true p335
                                    replace q335 := eq_true q335
                                    have p336 : 0 ≤ ((ji37) : Int) := of_decide_eq_true (by first | (with_reducible assumption) | assumption)
                                    have q336 : (ji37) < (l1.length : Int) := of_decide_eq_true (by first | (with_reducible assumption) | assumption)
                                    obtain ⟨ad336, e336, hx336_0⟩ := Kd.at_int HR1.out (ji37) p336 q336
                                    obtain rfl : ad333 = ad336 := (by injection e336)
                                    replace hx336_0 := (HB.out.cell (World.block_lt_of_cell? w _ hx336_0)).trans hx336_0
                                    replace p336 := eq_true p336
                                    replace q336 := eq_true q336
                                    go_wp2
                                    repeat (go_quiet (fail); try go_wp2)
                                    go_ret
                                    exact ⟨by first | rfl | (simp [errW_none, errW_some] <;> rfl) | (simp only [← hji37]; first | rfl | (simp [errW_none, errW_some] <;> rfl)) | (simp [*, errW_none, errW_some] <;> rfl), by repeat (first | (with_reducible first | exact HB.out | apply below_alloc | apply pw_below_drewN | apply below_drew1) | exact HB.out)⟩
                                  · rw [if_neg c40] at H
                                    have c40b0 : decide ((rd l1 x8_3) ≤ (rd l1 (ji37))) = false := decide_eq_false c40
                                    clear c40
                                    by_cases c41 : 0 ≤ (rd l1 x8_3)
                                    · rw [if_pos c41] at H
                                      have c41b0 : decide (0 ≤ (rd l1 x8_3)) = true := decide_eq_true c41
                                      clear c41
                                      by_cases c42 : (rd l1 x8_3) < (l0.length : Int)
                                      · rw [if_pos c42] at H
                                        have c42b0 : decide ((rd l1 x8_3) < (l0.length : Int)) = true := decide_eq_true c42
                                        clear c42
                                        by_cases c43 : 0 ≤ (rd l1 (ji37))
                                        · rw [if_pos c43] at H
                                          have c43b0 : decide (0 ≤ (rd l1 (ji37))) = true := decide_eq_true c43
                                          clear c43
                                          by_cases c44 : (rd l1 (ji37)) < (l0.length : Int)
                                          · rw [if_pos c44] at H
                                            have c44b0 : decide ((rd l1 (ji37)) < (l0.length : Int)) = true := decide_eq_true c44
                                            clear c44
                                            by_cases c45 : ((rd_T37 l0 (rd l1 x8_3)).f0) ≤ ((rd_T37 l0 (rd l1 (ji37))).f0)
                                            · rw [if_pos c45] at H
                                              have c45b0 : decide (((rd_T37 l0 (rd l1 x8_3)).f0) ≤ ((rd_T37 l0 (rd l1 (ji37))).f0)) = true := decide_eq_true c45
                                              clear c45
                                              obtain rfl := Option.some.inj H
                                              have p333 : 0 ≤ (x8_3 : Int) := of_decide_eq_true (by first | (with_reducible assumption) | assumption)
                                              have q333 : x8_3 < (l1.length : Int) := of_decide_eq_true (by first | (with_reducible assumption) | assumption)
                                              obtain ⟨ad333, e333, hx333_0⟩ := Kd.at_int HR1.out x8_3 p333 q333
                                              cases e333
                                              replace hx333_0 := (HB.out.cell (World.block_lt_of_cell? w _ hx333_0)).trans hx333_0
                                              replace p333 := eq_true p333
                                              replace q333 := eq_true q333
                                              have p334 : 0 ≤ (x8_3 : Int) := of_decide_eq_true (by first | (with_reducible assumption) | assumption)
                                              have q334 : x8_3 < (l1.length : Int) := of_decide_eq_true (by first | (with_reducible assumption) | assumption)
                                              obtain ⟨ad334, e334, hx334_0⟩ := Kd.at_int HR1.out x8_3 p334 q334
                                              obtain rfl : ad333 = ad334 := (by injection e334)
                                              replace hx334_0 := (HB.out.cell (World.block_lt_of_cell? w _ hx334_0)).trans hx334_0
                                              replace p334 := eq_true p334
                                              replace q334 := eq_true q334
                                              have p335 : 0 ≤ (x8_3 : Int) := of_decide_eq_true (by first | (with_reducible assumption) | assumption)
                                              have q335 : x8_3 < (l1.length : Int) := of_decide_eq_true (by first | (with_reducible assumption) | assumption)
                                              obtain ⟨ad335, e335, hx335_0⟩ := Kd.at_int HR1.out x8_3 p335 q335
                                              obtain rfl : ad333 = ad335 := (by injection e335)
                                              replace hx335_0 := (HB.out.cell (World.block_lt_of_cell? w _ hx335_0)).trans hx335_0
                                              replace p335 := eq_true p335
                                              replace q335 := eq_true q335
                                              have p336 : 0 ≤ ((ji37) : Int) := of_decide_eq_true (by first | (with_reducible assumption) | assumption)
                                              have q336 : (ji37) < (l1.length : Int) := of_decide_eq_true (by first | (with_reducible assumption) | assumption)
                                              obtain ⟨ad336, e336, hx336_0⟩ := Kd.at_int HR1.out (ji37) p336 q336
                                              obtain rfl : ad333 = ad336 := (by injection e336)
                                              replace hx336_0 := (HB.out.cell (World.block_lt_of_cell? w _ hx336_0)).trans hx336_0
                                              replace p336 := eq_true p336
                                              replace q336 := eq_true q336
                                              have p337 : 0 ≤ (x8_3 : Int) := of_decide_eq_true (by first | (with_reducible assumption) | assumption)
                                              have q337 : x8_3 < (l1.length : Int) := of_decide_eq_true (by first | (with_reducible assumption) | assumption)
                                              obtain ⟨ad337, e337, hx337_0⟩ := Kd.at_int HR1.out x8_3 p337 q337
                                              obtain rfl : ad333 = ad337 := (by injection e337)
                                              replace hx337_0 := (HB.out.cell (World.block_lt_of_cell? w _ hx337_0)).trans hx337_0
                                              replace p337 := eq_true p337
                                              replace q337 := eq_true q337
                                              have p338 : 0 ≤ ((rd l1 x8_3) : Int) := of_decide_eq_true (by first | (with_reducible assumption) | assumption)
                                              have q338 : (rd l1 x8_3) < (l0.length : Int) := of_decide_eq_true (by first | (with_reducible assumption) | assumption)
                                              obtain ⟨ad338, e338, hx338_0, hx338_1⟩ := at_T37 HR0.out (rd l1 x8_3) p338 q338
                                              cases e338
                                              replace hx338_0 := (HB.out.cell (World.block_lt_of_cell? w _ hx338_0)).trans hx338_0
                                              replace hx338_1 := (HB.out.cell (World.block_lt_of_cell? w _ hx338_1)).trans hx338_1
                                              replace p338 := eq_true p338
                                              replace q338 := eq_true q338
                                              have p339 : 0 ≤ ((ji37) : Int) := of_decide_eq_true (by first | (with_reducible assumption) | assumption)
                                              have q339 : (ji37) < (l1.length : Int) := of_decide_eq_true (by first | (with_reducible assumption) | assumption)
                                              obtain ⟨ad339, e339, hx339_0⟩ := Kd.at_int HR1.out (ji37) p339 q339
                                              obtain rfl : ad333 = ad339 := (by injection e339)
                                              replace hx339_0 := (HB.out.cell (World.block_lt_of_cell? w _ hx339_0)).trans hx339_0
                                              replace p339 := eq_true p339
                                              replace q339 := eq_true q339
                                              have p340 : 0 ≤ ((rd l1 (ji37)) : Int) := of_decide_eq_true (by first | (with_reducible assumption) | assumption)
                                              have q340 : (rd l1 (ji37)) < (l0.length : Int) := of_decide_eq_true (by first | (with_reducible assumption) | assumption)
                                              obtain ⟨ad340, e340, hx340_0, hx340_1⟩ := at_T37 HR0.out (rd l1 (ji37)) p340 q340
                                              obtain rfl : ad338 = ad340 := (by injection e340)
                                              replace hx340_0 := (HB.out.cell (World.block_lt_of_cell? w _ hx340_0)).trans hx340_0
                                              replace hx340_1 := (HB.out.cell (World.block_lt_of_cell? w _ hx340_1)).trans hx340_1
                                              replace p340 := eq_true p340
                                              replace q340 := eq_true q340
                                              go_wp2
                                              repeat (go_quiet (fail); try go_wp2)
                                              go_ret
                                              exact ⟨by first | rfl | (simp [errW_none, errW_some] <;> rfl) | (simp only [← hji37]; first | rfl | (simp [errW_none, errW_some] <;> rfl)) | (simp [*, errW_none, errW_some] <;> rfl), by repeat (first | (with_reducible first | exact HB.out | apply below_alloc | apply pw_below_drewN | apply below_drew1) | exact HB.out)⟩
                                            · rw [if_neg c45] at H
                                              have c45b0 : decide (((rd_T37 l0 (rd l1 x8_3)).f0) ≤ ((rd_T37 l0 (rd l1 (ji37))).f0)) = false := decide_eq_false c45
                                              clear c45
                                              have H' := Aside0.mk H
                                              clear H
                                              have p333 : 0 ≤ (x8_3 : Int) := of_decide_eq_true (by first | (with_reducible assumption) | assumption)
                                              have q333 : x8_3 < (l1.length : Int) := of_decide_eq_true (by first | (with_reducible assumption) | assumption)
                                              obtain ⟨ad333, e333, hx333_0⟩ := Kd.at_int HR1.out x8_3 p333 q333
                                              cases e333
                                              replace hx333_0 := (HB.out.cell (World.block_lt_of_cell? w _ hx333_0)).trans hx333_0
                                              replace p333 := eq_true p333
                                              replace q333 := eq_true q333
                                              have p334 : 0 ≤ (x8_3 : Int) := of_decide_eq_true (by first | (with_reducible assumption) | assumption)
                                              have q334 : x8_3 < (l1.length : Int) := of_decide_eq_true (by first | (with_reducible assumption) | assumption)
                                              obtain ⟨ad334, e334, hx334_0⟩ := Kd.at_int HR1.out x8_3 p334 q334
                                              obtain rfl : ad333 = ad334 := (by injection e334)
                                              replace hx334_0 := (HB.out.cell (World.block_lt_of_cell? w _ hx334_0)).trans hx334_0
                                              replace p334 := eq_true p334
                                              replace q334 := eq_true q334
                                              have p335 : 0 ≤ (x8_3 : Int) := of_decide_eq_true (by first | (with_reducible assumption) | assumption)
                                              have q335 : x8_3 < (l1.length : Int) := of_decide_eq_true (by first | (with_reducible assumption) | assumption)
                                              obtain ⟨ad335, e335, hx335_0⟩ := Kd.at_int HR1.out x8_3 p335 q335
                                              obtain rfl : ad333 = ad335 := (by injection e335)
                                              replace hx335_0 := (HB.out.cell (World.block_lt_of_cell? w _ hx335_0)).trans hx335_0
                                              replace p335 := eq_true p335
                                              replace q335 := eq_true q335
                                              have p336 : 0 ≤ ((ji37) : Int) := of_decide_eq_true (by first | (with_reducible assumption) | assumption)
                                              have q336 : (ji37) < (l1.length : Int) := of_decide_eq_true (by first | (with_reducible assumption) | assumption)
                                              obtain ⟨ad336, e336, hx336_0⟩ := Kd.at_int HR1.out (ji37) p336 q336
                                              obtain rfl : ad333 = ad336 := (by injection e336)
                                              replace hx336_0 := (HB.out.cell (World.block_lt_of_cell? w _ hx336_0)).trans hx336_0
                                              replace p336 := eq_true p336
                                              replace q336 := eq_true q336
                                              have p337 : 0 ≤ (x8_3 : Int) := of_decide_eq_true (by first | (with_reducible assumption) | assumption)
                                              have q337 : x8_3 < (l1.length : Int) := of_decide_eq_true (by first | (with_reducible assumption) | assumption)
                                              obtain ⟨ad337, e337, hx337_0⟩ := Kd.at_int HR1.out x8_3 p337 q337
                                              obtain rfl : ad333 = ad337 := (by injection e337)
                                              replace hx337_0 := (HB.out.cell (World.block_lt_of_cell? w _ hx337_0)).trans hx337_0
                                              replace p337 := eq_true p337
                                              replace q337 := eq_true q337
                                              have p338 : 0 ≤ ((rd l1 x8_3) : Int) := of_decide_eq_true (by first | (with_reducible assumption) | assumption)
                                              have q338 : (rd l1 x8_3) < (l0.length : Int) := of_decide_eq_true (by first | (with_reducible assumption) | assumption)
                                              obtain ⟨ad338, e338, hx338_0, hx338_1⟩ := at_T37 HR0.out (rd l1 x8_3) p338 q338
                                              cases e338
                                              replace hx338_0 := (HB.out.cell (World.block_lt_of_cell? w _ hx338_0)).trans hx338_0
                                              replace hx338_1 := (HB.out.cell (World.block_lt_of_cell? w _ hx338_1)).trans hx338_1
                                              replace p338 := eq_true p338
                                              replace q338 := eq_true q338
                                              have p339 : 0 ≤ ((ji37) : Int) := of_decide_eq_true (by first | (with_reducible assumption) | assumption)
                                              have q339 : (ji37) < (l1.length : Int) := of_decide_eq_true (by first | (with_reducible assumption) | assumption)
                                              obtain ⟨ad339, e339, hx339_0⟩ := Kd.at_int HR1.out (ji37) p339 q339
                                              obtain rfl : ad333 = ad339 := (by injection e339)
                                              replace hx339_0 := (HB.out.cell (World.block_lt_of_cell? w _ hx339_0)).trans hx339_0
                                              replace p339 := eq_true p339
                                              replace q339 := eq_true q339
                                              have p340 : 0 ≤ ((rd l1 (ji37)) : Int) := of_decide_eq_true (by first | (with_reducible assumption) | assumption)
                                              have q340 : (rd l1 (ji37)) < (l0.length : Int) := of_decide_eq_true (by first | (with_reducible assumption) | assumption)
                                              obtain ⟨ad340, e340, hx340_0, hx340_1⟩ := at_T37 HR0.out (rd l1 (ji37)) p340 q340
                                              obtain rfl : ad338 = ad340 := (by injection e340)
                                              replace hx340_0 := (HB.out.cell (World.block_lt_of_cell? w _ hx340_0)).trans hx340_0
                                              replace hx340_1 := (HB.out.cell (World.block_lt_of_cell? w _ hx340_1)).trans hx340_1
                                              replace p340 := eq_true p340
                                              replace q340 := eq_true q340
                                              go_wp2
                                              repeat (go_quiet (fail); try go_wp2)
                                              go_roundg k3
                                              case measure => have := HJ4.out; have := HK2.out; have := HK3.out; omega
                                              case rel => exact ⟨(wrap64 (x8_3 + 1)), (by first | rfl | (simp; done) | (simp [*]; done)), H', ⟨by have := HJ4.out; have := HK2.out; have := HK3.out; omega⟩, ⟨by (with_reducible repeat (first | apply Kd.R_alloc | apply Kd.R_drewN | apply Kd.R_drew)); exact HO_6.out⟩, ⟨by repeat (first | (with_reducible first | exact HB.out | apply below_alloc | apply pw_below_drewN | apply below_drew1) | exact HB.out)⟩⟩
                                          · rw [if_neg c44] at H
                                            exact absurd H (by simp)
                                        · rw [if_neg c43] at H
                                          exact absurd H (by simp)
                                      · rw [if_neg c42] at H
                                        exact absurd H (by simp)
                                    · rw [if_neg c41] at H
                                      exact absurd H (by simp)
                                · rw [if_neg c39] at H
                                  exact absurd H (by simp)
                              · rw [if_neg c38] at H
                                exact absurd H (by simp)
                            · rw [if_neg c36] at H
                              have c36b0 : decide (0 < x8_3) = false := decide_eq_false c36
                              clear c36
                              have H' := Aside0.mk H
                              clear H
                              have p333 : 0 ≤ (x8_3 : Int) := of_decide_eq_true (by first | (with_reducible assumption) | assumption)
                              have q333 : x8_3 < (l1.length : Int) := of_decide_eq_true (by first | (with_reducible assumption) | assumption)
                              obtain ⟨ad333, e333, hx333_0⟩ := Kd.at_int HR1.out x8_3 p333 q333
                              cases e333
                              replace hx333_0 := (HB.out.cell (World.block_lt_of_cell? w _ hx333_0)).trans hx333_0
                              replace p333 := eq_true p333
                              replace q333 := eq_true q333
                              have p334 : 0 ≤ (x8_3 : Int) := of_decide_eq_true (by first | (with_reducible assumption) | assumption)
                              have q334 : x8_3 < (l1.length : Int) := of_decide_eq_true (by first | (with_reducible assumption) | assumption)
                              obtain ⟨ad334, e334, hx334_0⟩ := Kd.at_int HR1.out x8_3 p334 q334
                              obtain rfl : ad333 = ad334 := (by injection e334)
                              replace hx334_0 := (HB.out.cell (World.block_lt_of_cell? w _ hx334_0)).trans hx334_0
                              replace p334 := eq_true p334
                              replace q334 := eq_true q334
                              go_wp2
                              repeat (go_quiet (fail); try go_wp2)
                              go_roundg k3
                              case measure => have := HJ4.out; have := HK2.out; have := HK3.out; omega
                              case rel => exact ⟨(wrap64 (x8_3 + 1)), (by first | rfl | (simp; done) | (simp [*]; done)), H', ⟨by have := HJ4.out; have := HK2.out; have := HK3.out; omega⟩, ⟨by (with_reducible repeat (first | apply Kd.R_alloc | apply Kd.R_drewN | apply Kd.R_drew)); exact HO_6.out⟩, ⟨by repeat (first | (with_reducible first | exact HB.out | apply below_alloc | apply pw_below_drewN | apply below_drew1) | exact HB.out)⟩⟩
                      · rw [if_neg c33] at H
                        exact absurd H (by simp)
                    · rw [if_neg c32] at H
                      have c32b0 : decide (x8_3 < (l1.length : Int)) = false := decide_eq_false c32
                      clear c32
                      by_cases c46 : (l1.length : Int) > (t322.length : Int)
                      · rw [if_pos c46] at H
                        have c46b0 : decide ((t322.length : Int) < (l1.length : Int)) = true := decide_eq_true c46
                        have c46b1 : decide (t322.length < l1.length) = true := decide_eq_true (Int.ofNat_lt.mp c46)
                        clear c46
                        obtain rfl := Option.some.inj H
                        go_wp2
                        repeat (go_quiet (fail); try go_wp2)
                        go_ret
                        exact ⟨by first | rfl | (simp [errW_none, errW_some] <;> rfl) | (simp [*, errW_none, errW_some] <;> rfl), by repeat (first | (with_reducible first | exact HB.out | apply below_alloc | apply pw_below_drewN | apply below_drew1) | exact HB.out)⟩
                      · rw [if_neg c46] at H
                        have c46b0 : decide ((t322.length : Int) < (l1.length : Int)) = false := decide_eq_false c46
                        have c46b1 : decide (t322.length < l1.length) = false := decide_eq_false (fun h => c46 (Int.ofNat_lt.mpr h))
                        clear c46
                        by_cases c47 : (l1.length : Int) < (t322.length : Int)
                        · rw [if_pos c47] at H
                          have c47b0 : decide ((l1.length : Int) < (t322.length : Int)) = true := decide_eq_true c47
                          have c47b1 : decide (l1.length < t322.length) = true := decide_eq_true (Int.ofNat_lt.mp c47)
                          clear c47
                          obtain rfl := Option.some.inj H
                          go_wp2
                          repeat (go_quiet (fail); try go_wp2)
                          go_ret
                          exact ⟨by first | rfl | (simp [errW_none, errW_some] <;> rfl) | (simp [*, errW_none, errW_some] <;> rfl), by repeat (first | (with_reducible first | exact HB.out | apply below_alloc | apply pw_below_drewN | apply below_drew1) | exact HB.out)⟩
                        · rw [if_neg c47] at H
                          have c47b0 : decide ((l1.length : Int) < (t322.length : Int)) = false := decide_eq_false c47
                          have c47b1 : decide (l1.length < t322.length) = false := decide_eq_false (fun h => c47 (Int.ofNat_lt.mpr h))
                          clear c47
                          have H' := Aside0.mk H
                          clear H
                          go_wp2
                          repeat (go_quiet (fail); try go_wp2)
                          go_loopg [9] k3 (fun kq v9 w' => ∃ (x9_4 : Int), v9 = .int .i64 x9_4 ∧ Aside0 (tartanlaw06_PairsLongest.l2 kq l1 true t322 x9_4 = some r) ∧ Aside0 (kq ≤ k3) ∧ Aside0 (Kd.R (Kd.int .i64) 3 w' w.heap.size (fun _ => True) (.slice Ao31 t322.length co31) t322) ∧ Aside0 (Below w.heap.size w w'))
                          case atStart => exact ⟨(0), (by first | rfl | (simp; done) | (simp [*]; done)), H', ⟨Nat.le_refl _⟩, ⟨by (with_reducible repeat (first | apply Kd.R_alloc | apply Kd.R_drewN | apply Kd.R_drew)); exact HO_6.out⟩, ⟨by repeat (first | (with_reducible first | exact HB.out | apply below_alloc | apply pw_below_drewN | apply below_drew1) | exact HB.out)⟩⟩
                          case round =>
                            clear H'
                            try clear c1
                            try clear c2
                            try clear p2
                            try clear c3
                            try clear p3
                            try clear q3
                            try clear hx3
                            try clear c4
                            try clear p6
                            try clear c7
                            try clear c7b0
                            try clear c7b1
                            try clear c8
                            try clear c11
                            try clear c11b0
                            try clear c12
                            try clear c12b0
                            try clear c13
                            try clear c13b0
                            try clear c15
                            try clear c15b0
                            try clear c17
                            try clear c17b0
                            try clear c19
                            try clear c19b0
                            try clear c20
                            try clear c20b0
                            try clear c21
                            try clear c21b0
                            try clear c23
                            try clear c23b0
                            try clear c24
                            try clear c24b0
                            try clear c25
                            try clear c25b0
                            try clear c26
                            try clear c26b0
                            try clear c27
                            try clear c27b0
                            try clear c32
                            try clear c32b0
                            try clear p32
                            try clear q32
                            try clear hx32
                            try clear c33
                            try clear c33b0
                            try clear p33
                            try clear q33
                            try clear hx33
                            try clear c34
                            try clear c34b0
                            try clear p34
                            try clear q34
                            try clear hx34
                            try clear c35
                            try clear c35b0
                            try clear c36
                            try clear c36b0
                            try clear c38
                            try clear c38b0
                            try clear c39
                            try clear c39b0
                            try clear c40
                            try clear c40b0
                            try clear c41
                            try clear c41b0
                            try clear c42
                            try clear c42b0
                            try clear c43
                            try clear c43b0
                            try clear c44
                            try clear c44b0
                            try clear c45
                            try clear c45b0
                            try clear c46
                            try clear c46b0
                            try clear c46b1
                            try clear c47
                            try clear c47b0
                            try clear c47b1
                            try clear hx325_0
                            try clear hx326_0
                            try clear hx327_0
                            try clear hx328_0
                            try clear hx329_0
                            try clear hx330_0
                            try clear hx330_1
                            try clear hx331_0
                            try clear hx332_0
                            try clear hx332_1
                            try clear hx333_0
                            try clear hx334_0
                            try clear hx335_0
                            try clear hx336_0
                            try clear hx337_0
                            try clear hx338_0
                            try clear hx338_1
                            try clear hx339_0
                            try clear hx340_0
                            try clear hx340_1
                            try clear p2
                            try clear p3
                            try clear p325
                            try clear p326
                            try clear p327
                            try clear p328
                            try clear p329
                            try clear p330
                            try clear p331
                            try clear p332
                            try clear p333
                            try clear p334
                            try clear p335
                            try clear p336
                            try clear p337
                            try clear p338
                            try clear p339
                            try clear p340
                            try clear p6
                            try clear q3
                            try clear q325
                            try clear q326
                            try clear q327
                            try clear q328
                            try clear q329
                            try clear q330
                            try clear q331
                            try clear q332
                            try clear q333
                            try clear q334
                            try clear q335
                            try clear q336
                            try clear q337
                            try clear q338
                            try clear q339
                            try clear q340
                            obtain ⟨x9_4, rfl, HA, HK4, HO_6, HB⟩ := hrel
                            cases gk with
                            | zero => exact absurd HA.out (by simp [tartanlaw06_PairsLongest.l2])
                            | succ k4 =>
                              have H := HA.out
                              clear HA
                              simp only [tartanlaw06_PairsLongest.l2] at H
                              by_cases c48 : x9_4 < (t322.length : Int)
                              · rw [if_pos c48] at H
                                have c48b0 : decide (x9_4 < (t322.length : Int)) = true := decide_eq_true c48
                                clear c48
                                by_cases c49 : 0 ≤ x9_4
                                · rw [if_pos c49] at H
                                  have c49b0 : decide (0 ≤ x9_4) = true := decide_eq_true c49
                                  clear c49
                                  by_cases c50 : x9_4 < (l1.length : Int)
                                  · rw [if_pos c50] at H
                                    have c50b0 : decide (x9_4 < (l1.length : Int)) = true := decide_eq_true c50
                                    clear c50
                                    by_cases c51 : (rd t322 x9_4) = (rd l1 x9_4)
                                    · rw [if_pos c51] at H
                                      have c51b0 : ((rd t322 x9_4) == (rd l1 x9_4)) = true := beq_iff_eq.mpr c51
                                      have c51b1 : ((rd t322 x9_4) != (rd l1 x9_4)) = false := bne_eq_false_iff_eq.mpr c51
                                      clear c51
                                      have H' := Aside0.mk H
                                      clear H
                                      have p341 : 0 ≤ (x9_4 : Int) := of_decide_eq_true (by first | (with_reducible assumption) | assumption)
                                      have q341 : x9_4 < (t322.length : Int) := of_decide_eq_true (by first | (with_reducible assumption) | assumption)
                                      obtain ⟨ad341, e341, hx341_0⟩ := Kd.at_int (Kd.R_reads' HO_6.out).2.2 x9_4 p341 q341
                                      cases e341
                                      replace p341 := eq_true p341
                                      replace q341 := eq_true q341
                                      have p342 : 0 ≤ (x9_4 : Int) := of_decide_eq_true (by first | (with_reducible assumption) | assumption)
                                      have q342 : x9_4 < (l1.length : Int) := of_decide_eq_true (by first | (with_reducible assumption) | assumption)
                                      obtain ⟨ad342, e342, hx342_0⟩ := Kd.at_int HR1.out x9_4 p342 q342
                                      cases e342
                                      replace hx342_0 := (HB.out.cell (World.block_lt_of_cell? w _ hx342_0)).trans hx342_0
                                      replace p342 := eq_true p342
                                      replace q342 := eq_true q342
                                      go_wp2
                                      repeat (go_quiet (fail); try go_wp2)
                                      go_roundg k4
                                      case measure => have := HJ4.out; have := HK2.out; have := HK3.out; have := HK4.out; omega
                                      case rel => exact ⟨(wrap64 (x9_4 + 1)), (by first | rfl | (simp; done) | (simp [*]; done)), H', ⟨by have := HJ4.out; have := HK2.out; have := HK3.out; have := HK4.out; omega⟩, ⟨by (with_reducible repeat (first | apply Kd.R_alloc | apply Kd.R_drewN | apply Kd.R_drew)); exact HO_6.out⟩, ⟨by repeat (first | (with_reducible first | exact HB.out | apply below_alloc | apply pw_below_drewN | apply below_drew1) | exact HB.out)⟩⟩
                                    · rw [if_neg c51] at H
                                      have c51b0 : ((rd t322 x9_4) == (rd l1 x9_4)) = false := beq_eq_false_iff_ne.mpr c51
                                      have c51b1 : ((rd t322 x9_4) != (rd l1 x9_4)) = true := bne_iff_ne.mpr c51
                                      have c52 : true = true := rfl
                                      have H1 : (some (decide ((rd t322 x9_4) < (rd l1 x9_4)))) = some r := by first | (rw [if_pos rfl] at H; exact H) | (rw [if_pos trivial] at H; exact H) | simpa using H
                                      clear H
                                      have H := H1
                                      clear H1
                                      obtain rfl := Option.some.inj H
                                      have p341 : 0 ≤ (x9_4 : Int) := of_decide_eq_true (by first | (with_reducible assumption) | assumption)
                                      have q341 : x9_4 < (t322.length : Int) := of_decide_eq_true (by first | (with_reducible assumption) | assumption)
                                      obtain ⟨ad341, e341, hx341_0⟩ := Kd.at_int (Kd.R_reads' HO_6.out).2.2 x9_4 p341 q341
                                      cases e341
                                      replace p341 := eq_true p341
                                      replace q341 := eq_true q341
                                      have p342 : 0 ≤ (x9_4 : Int) := of_decide_eq_true (by first | (with_reducible assumption) | assumption)
                                      have q342 : x9_4 < (l1.length : Int) := of_decide_eq_true (by first | (with_reducible assumption) | assumption)
                                      obtain ⟨ad342, e342, hx342_0⟩ := Kd.at_int HR1.out x9_4 p342 q342
                                      cases e342
                                      replace hx342_0 := (HB.out.cell (World.block_lt_of_cell? w _ hx342_0)).trans hx342_0
                                      replace p342 := eq_true p342
                                      replace q342 := eq_true q342
                                      have p343 : 0 ≤ (x9_4 : Int) := of_decide_eq_true (by first | (with_reducible assumption) | assumption)
                                      have q343 : x9_4 < (t322.length : Int) := of_decide_eq_true (by first | (with_reducible assumption) | assumption)
                                      obtain ⟨ad343, e343, hx343_0⟩ := Kd.at_int (Kd.R_reads' HO_6.out).2.2 x9_4 p343 q343
                                      obtain rfl : ad341 = ad343 := (by injection e343)
                                      replace p343 := eq_true p343
                                      replace q343 := eq_true q343
                                      have p344 : 0 ≤ (x9_4 : Int) := of_decide_eq_true (by first | (with_reducible assumption) | assumption)
                                      have q344 : x9_4 < (l1.length : Int) := of_decide_eq_true (by first | (with_reducible assumption) | assumption)
                                      obtain ⟨ad344, e344, hx344_0⟩ := Kd.at_int HR1.out x9_4 p344 q344
                                      obtain rfl : ad342 = ad344 := (by injection e344)
                                      replace hx344_0 := (HB.out.cell (World.block_lt_of_cell? w _ hx344_0)).trans hx344_0
                                      replace p344 := eq_true p344
                                      replace q344 := eq_true q344
                                      go_wp2
                                      repeat (go_quiet (fail); try go_wp2)
                                      go_ret
                                      exact ⟨by first | rfl | (simp [errW_none, errW_some] <;> rfl) | (simp [*, errW_none, errW_some] <;> rfl), by repeat (first | (with_reducible first | exact HB.out | apply below_alloc | apply pw_below_drewN | apply below_drew1) | exact HB.out)⟩
                                  · rw [if_neg c50] at H
                                    exact absurd H (by simp)
                                · rw [if_neg c49] at H
                                  exact absurd H (by simp)
                              · rw [if_neg c48] at H
                                have c48b0 : decide (x9_4 < (t322.length : Int)) = false := decide_eq_false c48
                                clear c48
                                obtain rfl := Option.some.inj H
                                go_wp2
                                repeat (go_quiet (fail); try go_wp2)
                                go_ret
                                exact ⟨by first | rfl | (simp [errW_none, errW_some] <;> rfl) | (simp [*, errW_none, errW_some] <;> rfl), by repeat (first | (with_reducible first | exact HB.out | apply below_alloc | apply pw_below_drewN | apply below_drew1) | exact HB.out)⟩
  · replace c4 := Bool.eq_false_iff.mpr c4
    subst c4
    have H1 : (some false) = some r := by rw [if_neg (show ¬ (false = true) by decide)] at H; exact H
    clear H
    have H := H1
    clear H1
    obtain rfl := Option.some.inj H
    go_enter Try.func8, Try.ntmps8
    go_wp2_with (first | (go_at_call 14; (with_reducible refine (tartanlaw06_works.calls k  false _ A3.out).mono ?_); rintro e w53 ⟨rfl, hb⟩; have n0_ := Aside0.mk (below_step (by repeat (first | (with_reducible first | exact HB.out | apply below_alloc | apply pw_below_drewN | apply below_drew1) | exact HB.out)) hb); clear HB; have HB := n0_; clear n0_; (try clear hb); (try clear hb2); (try clear hk); (try clear hi)))
    repeat (go_quiet (first | (go_at_call 14; (with_reducible refine (tartanlaw06_works.calls k  false _ A3.out).mono ?_); rintro e w53 ⟨rfl, hb⟩; have n0_ := Aside0.mk (below_step (by repeat (first | (with_reducible first | exact HB.out | apply below_alloc | apply pw_below_drewN | apply below_drew1) | exact HB.out)) hb); clear HB; have HB := n0_; clear n0_; (try clear hb); (try clear hb2); (try clear hk); (try clear hi))); try go_wp2_with (first | (go_at_call 14; (with_reducible refine (tartanlaw06_works.calls k  false _ A3.out).mono ?_); rintro e w53 ⟨rfl, hb⟩; have n0_ := Aside0.mk (below_step (by repeat (first | (with_reducible first | exact HB.out | apply below_alloc | apply pw_below_drewN | apply below_drew1) | exact HB.out)) hb); clear HB; have HB := n0_; clear n0_; (try clear hb); (try clear hb2); (try clear hk); (try clear hi))))
    go_ret
    exact ⟨by first | rfl | (simp [errW_none, errW_some] <;> rfl) | (simp [*, errW_none, errW_some] <;> rfl), by repeat (first | (with_reducible first | exact HB.out | apply below_alloc | apply pw_below_drewN | apply below_drew1) | exact HB.out)⟩

end Go.Proofs.Ytphmnjapjalfgaa.X
