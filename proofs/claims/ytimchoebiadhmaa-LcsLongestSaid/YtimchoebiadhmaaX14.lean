-- by pr.py, round the kit's print (a twelfth state) out of the translation. Not trusted: Lean checks it.
import Derived.Test.YtimchoebiadhmaaX0
import Derived.Test.YtimchoebiadhmaaX8
import Derived.Test.YtimchoebiadhmaaGLcs
import Derived.Test.YtimchoebiadhmaaGLcs2
namespace Go.Proofs.Ytimchoebiadhmaa.X
open Go.RowKit Go.Proofs.YtimchoebiadhmaaW.PrintWords Go.Proofs.YtimchoebiadhmaaW.PrintLast Go.Proofs.YtimchoebiadhmaaW.PrintMore
attribute [local go_sem] max2_int min2_int max_two min_two max_three min_three max_four min_four   -- for this text's walks alone
set_option linter.unusedVariables false
set_option linter.unusedSimpArgs false

/-! ### tartanlaw08_LcsLongest: function 9 -/
mutual
def tartanlaw08_LcsLongest.j0 : Nat → List ByteArray → List ByteArray → List (S34) → Bool → Bool → Option (Bool)
  | 0, _, _, _, _, _ => none
  | k + 1, x0, x1, x2, x7, x21 => if x21 = true then (some x7) else (tartanlaw08_LcsLongest.l0 k x0 x1 x2 x7 0)
def tartanlaw08_LcsLongest.l0 : Nat → List ByteArray → List ByteArray → List (S34) → Bool → Int → Option (Bool)
  | 0, _, _, _, _, _ => none
  | k + 1, x0, x1, x2, x7, x8 => if x8 < (x2.length : Int) then (if 0 ≤ x8 then (if ((rd_T34 x2 x8).f0) < 0 then (tartanlaw08_LcsLongest.j2 k x0 x1 x2 x7 x8 true ((rd_T34 x2 x8).f0) ((rd_T34 x2 x8).f1)) else (if ((rd_T34 x2 x8).f0) ≥ (x0.length : Int) then (tartanlaw08_LcsLongest.j2 k x0 x1 x2 x7 x8 true ((rd_T34 x2 x8).f0) ((rd_T34 x2 x8).f1)) else (if ((rd_T34 x2 x8).f1) < 0 then (tartanlaw08_LcsLongest.j2 k x0 x1 x2 x7 x8 true ((rd_T34 x2 x8).f0) ((rd_T34 x2 x8).f1)) else (if ((rd_T34 x2 x8).f1) ≥ (x1.length : Int) then (tartanlaw08_LcsLongest.j2 k x0 x1 x2 x7 x8 true ((rd_T34 x2 x8).f0) ((rd_T34 x2 x8).f1)) else (if 0 ≤ ((rd_T34 x2 x8).f0) then (if ((rd_T34 x2 x8).f0) < (x0.length : Int) then (if 0 ≤ ((rd_T34 x2 x8).f1) then (if ((rd_T34 x2 x8).f1) < (x1.length : Int) then (tartanlaw08_LcsLongest.j2 k x0 x1 x2 x7 x8 ((rdOf ByteArray.empty x0 ((rd_T34 x2 x8).f0)).toList != (rdOf ByteArray.empty x1 ((rd_T34 x2 x8).f1)).toList) ((rd_T34 x2 x8).f0) ((rd_T34 x2 x8).f1)) else (none)) else (none)) else (none)) else (none)))))) else (none)) else (if x7 = true then ((lcs_Length.f x0 x1).bind fun t308 => (if (x2.length : Int) ≤ t308 then ((lcs_Pairs.f x0 x1).bind fun t309 => (some (decide ((x2.length : Int) ≤ (t309.length : Int))))) else (some false))) else (some false))
def tartanlaw08_LcsLongest.j2 : Nat → List ByteArray → List ByteArray → List (S34) → Bool → Int → Bool → Int → Int → Option (Bool)
  | 0, _, _, _, _, _, _, _, _ => none
  | k + 1, x0, x1, x2, x7, x8, x67, x314000, x314001 => if x67 = true then (some x7) else (if x8 > 0 then (if 0 ≤ (wrap64 (x8 - 1)) then (if (wrap64 (x8 - 1)) < (x2.length : Int) then (if x314000 ≤ ((rd_T34 x2 (wrap64 (x8 - 1))).f0) then (some x7) else (if x314001 ≤ ((rd_T34 x2 (wrap64 (x8 - 1))).f1) then (some x7) else (tartanlaw08_LcsLongest.l0 k x0 x1 x2 x7 (wrap64 (x8 + 1))))) else (none)) else (none)) else (tartanlaw08_LcsLongest.l0 k x0 x1 x2 x7 (wrap64 (x8 + 1))))
end
def tartanlaw08_LcsLongest.f (k : Nat) (l0 : List ByteArray) (l1 : List ByteArray) (l2 : List (S34)) : Option (Bool) := (tartanlaw08_works.f k).bind fun t306 => (if t306 = true then ((tartanlaw08_small.f l0 l1).bind fun t307 => (if t307 = true then (tartanlaw08_LcsLongest.j0 k l0 l1 l2 t306 (decide ((l2.length : Int) > 60))) else (tartanlaw08_LcsLongest.j0 k l0 l1 l2 t306 true))) else (some false))
theorem tartanlaw08_LcsLongest.mono_l : ∀ k, (∀ y0 y1 y2 y3 y4, LeO (tartanlaw08_LcsLongest.j0 k y0 y1 y2 y3 y4) (tartanlaw08_LcsLongest.j0 (k + 1) y0 y1 y2 y3 y4)) ∧ (∀ y0 y1 y2 y3 y4, LeO (tartanlaw08_LcsLongest.l0 k y0 y1 y2 y3 y4) (tartanlaw08_LcsLongest.l0 (k + 1) y0 y1 y2 y3 y4)) ∧ (∀ y0 y1 y2 y3 y4 y5 y6 y7, LeO (tartanlaw08_LcsLongest.j2 k y0 y1 y2 y3 y4 y5 y6 y7) (tartanlaw08_LcsLongest.j2 (k + 1) y0 y1 y2 y3 y4 y5 y6 y7))
  | 0 => ⟨fun _ _ _ _ _ r h => by simp [tartanlaw08_LcsLongest.j0] at h, fun _ _ _ _ _ r h => by simp [tartanlaw08_LcsLongest.l0] at h, fun _ _ _ _ _ _ _ _ r h => by simp [tartanlaw08_LcsLongest.j2] at h⟩
  | k + 1 => by
    obtain ⟨ih0, ih1, ih2⟩ := tartanlaw08_LcsLongest.mono_l k
    refine ⟨?_, ?_, ?_⟩
    · intro y0 y1 y2 y3 y4
      unfold tartanlaw08_LcsLongest.j0
      repeat' first
      | (with_reducible exact ih0 _ _ _ _ _)
      | (with_reducible exact ih1 _ _ _ _ _)
      | (with_reducible exact ih2 _ _ _ _ _ _ _ _)
      | (with_reducible exact tartanlaw08_works.mono _)
      | (with_reducible exact LeO.refl _)
      | (with_reducible exact LeO.none _)
      | (with_reducible refine LeO.ite ?_ ?_)
      | (with_reducible refine LeO.bind ?_ (fun _ => ?_))
      | exact ih0 _ _ _ _ _
      | exact ih1 _ _ _ _ _
      | exact ih2 _ _ _ _ _ _ _ _
      | exact tartanlaw08_works.mono _
      | exact LeO.none _
      | refine LeO.ite ?_ ?_
      | refine LeO.bind ?_ (fun _ => ?_)
    · intro y0 y1 y2 y3 y4
      unfold tartanlaw08_LcsLongest.l0
      repeat' first
      | (with_reducible exact ih0 _ _ _ _ _)
      | (with_reducible exact ih1 _ _ _ _ _)
      | (with_reducible exact ih2 _ _ _ _ _ _ _ _)
      | (with_reducible exact tartanlaw08_works.mono _)
      | (with_reducible exact LeO.refl _)
      | (with_reducible exact LeO.none _)
      | (with_reducible refine LeO.ite ?_ ?_)
      | (with_reducible refine LeO.bind ?_ (fun _ => ?_))
      | exact ih0 _ _ _ _ _
      | exact ih1 _ _ _ _ _
      | exact ih2 _ _ _ _ _ _ _ _
      | exact tartanlaw08_works.mono _
      | exact LeO.none _
      | refine LeO.ite ?_ ?_
      | refine LeO.bind ?_ (fun _ => ?_)
    · intro y0 y1 y2 y3 y4 y5 y6 y7
      unfold tartanlaw08_LcsLongest.j2
      repeat' first
      | (with_reducible exact ih0 _ _ _ _ _)
      | (with_reducible exact ih1 _ _ _ _ _)
      | (with_reducible exact ih2 _ _ _ _ _ _ _ _)
      | (with_reducible exact tartanlaw08_works.mono _)
      | (with_reducible exact LeO.refl _)
      | (with_reducible exact LeO.none _)
      | (with_reducible refine LeO.ite ?_ ?_)
      | (with_reducible refine LeO.bind ?_ (fun _ => ?_))
      | exact ih0 _ _ _ _ _
      | exact ih1 _ _ _ _ _
      | exact ih2 _ _ _ _ _ _ _ _
      | exact tartanlaw08_works.mono _
      | exact LeO.none _
      | refine LeO.ite ?_ ?_
      | refine LeO.bind ?_ (fun _ => ?_)
theorem tartanlaw08_LcsLongest.mono : ∀ a0 a1 a2 k, LeO (tartanlaw08_LcsLongest.f k a0 a1 a2) (tartanlaw08_LcsLongest.f (k + 1) a0 a1 a2) := by
  intro a0 a1 a2 k
  obtain ⟨ih0, ih1, ih2⟩ := tartanlaw08_LcsLongest.mono_l k
  unfold tartanlaw08_LcsLongest.f
  repeat' first
      | (with_reducible exact ih0 _ _ _ _ _)
      | (with_reducible exact ih1 _ _ _ _ _)
      | (with_reducible exact ih2 _ _ _ _ _ _ _ _)
      | (with_reducible exact tartanlaw08_works.mono _)
      | (with_reducible exact LeO.refl _)
      | (with_reducible exact LeO.none _)
      | (with_reducible refine LeO.ite ?_ ?_)
      | (with_reducible refine LeO.bind ?_ (fun _ => ?_))
      | exact ih0 _ _ _ _ _
      | exact ih1 _ _ _ _ _
      | exact ih2 _ _ _ _ _ _ _ _
      | exact tartanlaw08_works.mono _
      | exact LeO.none _
      | refine LeO.ite ?_ ?_
      | refine LeO.bind ?_ (fun _ => ?_)
set_option maxHeartbeats 8000000 in
set_option maxRecDepth 100000 in
theorem tartanlaw08_LcsLongest.calls (k : Nat) (A0 : Option Addr) (c0 : Nat) (l0 : List ByteArray) (A1 : Option Addr) (c1 : Nat) (l1 : List ByteArray) (A2 : Option Addr) (c2 : Nat) (l2 : List (S34)) (r : Bool) (w : World) (hr0 : Kd.C Kd.string w A0 l0.length l0) (hc0 : l0.length ≤ c0) (hr1 : Kd.C Kd.string w A1 l1.length l1) (hc1 : l1.length ≤ c1) (hr2 : Kd.C k34 w A2 l2.length l2) (hc2 : l2.length ≤ c2) (h : tartanlaw08_LcsLongest.f k l0 l1 l2 = some r) :
    Calls Try.prog 9 #[.slice A0 l0.length c0, .slice A1 l1.length c1, .slice A2 l2.length c2] w fun e w' => e = .returned (.bool r) ∧ Below w.heap.size w w' := by
  have hu34 := Try.underlying34
  have HR0 := Aside0.mk hr0
  have HC0 := Aside0.mk hc0
  clear hr0 hc0
  have HR1 := Aside0.mk hr1
  have HC1 := Aside0.mk hc1
  clear hr1 hc1
  have HR2 := Aside0.mk hr2
  have HC2 := Aside0.mk hc2
  clear hr2 hc2
  have HB := Aside0.mk (Below.refl w.heap.size w)
  have H : ((tartanlaw08_works.f k).bind fun t306 => (if t306 = true then ((tartanlaw08_small.f l0 l1).bind fun t307 => (if t307 = true then (tartanlaw08_LcsLongest.j0 k l0 l1 l2 t306 (decide ((l2.length : Int) > 60))) else (tartanlaw08_LcsLongest.j0 k l0 l1 l2 t306 true))) else (some false))) = some r := h
  clear h
  replace H := Option.bind_eq_some_iff.mp H
  obtain ⟨t306, A40, H⟩ := H
  replace H : (if t306 = true then ((tartanlaw08_small.f l0 l1).bind fun t307 => (if t307 = true then (tartanlaw08_LcsLongest.j0 k l0 l1 l2 t306 (decide ((l2.length : Int) > 60))) else (tartanlaw08_LcsLongest.j0 k l0 l1 l2 t306 true))) else (some false)) = some r := H
  have A4 := Aside0.mk A40
  clear A40
  by_cases c5 : t306 = true
  · subst c5
    have H1 : ((tartanlaw08_small.f l0 l1).bind fun t307 => (if t307 = true then (tartanlaw08_LcsLongest.j0 k l0 l1 l2 true (decide ((l2.length : Int) > 60))) else (tartanlaw08_LcsLongest.j0 k l0 l1 l2 true true))) = some r := by first | (rw [if_pos rfl] at H; exact H) | (rw [if_pos trivial] at H; exact H) | simpa using H
    clear H
    have H := H1
    clear H1
    have HC6 := Aside0.mk H
    clear H
    go_enter Try.func9, Try.ntmps9
    go_upto_region 4 with (first | (go_at_call 20; (with_reducible refine (tartanlaw08_works.calls k  true _ A4.out).mono ?_); rintro e w7 ⟨rfl, hb⟩; have n0_ := Aside0.mk (below_step (by repeat (first | (with_reducible first | exact HB.out | apply below_alloc | apply pw_below_drewN | apply below_drew1) | exact HB.out)) hb); clear HB; have HB := n0_; clear n0_; (try clear hb); (try clear hb2); (try clear hk); (try clear hi)))
    repeat (go_quiet (first | (go_at_call 20; (with_reducible refine (tartanlaw08_works.calls k  true _ A4.out).mono ?_); rintro e w7 ⟨rfl, hb⟩; have n0_ := Aside0.mk (below_step (by repeat (first | (with_reducible first | exact HB.out | apply below_alloc | apply pw_below_drewN | apply below_drew1) | exact HB.out)) hb); clear HB; have HB := n0_; clear n0_; (try clear hb); (try clear hb2); (try clear hk); (try clear hi))); go_upto_region 4 with (first | (go_at_call 20; (with_reducible refine (tartanlaw08_works.calls k  true _ A4.out).mono ?_); rintro e w7 ⟨rfl, hb⟩; have n0_ := Aside0.mk (below_step (by repeat (first | (with_reducible first | exact HB.out | apply below_alloc | apply pw_below_drewN | apply below_drew1) | exact HB.out)) hb); clear HB; have HB := n0_; clear n0_; (try clear hb); (try clear hb2); (try clear hk); (try clear hi))))
    (try simp only [Act.put, List.setIfInBounds_toArray, List.set_cons_zero, List.set_cons_succ])
    go_cut [21] (fun v21 wc => ∃ (kq : Nat) (x21_5 : Bool), v21 = .bool x21_5 ∧ Aside0 (tartanlaw08_LcsLongest.j0 kq l0 l1 l2 true x21_5 = some r) ∧ Aside0 (kq ≤ k) ∧ Aside0 (Below w.heap.size w wc))
    case first =>
      have H := HC6.out
      clear HC6
      replace H := Option.bind_eq_some_iff.mp H
      obtain ⟨t307, A80, H⟩ := H
      replace H : (if t307 = true then (tartanlaw08_LcsLongest.j0 k l0 l1 l2 true (decide ((l2.length : Int) > 60))) else (tartanlaw08_LcsLongest.j0 k l0 l1 l2 true true)) = some r := H
      have A8 := Aside0.mk A80
      clear A80
      by_cases c9 : t307 = true
      · subst c9
        have H1 : (tartanlaw08_LcsLongest.j0 k l0 l1 l2 true (decide ((l2.length : Int) > 60))) = some r := by first | (rw [if_pos rfl] at H; exact H) | (rw [if_pos trivial] at H; exact H) | simpa using H
        clear H
        have H := H1
        clear H1
        have H' := Aside0.mk H
        clear H
        go_wp2_with (first | (go_at_call 21; (with_reducible refine (tartanlaw08_small.calls _ _ l0 _ _ l1 true _ ?side1 ?side2 ?side3 ?side4 A8.out).mono ?_); (case side1 => repeat (first | exact (Kd.C_below HR0.out HB.out) | (with_reducible refine Kd.C_alloc ?_ _) | (with_reducible refine Kd.C_drewN ?_ _) | (with_reducible refine Kd.C_drew ?_))); (case side2 => exact HC0.out); (case side3 => repeat (first | exact (Kd.C_below HR1.out HB.out) | (with_reducible refine Kd.C_alloc ?_ _) | (with_reducible refine Kd.C_drewN ?_ _) | (with_reducible refine Kd.C_drew ?_))); (case side4 => exact HC1.out); rintro e w' ⟨rfl, ⟨nd, rfl⟩⟩; (try first | exact ⟨rfl, _, World.drewN_drewN _ _ _⟩ | exact ⟨rfl, _, Eq.trans (World.drewN_drewN _ _ _) (congrArg (World.drewN _) (Nat.add_assoc _ _ _))⟩)))
        repeat (go_quiet (first | (go_at_call 21; (with_reducible refine (tartanlaw08_small.calls _ _ l0 _ _ l1 true _ ?side1 ?side2 ?side3 ?side4 A8.out).mono ?_); (case side1 => repeat (first | exact (Kd.C_below HR0.out HB.out) | (with_reducible refine Kd.C_alloc ?_ _) | (with_reducible refine Kd.C_drewN ?_ _) | (with_reducible refine Kd.C_drew ?_))); (case side2 => exact HC0.out); (case side3 => repeat (first | exact (Kd.C_below HR1.out HB.out) | (with_reducible refine Kd.C_alloc ?_ _) | (with_reducible refine Kd.C_drewN ?_ _) | (with_reducible refine Kd.C_drew ?_))); (case side4 => exact HC1.out); rintro e w' ⟨rfl, ⟨nd, rfl⟩⟩; (try first | exact ⟨rfl, _, World.drewN_drewN _ _ _⟩ | exact ⟨rfl, _, Eq.trans (World.drewN_drewN _ _ _) (congrArg (World.drewN _) (Nat.add_assoc _ _ _))⟩))); try go_wp2_with (first | (go_at_call 21; (with_reducible refine (tartanlaw08_small.calls _ _ l0 _ _ l1 true _ ?side1 ?side2 ?side3 ?side4 A8.out).mono ?_); (case side1 => repeat (first | exact (Kd.C_below HR0.out HB.out) | (with_reducible refine Kd.C_alloc ?_ _) | (with_reducible refine Kd.C_drewN ?_ _) | (with_reducible refine Kd.C_drew ?_))); (case side2 => exact HC0.out); (case side3 => repeat (first | exact (Kd.C_below HR1.out HB.out) | (with_reducible refine Kd.C_alloc ?_ _) | (with_reducible refine Kd.C_drewN ?_ _) | (with_reducible refine Kd.C_drew ?_))); (case side4 => exact HC1.out); rintro e w' ⟨rfl, ⟨nd, rfl⟩⟩; (try first | exact ⟨rfl, _, World.drewN_drewN _ _ _⟩ | exact ⟨rfl, _, Eq.trans (World.drewN_drewN _ _ _) (congrArg (World.drewN _) (Nat.add_assoc _ _ _))⟩))))
        go_meet
        case rel => exact ⟨_, (decide ((l2.length : Int) > 60)), (by first | rfl | (simp; done) | (simp [*]; done)), H', ⟨by first | omega | exact Nat.le_refl _⟩, ⟨by repeat (first | (with_reducible first | exact HB.out | apply below_alloc | apply pw_below_drewN | apply below_drew1) | exact HB.out)⟩⟩
      · replace c9 := Bool.eq_false_iff.mpr c9
        subst c9
        have H1 : (tartanlaw08_LcsLongest.j0 k l0 l1 l2 true true) = some r := by rw [if_neg (show ¬ (false = true) by decide)] at H; exact H
        clear H
        have H := H1
        clear H1
        have H' := Aside0.mk H
        clear H
        go_wp2_with (first | (go_at_call 21; (with_reducible refine (tartanlaw08_small.calls _ _ l0 _ _ l1 false _ ?side1 ?side2 ?side3 ?side4 A8.out).mono ?_); (case side1 => repeat (first | exact (Kd.C_below HR0.out HB.out) | (with_reducible refine Kd.C_alloc ?_ _) | (with_reducible refine Kd.C_drewN ?_ _) | (with_reducible refine Kd.C_drew ?_))); (case side2 => exact HC0.out); (case side3 => repeat (first | exact (Kd.C_below HR1.out HB.out) | (with_reducible refine Kd.C_alloc ?_ _) | (with_reducible refine Kd.C_drewN ?_ _) | (with_reducible refine Kd.C_drew ?_))); (case side4 => exact HC1.out); rintro e w' ⟨rfl, ⟨nd, rfl⟩⟩; (try first | exact ⟨rfl, _, World.drewN_drewN _ _ _⟩ | exact ⟨rfl, _, Eq.trans (World.drewN_drewN _ _ _) (congrArg (World.drewN _) (Nat.add_assoc _ _ _))⟩)))
        repeat (go_quiet (first | (go_at_call 21; (with_reducible refine (tartanlaw08_small.calls _ _ l0 _ _ l1 false _ ?side1 ?side2 ?side3 ?side4 A8.out).mono ?_); (case side1 => repeat (first | exact (Kd.C_below HR0.out HB.out) | (with_reducible refine Kd.C_alloc ?_ _) | (with_reducible refine Kd.C_drewN ?_ _) | (with_reducible refine Kd.C_drew ?_))); (case side2 => exact HC0.out); (case side3 => repeat (first | exact (Kd.C_below HR1.out HB.out) | (with_reducible refine Kd.C_alloc ?_ _) | (with_reducible refine Kd.C_drewN ?_ _) | (with_reducible refine Kd.C_drew ?_))); (case side4 => exact HC1.out); rintro e w' ⟨rfl, ⟨nd, rfl⟩⟩; (try first | exact ⟨rfl, _, World.drewN_drewN _ _ _⟩ | exact ⟨rfl, _, Eq.trans (World.drewN_drewN _ _ _) (congrArg (World.drewN _) (Nat.add_assoc _ _ _))⟩))); try go_wp2_with (first | (go_at_call 21; (with_reducible refine (tartanlaw08_small.calls _ _ l0 _ _ l1 false _ ?side1 ?side2 ?side3 ?side4 A8.out).mono ?_); (case side1 => repeat (first | exact (Kd.C_below HR0.out HB.out) | (with_reducible refine Kd.C_alloc ?_ _) | (with_reducible refine Kd.C_drewN ?_ _) | (with_reducible refine Kd.C_drew ?_))); (case side2 => exact HC0.out); (case side3 => repeat (first | exact (Kd.C_below HR1.out HB.out) | (with_reducible refine Kd.C_alloc ?_ _) | (with_reducible refine Kd.C_drewN ?_ _) | (with_reducible refine Kd.C_drew ?_))); (case side4 => exact HC1.out); rintro e w' ⟨rfl, ⟨nd, rfl⟩⟩; (try first | exact ⟨rfl, _, World.drewN_drewN _ _ _⟩ | exact ⟨rfl, _, Eq.trans (World.drewN_drewN _ _ _) (congrArg (World.drewN _) (Nat.add_assoc _ _ _))⟩))))
        go_meet
        case rel => exact ⟨_, (true), (by first | rfl | (simp; done) | (simp [*]; done)), H', ⟨by first | omega | exact Nat.le_refl _⟩, ⟨by repeat (first | (with_reducible first | exact HB.out | apply below_alloc | apply pw_below_drewN | apply below_drew1) | exact HB.out)⟩⟩
    case rest =>
      clear HC6
      try clear c1
      try clear c2
      try clear p2
      try clear c5
      try clear c9
      obtain ⟨kq, x21_5, rfl, HA, HJ5, HB⟩ := hcut
      cases kq with
      | zero => exact absurd HA.out (by simp [tartanlaw08_LcsLongest.j0])
      | succ kj5 =>
        have H := HA.out
        clear HA
        simp only [tartanlaw08_LcsLongest.j0] at H
        by_cases c10 : x21_5 = true
        · subst c10
          have H1 : (some true) = some r := by first | (rw [if_pos rfl] at H; exact H) | (rw [if_pos trivial] at H; exact H) | simpa using H
          clear H
          have H := H1
          clear H1
          obtain rfl := Option.some.inj H
          go_wp2
          repeat (go_quiet (fail); try go_wp2)
          go_ret
          exact ⟨by first | rfl | (simp [errW_none, errW_some] <;> rfl) | (simp [*, errW_none, errW_some] <;> rfl), by repeat (first | (with_reducible first | exact HB.out | apply below_alloc | apply pw_below_drewN | apply below_drew1) | exact HB.out)⟩
        · replace c10 := Bool.eq_false_iff.mpr c10
          subst c10
          have H1 : (tartanlaw08_LcsLongest.l0 kj5 l0 l1 l2 true 0) = some r := by rw [if_neg (show ¬ (false = true) by decide)] at H; exact H
          clear H
          have H := H1
          clear H1
          have H' := Aside0.mk H
          clear H
          go_wp2
          repeat (go_quiet (fail); try go_wp2)
          go_loopg [8] kj5 (fun kq v8 w' => ∃ (x8_2 : Int), v8 = .int .i64 x8_2 ∧ Aside0 (tartanlaw08_LcsLongest.l0 kq l0 l1 l2 true x8_2 = some r) ∧ Aside0 (kq ≤ kj5) ∧ Aside0 (Below w.heap.size w w'))
          case atStart => exact ⟨(0), (by first | rfl | (simp; done) | (simp [*]; done)), H', ⟨Nat.le_refl _⟩, ⟨by repeat (first | (with_reducible first | exact HB.out | apply below_alloc | apply pw_below_drewN | apply below_drew1) | exact HB.out)⟩⟩
          case round =>
            clear H'
            try clear c1
            try clear c2
            try clear p2
            try clear c5
            try clear c9
            try clear c10
            try clear p2
            obtain ⟨x8_2, rfl, HA, HK2, HB⟩ := hrel
            cases gk with
            | zero => exact absurd HA.out (by simp [tartanlaw08_LcsLongest.l0])
            | succ k2 =>
              have H := HA.out
              clear HA
              simp only [tartanlaw08_LcsLongest.l0] at H
              by_cases c11 : x8_2 < (l2.length : Int)
              · rw [if_pos c11] at H
                have c11b0 : decide (x8_2 < (l2.length : Int)) = true := decide_eq_true c11
                clear c11
                by_cases c12 : 0 ≤ x8_2
                · rw [if_pos c12] at H
                  have c12b0 : decide (0 ≤ x8_2) = true := decide_eq_true c12
                  clear c12
                  have HC13 := Aside0.mk H
                  clear H
                  have p312 : 0 ≤ (x8_2 : Int) := of_decide_eq_true (by first | (with_reducible assumption) | assumption)
                  have q312 : x8_2 < (l2.length : Int) := of_decide_eq_true (by first | (with_reducible assumption) | assumption)
                  obtain ⟨ad312, e312, hx312_0, hx312_1⟩ := at_T34 HR2.out x8_2 p312 q312
                  cases e312
                  replace hx312_0 := (HB.out.cell (World.block_lt_of_cell? w _ hx312_0)).trans hx312_0
                  replace hx312_1 := (HB.out.cell (World.block_lt_of_cell? w _ hx312_1)).trans hx312_1
                  replace p312 := eq_true p312
                  replace q312 := eq_true q312
                  go_upto_region 10 with (first | ((with_reducible refine gate_dst (N := 9) rfl ?_); (try (refine gate_guard (by rfl) ?_; dsimp only)); refine box_event ?hg (N := 9) ?hd (cs := #[.int .i64 0, .int .i64 0]) (t := 34) ?hr ?_; (case hd => rfl); (case hg => rfl); (case hr => first | (go_simp; done) | (go_simp; rfl)); intro gb313 hg w14 hbox hb; have n0_ := Aside0.mk (below_step (by repeat (first | (with_reducible first | exact HB.out | apply below_alloc | apply pw_below_drewN | apply below_drew1) | exact HB.out)) hb); have n1_ := Aside0.mk (hbox); have n2_ := Aside0.mk ((by rw [hg]; exact (below_size (by repeat (first | (with_reducible first | exact HB.out | apply below_alloc | apply pw_below_drewN | apply below_drew1) | exact HB.out))) : w.heap.size ≤ gb313)); have n3_ := Aside0.mk ((by rw [hg]; exact (below_size (by repeat (first | (with_reducible first | exact HB.out | apply below_alloc | apply pw_below_drewN | apply below_drew1) | exact HB.out))) : w.heap.size ≤ gb313)); clear HB; have HB := n0_; have BK313 := n1_; have GW313 := n2_; have GE313 := n3_; clear n0_ n1_ n2_ n3_; clear hb hbox hg; have hcz15_0 : w14.cell? ⟨gb313, 0, none⟩ = some (.int .i64 0) := (blk_cell BK313.out 0).trans rfl; have hcz15_1 : w14.cell? ⟨gb313, 1, none⟩ = some (.int .i64 0) := (blk_cell BK313.out 1).trans rfl; have hfz15_0 := blk_frozen BK313.out 0; have hfz15_1 := blk_frozen BK313.out 1))
                  repeat (go_quiet (first | ((with_reducible refine gate_dst (N := 9) rfl ?_); (try (refine gate_guard (by rfl) ?_; dsimp only)); refine box_event ?hg (N := 9) ?hd (cs := #[.int .i64 0, .int .i64 0]) (t := 34) ?hr ?_; (case hd => rfl); (case hg => rfl); (case hr => first | (go_simp; done) | (go_simp; rfl)); intro gb313 hg w14 hbox hb; have n0_ := Aside0.mk (below_step (by repeat (first | (with_reducible first | exact HB.out | apply below_alloc | apply pw_below_drewN | apply below_drew1) | exact HB.out)) hb); have n1_ := Aside0.mk (hbox); have n2_ := Aside0.mk ((by rw [hg]; exact (below_size (by repeat (first | (with_reducible first | exact HB.out | apply below_alloc | apply pw_below_drewN | apply below_drew1) | exact HB.out))) : w.heap.size ≤ gb313)); have n3_ := Aside0.mk ((by rw [hg]; exact (below_size (by repeat (first | (with_reducible first | exact HB.out | apply below_alloc | apply pw_below_drewN | apply below_drew1) | exact HB.out))) : w.heap.size ≤ gb313)); clear HB; have HB := n0_; have BK313 := n1_; have GW313 := n2_; have GE313 := n3_; clear n0_ n1_ n2_ n3_; clear hb hbox hg; have hcz15_0 : w14.cell? ⟨gb313, 0, none⟩ = some (.int .i64 0) := (blk_cell BK313.out 0).trans rfl; have hcz15_1 : w14.cell? ⟨gb313, 1, none⟩ = some (.int .i64 0) := (blk_cell BK313.out 1).trans rfl; have hfz15_0 := blk_frozen BK313.out 0; have hfz15_1 := blk_frozen BK313.out 1)); go_upto_region 10 with (first | ((with_reducible refine gate_dst (N := 9) rfl ?_); (try (refine gate_guard (by rfl) ?_; dsimp only)); refine box_event ?hg (N := 9) ?hd (cs := #[.int .i64 0, .int .i64 0]) (t := 34) ?hr ?_; (case hd => rfl); (case hg => rfl); (case hr => first | (go_simp; done) | (go_simp; rfl)); intro gb313 hg w14 hbox hb; have n0_ := Aside0.mk (below_step (by repeat (first | (with_reducible first | exact HB.out | apply below_alloc | apply pw_below_drewN | apply below_drew1) | exact HB.out)) hb); have n1_ := Aside0.mk (hbox); have n2_ := Aside0.mk ((by rw [hg]; exact (below_size (by repeat (first | (with_reducible first | exact HB.out | apply below_alloc | apply pw_below_drewN | apply below_drew1) | exact HB.out))) : w.heap.size ≤ gb313)); have n3_ := Aside0.mk ((by rw [hg]; exact (below_size (by repeat (first | (with_reducible first | exact HB.out | apply below_alloc | apply pw_below_drewN | apply below_drew1) | exact HB.out))) : w.heap.size ≤ gb313)); clear HB; have HB := n0_; have BK313 := n1_; have GW313 := n2_; have GE313 := n3_; clear n0_ n1_ n2_ n3_; clear hb hbox hg; have hcz15_0 : w14.cell? ⟨gb313, 0, none⟩ = some (.int .i64 0) := (blk_cell BK313.out 0).trans rfl; have hcz15_1 : w14.cell? ⟨gb313, 1, none⟩ = some (.int .i64 0) := (blk_cell BK313.out 1).trans rfl; have hfz15_0 := blk_frozen BK313.out 0; have hfz15_1 := blk_frozen BK313.out 1)))
                  (try simp only [Act.put, List.setIfInBounds_toArray, List.set_cons_zero, List.set_cons_succ])
                  go_cut [67] (fun v67 wc => ∃ (kq : Nat) (x67_12 : Bool), v67 = .bool x67_12 ∧ Aside0 (tartanlaw08_LcsLongest.j2 kq l0 l1 l2 true x8_2 x67_12 ((rd_T34 l2 x8_2).f0) ((rd_T34 l2 x8_2).f1) = some r) ∧ Aside0 (kq ≤ k2) ∧ Aside0 (wc.heap[gb313]? = some (.cells #[.int .i64 ((rd_T34 l2 x8_2).f0), .int .i64 ((rd_T34 l2 x8_2).f1)] 34 (0, 0))) ∧ Aside0 (Below w.heap.size w wc))
                  case first =>
                    have H := HC13.out
                    clear HC13
                    by_cases c16 : ((rd_T34 l2 x8_2).f0) < 0
                    · rw [if_pos c16] at H
                      have c16b0 : decide (((rd_T34 l2 x8_2).f0) < 0) = true := decide_eq_true c16
                      clear c16
                      (first | rw [c16b0] | (simp only [i64_w, i32_w]; rw [c16b0]) | skip)
                      have H' := Aside0.mk H
                      clear H
                      have hcz17_0 : w14.cell? ⟨gb313, 0, none⟩ = some (.int .i64 0) := (blk_cell BK313.out 0).trans rfl
                      have hcz17_1 : w14.cell? ⟨gb313, 1, none⟩ = some (.int .i64 0) := (blk_cell BK313.out 1).trans rfl
                      have hfz17_0 := blk_frozen BK313.out 0
                      have hfz17_1 := blk_frozen BK313.out 1
                      go_wp2
                      repeat (go_quiet (fail); try go_wp2)
                      go_meet
                      case rel => exact ⟨_, (true), (by first | rfl | (simp; done) | (simp [*]; done)), H', ⟨by have := HJ5.out; have := HK2.out; first | omega | exact Nat.le_refl _⟩, ⟨by (with_reducible repeat (first | refine blk_drewN ?_ _ | refine blk_drew ?_ | refine blk_alloc ?_ _)); refine blk_put (cs := #[.int .i64 ((rd_T34 l2 x8_2).f0), .int .i64 0]) ?_ 1 _ rfl; (with_reducible repeat (first | refine blk_drewN ?_ _ | refine blk_drew ?_ | refine blk_alloc ?_ _)); refine blk_put (cs := #[.int .i64 0, .int .i64 0]) ?_ 0 _ rfl; (with_reducible repeat (first | refine blk_drewN ?_ _ | refine blk_drew ?_ | refine blk_alloc ?_ _)); exact BK313.out⟩, ⟨by repeat (first | (with_reducible first | exact HB.out | apply below_alloc | apply pw_below_drewN | apply below_drew1 | refine below_set ?_ GE313.out) | exact HB.out)⟩⟩
                    · rw [if_neg c16] at H
                      have c16b0 : decide (((rd_T34 l2 x8_2).f0) < 0) = false := decide_eq_false c16
                      clear c16
                      (first | rw [c16b0] | (simp only [i64_w, i32_w]; rw [c16b0]) | skip)
                      by_cases c18 : ((rd_T34 l2 x8_2).f0) ≥ (l0.length : Int)
                      · rw [if_pos c18] at H
                        have c18b0 : decide ((l0.length : Int) ≤ ((rd_T34 l2 x8_2).f0)) = true := decide_eq_true c18
                        clear c18
                        have H' := Aside0.mk H
                        clear H
                        have hcz19_0 : w14.cell? ⟨gb313, 0, none⟩ = some (.int .i64 0) := (blk_cell BK313.out 0).trans rfl
                        have hcz19_1 : w14.cell? ⟨gb313, 1, none⟩ = some (.int .i64 0) := (blk_cell BK313.out 1).trans rfl
                        have hfz19_0 := blk_frozen BK313.out 0
                        have hfz19_1 := blk_frozen BK313.out 1
                        go_wp2
                        repeat (go_quiet (fail); try go_wp2)
                        go_meet
                        case rel => exact ⟨_, (true), (by first | rfl | (simp; done) | (simp [*]; done)), H', ⟨by have := HJ5.out; have := HK2.out; first | omega | exact Nat.le_refl _⟩, ⟨by (with_reducible repeat (first | refine blk_drewN ?_ _ | refine blk_drew ?_ | refine blk_alloc ?_ _)); refine blk_put (cs := #[.int .i64 ((rd_T34 l2 x8_2).f0), .int .i64 0]) ?_ 1 _ rfl; (with_reducible repeat (first | refine blk_drewN ?_ _ | refine blk_drew ?_ | refine blk_alloc ?_ _)); refine blk_put (cs := #[.int .i64 0, .int .i64 0]) ?_ 0 _ rfl; (with_reducible repeat (first | refine blk_drewN ?_ _ | refine blk_drew ?_ | refine blk_alloc ?_ _)); exact BK313.out⟩, ⟨by repeat (first | (with_reducible first | exact HB.out | apply below_alloc | apply pw_below_drewN | apply below_drew1 | refine below_set ?_ GE313.out) | exact HB.out)⟩⟩
                      · rw [if_neg c18] at H
                        have c18b0 : decide ((l0.length : Int) ≤ ((rd_T34 l2 x8_2).f0)) = false := decide_eq_false c18
                        clear c18
                        by_cases c20 : ((rd_T34 l2 x8_2).f1) < 0
                        · rw [if_pos c20] at H
                          have c20b0 : decide (((rd_T34 l2 x8_2).f1) < 0) = true := decide_eq_true c20
                          clear c20
                          have H' := Aside0.mk H
                          clear H
                          have hcz21_0 : w14.cell? ⟨gb313, 0, none⟩ = some (.int .i64 0) := (blk_cell BK313.out 0).trans rfl
                          have hcz21_1 : w14.cell? ⟨gb313, 1, none⟩ = some (.int .i64 0) := (blk_cell BK313.out 1).trans rfl
                          have hfz21_0 := blk_frozen BK313.out 0
                          have hfz21_1 := blk_frozen BK313.out 1
                          go_wp2
                          repeat (go_quiet (fail); try go_wp2)
                          go_meet
                          case rel => exact ⟨_, (true), (by first | rfl | (simp; done) | (simp [*]; done)), H', ⟨by have := HJ5.out; have := HK2.out; first | omega | exact Nat.le_refl _⟩, ⟨by (with_reducible repeat (first | refine blk_drewN ?_ _ | refine blk_drew ?_ | refine blk_alloc ?_ _)); refine blk_put (cs := #[.int .i64 ((rd_T34 l2 x8_2).f0), .int .i64 0]) ?_ 1 _ rfl; (with_reducible repeat (first | refine blk_drewN ?_ _ | refine blk_drew ?_ | refine blk_alloc ?_ _)); refine blk_put (cs := #[.int .i64 0, .int .i64 0]) ?_ 0 _ rfl; (with_reducible repeat (first | refine blk_drewN ?_ _ | refine blk_drew ?_ | refine blk_alloc ?_ _)); exact BK313.out⟩, ⟨by repeat (first | (with_reducible first | exact HB.out | apply below_alloc | apply pw_below_drewN | apply below_drew1 | refine below_set ?_ GE313.out) | exact HB.out)⟩⟩
                        · rw [if_neg c20] at H
                          have c20b0 : decide (((rd_T34 l2 x8_2).f1) < 0) = false := decide_eq_false c20
                          clear c20
                          by_cases c22 : ((rd_T34 l2 x8_2).f1) ≥ (l1.length : Int)
                          · rw [if_pos c22] at H
                            have c22b0 : decide ((l1.length : Int) ≤ ((rd_T34 l2 x8_2).f1)) = true := decide_eq_true c22
                            clear c22
                            have H' := Aside0.mk H
                            clear H
                            have hcz23_0 : w14.cell? ⟨gb313, 0, none⟩ = some (.int .i64 0) := (blk_cell BK313.out 0).trans rfl
                            have hcz23_1 : w14.cell? ⟨gb313, 1, none⟩ = some (.int .i64 0) := (blk_cell BK313.out 1).trans rfl
                            have hfz23_0 := blk_frozen BK313.out 0
                            have hfz23_1 := blk_frozen BK313.out 1
                            go_wp2
                            repeat (go_quiet (fail); try go_wp2)
                            go_meet
                            case rel => exact ⟨_, (true), (by first | rfl | (simp; done) | (simp [*]; done)), H', ⟨by have := HJ5.out; have := HK2.out; first | omega | exact Nat.le_refl _⟩, ⟨by (with_reducible repeat (first | refine blk_drewN ?_ _ | refine blk_drew ?_ | refine blk_alloc ?_ _)); refine blk_put (cs := #[.int .i64 ((rd_T34 l2 x8_2).f0), .int .i64 0]) ?_ 1 _ rfl; (with_reducible repeat (first | refine blk_drewN ?_ _ | refine blk_drew ?_ | refine blk_alloc ?_ _)); refine blk_put (cs := #[.int .i64 0, .int .i64 0]) ?_ 0 _ rfl; (with_reducible repeat (first | refine blk_drewN ?_ _ | refine blk_drew ?_ | refine blk_alloc ?_ _)); exact BK313.out⟩, ⟨by repeat (first | (with_reducible first | exact HB.out | apply below_alloc | apply pw_below_drewN | apply below_drew1 | refine below_set ?_ GE313.out) | exact HB.out)⟩⟩
                          · rw [if_neg c22] at H
                            have c22b0 : decide ((l1.length : Int) ≤ ((rd_T34 l2 x8_2).f1)) = false := decide_eq_false c22
                            clear c22
                            by_cases c24 : 0 ≤ ((rd_T34 l2 x8_2).f0)
                            · rw [if_pos c24] at H
                              have c24b0 : decide (0 ≤ ((rd_T34 l2 x8_2).f0)) = true := decide_eq_true c24
                              clear c24
                              by_cases c25 : ((rd_T34 l2 x8_2).f0) < (l0.length : Int)
                              · rw [if_pos c25] at H
                                have c25b0 : decide (((rd_T34 l2 x8_2).f0) < (l0.length : Int)) = true := decide_eq_true c25
                                clear c25
                                by_cases c26 : 0 ≤ ((rd_T34 l2 x8_2).f1)
                                · rw [if_pos c26] at H
                                  have c26b0 : decide (0 ≤ ((rd_T34 l2 x8_2).f1)) = true := decide_eq_true c26
                                  clear c26
                                  by_cases c27 : ((rd_T34 l2 x8_2).f1) < (l1.length : Int)
                                  · rw [if_pos c27] at H
                                    have c27b0 : decide (((rd_T34 l2 x8_2).f1) < (l1.length : Int)) = true := decide_eq_true c27
                                    clear c27
                                    have H' := Aside0.mk H
                                    clear H
                                    have hcz28_0 : w14.cell? ⟨gb313, 0, none⟩ = some (.int .i64 0) := (blk_cell BK313.out 0).trans rfl
                                    have hcz28_1 : w14.cell? ⟨gb313, 1, none⟩ = some (.int .i64 0) := (blk_cell BK313.out 1).trans rfl
                                    have hfz28_0 := blk_frozen BK313.out 0
                                    have hfz28_1 := blk_frozen BK313.out 1
                                    have p314 : 0 ≤ (((rd_T34 l2 x8_2).f0) : Int) := of_decide_eq_true (by first | (with_reducible assumption) | assumption)
                                    have q314 : ((rd_T34 l2 x8_2).f0) < (l0.length : Int) := of_decide_eq_true (by first | (with_reducible assumption) | assumption)
                                    obtain ⟨ad314, e314, hx314_0⟩ := Kd.at_string HR0.out ((rd_T34 l2 x8_2).f0) p314 q314
                                    cases e314
                                    have hn314_0 : ad314.block ≠ gb313 := Nat.ne_of_lt (Nat.lt_of_lt_of_le (by have := World.block_lt_of_cell? _ _ hx314_0; first | rwa [add_block] at this | exact this) GW313.out)
                                    have hn314_1 : ad314.block ≠ gb313 := Nat.ne_of_lt (Nat.lt_of_lt_of_le (by have := World.block_lt_of_cell? _ _ hx314_0; first | rwa [add_block] at this | exact this) GW313.out)
                                    replace hx314_0 := (HB.out.cell (World.block_lt_of_cell? w _ hx314_0)).trans hx314_0
                                    replace hx314_0 := (cell_far (p := ⟨gb313, 0, none⟩) (by first | (rw [add_block]; exact hn314_0) | (show (Addr.add _ _).block ≠ _; rw [add_block]; exact hn314_0) | exact hn314_0) (.int .i64 ((rd_T34 l2 x8_2).f0))).trans hx314_0
                                    replace hx314_0 := (cell_far (p := ⟨gb313, 1, none⟩) (by first | (rw [add_block]; exact hn314_1) | (show (Addr.add _ _).block ≠ _; rw [add_block]; exact hn314_1) | exact hn314_1) (.int .i64 ((rd_T34 l2 x8_2).f1))).trans hx314_0
                                    (try have hy314_0 := fun (n_ : Nat) => (show ((((w14.drewN n_).setCell ⟨gb313, 0, none⟩ (.int .i64 ((rd_T34 l2 x8_2).f0))).setCell ⟨gb313, 1, none⟩ (.int .i64 ((rd_T34 l2 x8_2).f1)))).cell? _ = some _ from hx314_0))
                                    clear hn314_0
                                    clear hn314_1
                                    replace p314 := eq_true p314
                                    replace q314 := eq_true q314
                                    have p315 : 0 ≤ (((rd_T34 l2 x8_2).f1) : Int) := of_decide_eq_true (by first | (with_reducible assumption) | assumption)
                                    have q315 : ((rd_T34 l2 x8_2).f1) < (l1.length : Int) := of_decide_eq_true (by first | (with_reducible assumption) | assumption)
                                    obtain ⟨ad315, e315, hx315_0⟩ := Kd.at_string HR1.out ((rd_T34 l2 x8_2).f1) p315 q315
                                    cases e315
                                    have hn315_0 : ad315.block ≠ gb313 := Nat.ne_of_lt (Nat.lt_of_lt_of_le (by have := World.block_lt_of_cell? _ _ hx315_0; first | rwa [add_block] at this | exact this) GW313.out)
                                    have hn315_1 : ad315.block ≠ gb313 := Nat.ne_of_lt (Nat.lt_of_lt_of_le (by have := World.block_lt_of_cell? _ _ hx315_0; first | rwa [add_block] at this | exact this) GW313.out)
                                    replace hx315_0 := (HB.out.cell (World.block_lt_of_cell? w _ hx315_0)).trans hx315_0
                                    replace hx315_0 := (cell_far (p := ⟨gb313, 0, none⟩) (by first | (rw [add_block]; exact hn315_0) | (show (Addr.add _ _).block ≠ _; rw [add_block]; exact hn315_0) | exact hn315_0) (.int .i64 ((rd_T34 l2 x8_2).f0))).trans hx315_0
                                    replace hx315_0 := (cell_far (p := ⟨gb313, 1, none⟩) (by first | (rw [add_block]; exact hn315_1) | (show (Addr.add _ _).block ≠ _; rw [add_block]; exact hn315_1) | exact hn315_1) (.int .i64 ((rd_T34 l2 x8_2).f1))).trans hx315_0
                                    (try have hy315_0 := fun (n_ : Nat) => (show ((((w14.drewN n_).setCell ⟨gb313, 0, none⟩ (.int .i64 ((rd_T34 l2 x8_2).f0))).setCell ⟨gb313, 1, none⟩ (.int .i64 ((rd_T34 l2 x8_2).f1)))).cell? _ = some _ from hx315_0))
                                    clear hn315_0
                                    clear hn315_1
                                    replace p315 := eq_true p315
                                    replace q315 := eq_true q315
                                    go_wp2
                                    repeat (go_quiet (fail); try go_wp2)
                                    go_meet
                                    case rel => exact ⟨_, (((rdOf ByteArray.empty l0 ((rd_T34 l2 x8_2).f0)).toList != (rdOf ByteArray.empty l1 ((rd_T34 l2 x8_2).f1)).toList)), (by first | rfl | (simp; done) | (simp [*]; done)), H', ⟨by have := HJ5.out; have := HK2.out; first | omega | exact Nat.le_refl _⟩, ⟨by (with_reducible repeat (first | refine blk_drewN ?_ _ | refine blk_drew ?_ | refine blk_alloc ?_ _)); refine blk_put (cs := #[.int .i64 ((rd_T34 l2 x8_2).f0), .int .i64 0]) ?_ 1 _ rfl; (with_reducible repeat (first | refine blk_drewN ?_ _ | refine blk_drew ?_ | refine blk_alloc ?_ _)); refine blk_put (cs := #[.int .i64 0, .int .i64 0]) ?_ 0 _ rfl; (with_reducible repeat (first | refine blk_drewN ?_ _ | refine blk_drew ?_ | refine blk_alloc ?_ _)); exact BK313.out⟩, ⟨by repeat (first | (with_reducible first | exact HB.out | apply below_alloc | apply pw_below_drewN | apply below_drew1 | refine below_set ?_ GE313.out) | exact HB.out)⟩⟩
                                  · rw [if_neg c27] at H
                                    exact absurd H (by simp)
                                · rw [if_neg c26] at H
                                  exact absurd H (by simp)
                              · rw [if_neg c25] at H
                                exact absurd H (by simp)
                            · rw [if_neg c24] at H
                              exact absurd H (by simp)
                  case rest =>
                    clear HC13
                    try clear c1
                    try clear c2
                    try clear p2
                    try clear p3
                    try clear q3
                    try clear hx3
                    try clear c5
                    try clear c9
                    try clear c10
                    try clear c11
                    try clear c11b0
                    try clear c12
                    try clear c12b0
                    try clear c16
                    try clear c16b0
                    try clear c18
                    try clear c18b0
                    try clear c20
                    try clear c20b0
                    try clear c22
                    try clear c22b0
                    try clear c24
                    try clear c24b0
                    try clear c25
                    try clear c25b0
                    try clear c26
                    try clear c26b0
                    try clear c27
                    try clear c27b0
                    try clear hcz15_0
                    try clear hcz15_1
                    try clear hcz17_0
                    try clear hcz17_1
                    try clear hcz19_0
                    try clear hcz19_1
                    try clear hcz21_0
                    try clear hcz21_1
                    try clear hcz23_0
                    try clear hcz23_1
                    try clear hcz28_0
                    try clear hcz28_1
                    try clear hfz15_0
                    try clear hfz15_1
                    try clear hfz17_0
                    try clear hfz17_1
                    try clear hfz19_0
                    try clear hfz19_1
                    try clear hfz21_0
                    try clear hfz21_1
                    try clear hfz23_0
                    try clear hfz23_1
                    try clear hfz28_0
                    try clear hfz28_1
                    try clear hx312_0
                    try clear hx312_1
                    try clear hx314_0
                    try clear hx315_0
                    try clear p2
                    try clear p312
                    try clear p314
                    try clear p315
                    try clear q312
                    try clear q314
                    try clear q315
                    obtain ⟨kq, x67_12, rfl, HA, HJ12, BK313, HB⟩ := hcut
                    cases kq with
                    | zero => exact absurd HA.out (by simp [tartanlaw08_LcsLongest.j2])
                    | succ kj12 =>
                      have H := HA.out
                      clear HA
                      simp only [tartanlaw08_LcsLongest.j2] at H
                      by_cases c29 : x67_12 = true
                      · subst c29
                        have H1 : (some true) = some r := by first | (rw [if_pos rfl] at H; exact H) | (rw [if_pos trivial] at H; exact H) | simpa using H
                        clear H
                        have H := H1
                        clear H1
                        obtain rfl := Option.some.inj H
                        go_wp2
                        repeat (go_quiet (fail); try go_wp2)
                        go_ret
                        exact ⟨by first | rfl | (simp [errW_none, errW_some] <;> rfl) | (simp [*, errW_none, errW_some] <;> rfl), by repeat (first | (with_reducible first | exact HB.out | apply below_alloc | apply pw_below_drewN | apply below_drew1 | refine below_set ?_ GE313.out) | exact HB.out)⟩
                      · replace c29 := Bool.eq_false_iff.mpr c29
                        subst c29
                        have H1 : (if x8_2 > 0 then (if 0 ≤ (wrap64 (x8_2 - 1)) then (if (wrap64 (x8_2 - 1)) < (l2.length : Int) then (if ((rd_T34 l2 x8_2).f0) ≤ ((rd_T34 l2 (wrap64 (x8_2 - 1))).f0) then (some true) else (if ((rd_T34 l2 x8_2).f1) ≤ ((rd_T34 l2 (wrap64 (x8_2 - 1))).f1) then (some true) else (tartanlaw08_LcsLongest.l0 kj12 l0 l1 l2 true (wrap64 (x8_2 + 1))))) else (none)) else (none)) else (tartanlaw08_LcsLongest.l0 kj12 l0 l1 l2 true (wrap64 (x8_2 + 1)))) = some r := by rw [if_neg (show ¬ (false = true) by decide)] at H; exact H
                        clear H
                        have H := H1
                        clear H1
                        by_cases c30 : x8_2 > 0
                        · rw [if_pos c30] at H
                          have c30b0 : decide (0 < x8_2) = true := decide_eq_true c30
                          clear c30
                          obtain ⟨ji31, hji31⟩ : ∃ j_ : Int, (wrap64 (x8_2 - 1)) = j_ := ⟨_, rfl⟩
                          replace H : (if 0 ≤ (ji31) then (if (ji31) < (l2.length : Int) then (if ((rd_T34 l2 x8_2).f0) ≤ ((rd_T34 l2 (ji31)).f0) then (some true) else (if ((rd_T34 l2 x8_2).f1) ≤ ((rd_T34 l2 (ji31)).f1) then (some true) else (tartanlaw08_LcsLongest.l0 kj12 l0 l1 l2 true (wrap64 (x8_2 + 1))))) else (none)) else (none)) = some r := by first | (rw [hji31] at H; exact H) | (simp only [hji31] at H ⊢; exact H)
                          have hji31w : (IntKind.i64.wrap (x8_2 - 1)) = ji31 := (i64_w _).trans hji31
                          by_cases c32 : 0 ≤ (ji31)
                          · rw [if_pos c32] at H
                            have c32b0 : decide (0 ≤ (ji31)) = true := decide_eq_true c32
                            clear c32
                            by_cases c33 : (ji31) < (l2.length : Int)
                            · rw [if_pos c33] at H
                              have c33b0 : decide ((ji31) < (l2.length : Int)) = true := decide_eq_true c33
                              clear c33
                              by_cases c34 : ((rd_T34 l2 x8_2).f0) ≤ ((rd_T34 l2 (ji31)).f0)
                              · rw [if_pos c34] at H
                                have c34b0 : decide (((rd_T34 l2 x8_2).f0) ≤ ((rd_T34 l2 (ji31)).f0)) = true := decide_eq_true c34
                                clear c34
                                obtain rfl := Option.some.inj H
                                have hcz35_0 : wc.cell? ⟨gb313, 0, none⟩ = some (.int .i64 ((rd_T34 l2 x8_2).f0)) := (blk_cell BK313.out 0).trans rfl
                                have hcz35_1 : wc.cell? ⟨gb313, 1, none⟩ = some (.int .i64 ((rd_T34 l2 x8_2).f1)) := (blk_cell BK313.out 1).trans rfl
                                have hfz35_0 := blk_frozen BK313.out 0
                                have hfz35_1 := blk_frozen BK313.out 1
                                have p316 : 0 ≤ ((ji31) : Int) := of_decide_eq_true (by first | (with_reducible assumption) | assumption)
                                have q316 : (ji31) < (l2.length : Int) := of_decide_eq_true (by first | (with_reducible assumption) | assumption)
                                obtain ⟨ad316, e316, hx316_0, hx316_1⟩ := at_T34 HR2.out (ji31) p316 q316
                                obtain rfl : ad312 = ad316 := (by injection e316)
                                replace hx316_0 := (HB.out.cell (World.block_lt_of_cell? w _ hx316_0)).trans hx316_0
                                replace hx316_1 := (HB.out.cell (World.block_lt_of_cell? w _ hx316_1)).trans hx316_1
                                replace p316 := eq_true p316
                                replace q316 := eq_true q316
                                go_wp2
                                repeat (go_quiet (fail); try go_wp2)
                                go_ret
                                exact ⟨by first | rfl | (simp [errW_none, errW_some] <;> rfl) | (simp only [← hji31]; first | rfl | (simp [errW_none, errW_some] <;> rfl)) | (simp [*, errW_none, errW_some] <;> rfl), by repeat (first | (with_reducible first | exact HB.out | apply below_alloc | apply pw_below_drewN | apply below_drew1 | refine below_set ?_ GE313.out) | exact HB.out)⟩
                              · rw [if_neg c34] at H
                                have c34b0 : decide (((rd_T34 l2 x8_2).f0) ≤ ((rd_T34 l2 (ji31)).f0)) = false := decide_eq_false c34
                                clear c34
                                by_cases c36 : ((rd_T34 l2 x8_2).f1) ≤ ((rd_T34 l2 (ji31)).f1)
                                · rw [if_pos c36] at H
                                  have c36b0 : decide (((rd_T34 l2 x8_2).f1) ≤ ((rd_T34 l2 (ji31)).f1)) = true := decide_eq_true c36
                                  clear c36
                                  obtain rfl := Option.some.inj H
                                  have hcz37_0 : wc.cell? ⟨gb313, 0, none⟩ = some (.int .i64 ((rd_T34 l2 x8_2).f0)) := (blk_cell BK313.out 0).trans rfl
                                  have hcz37_1 : wc.cell? ⟨gb313, 1, none⟩ = some (.int .i64 ((rd_T34 l2 x8_2).f1)) := (blk_cell BK313.out 1).trans rfl
                                  have hfz37_0 := blk_frozen BK313.out 0
                                  have hfz37_1 := blk_frozen BK313.out 1
                                  have p316 : 0 ≤ ((ji31) : Int) := of_decide_eq_true (by first | (with_reducible assumption) | assumption)
                                  have q316 : (ji31) < (l2.length : Int) := of_decide_eq_true (by first | (with_reducible assumption) | assumption)
                                  obtain ⟨ad316, e316, hx316_0, hx316_1⟩ := at_T34 HR2.out (ji31) p316 q316
                                  obtain rfl : ad312 = ad316 := (by injection e316)
                                  replace hx316_0 := (HB.out.cell (World.block_lt_of_cell? w _ hx316_0)).trans hx316_0
                                  replace hx316_1 := (HB.out.cell (World.block_lt_of_cell? w _ hx316_1)).trans hx316_1
                                  replace p316 := eq_true p316
                                  replace q316 := eq_true q316
                                  have p317 : 0 ≤ ((ji31) : Int) := of_decide_eq_true (by first | (with_reducible assumption) | assumption)
                                  have q317 : (ji31) < (l2.length : Int) := of_decide_eq_true (by first | (with_reducible assumption) | assumption)
                                  obtain ⟨ad317, e317, hx317_0, hx317_1⟩ := at_T34 HR2.out (ji31) p317 q317
                                  obtain rfl : ad312 = ad317 := (by injection e317)
                                  replace hx317_0 := (HB.out.cell (World.block_lt_of_cell? w _ hx317_0)).trans hx317_0
                                  replace hx317_1 := (HB.out.cell (World.block_lt_of_cell? w _ hx317_1)).trans hx317_1
                                  replace p317 := eq_true p317
                                  replace q317 := eq_true q317
                                  go_wp2
                                  repeat (go_quiet (fail); try go_wp2)
                                  go_ret
                                  exact ⟨by first | rfl | (simp [errW_none, errW_some] <;> rfl) | (simp only [← hji31]; first | rfl | (simp [errW_none, errW_some] <;> rfl)) | (simp [*, errW_none, errW_some] <;> rfl), by repeat (first | (with_reducible first | exact HB.out | apply below_alloc | apply pw_below_drewN | apply below_drew1 | refine below_set ?_ GE313.out) | exact HB.out)⟩
                                · rw [if_neg c36] at H
                                  have c36b0 : decide (((rd_T34 l2 x8_2).f1) ≤ ((rd_T34 l2 (ji31)).f1)) = false := decide_eq_false c36
                                  clear c36
                                  have H' := Aside0.mk H
                                  clear H
                                  have hcz38_0 : wc.cell? ⟨gb313, 0, none⟩ = some (.int .i64 ((rd_T34 l2 x8_2).f0)) := (blk_cell BK313.out 0).trans rfl
                                  have hcz38_1 : wc.cell? ⟨gb313, 1, none⟩ = some (.int .i64 ((rd_T34 l2 x8_2).f1)) := (blk_cell BK313.out 1).trans rfl
                                  have hfz38_0 := blk_frozen BK313.out 0
                                  have hfz38_1 := blk_frozen BK313.out 1
                                  have p316 : 0 ≤ ((ji31) : Int) := of_decide_eq_true (by first | (with_reducible assumption) | assumption)
                                  have q316 : (ji31) < (l2.length : Int) := of_decide_eq_true (by first | (with_reducible assumption) | assumption)
                                  obtain ⟨ad316, e316, hx316_0, hx316_1⟩ := at_T34 HR2.out (ji31) p316 q316
                                  obtain rfl : ad312 = ad316 := (by injection e316)
                                  replace hx316_0 := (HB.out.cell (World.block_lt_of_cell? w _ hx316_0)).trans hx316_0
                                  replace hx316_1 := (HB.out.cell (World.block_lt_of_cell? w _ hx316_1)).trans hx316_1
                                  replace p316 := eq_true p316
                                  replace q316 := eq_true q316
                                  have p317 : 0 ≤ ((ji31) : Int) := of_decide_eq_true (by first | (with_reducible assumption) | assumption)
                                  have q317 : (ji31) < (l2.length : Int) := of_decide_eq_true (by first | (with_reducible assumption) | assumption)
                                  obtain ⟨ad317, e317, hx317_0, hx317_1⟩ := at_T34 HR2.out (ji31) p317 q317
                                  obtain rfl : ad312 = ad317 := (by injection e317)
                                  replace hx317_0 := (HB.out.cell (World.block_lt_of_cell? w _ hx317_0)).trans hx317_0
                                  replace hx317_1 := (HB.out.cell (World.block_lt_of_cell? w _ hx317_1)).trans hx317_1
                                  replace p317 := eq_true p317
                                  replace q317 := eq_true q317
                                  go_wp2
                                  repeat (go_quiet (fail); try go_wp2)
                                  go_roundg kj12
                                  case measure => have := HJ5.out; have := HK2.out; have := HJ12.out; omega
                                  case rel => exact ⟨(wrap64 (x8_2 + 1)), (by first | rfl | (simp; done) | (simp [*]; done)), H', ⟨by have := HJ5.out; have := HK2.out; have := HJ12.out; omega⟩, ⟨by repeat (first | (with_reducible first | exact HB.out | apply below_alloc | apply pw_below_drewN | apply below_drew1 | refine below_set ?_ GE313.out) | exact HB.out)⟩⟩
                            · rw [if_neg c33] at H
                              exact absurd H (by simp)
                          · rw [if_neg c32] at H
                            exact absurd H (by simp)
                        · rw [if_neg c30] at H
                          have c30b0 : decide (0 < x8_2) = false := decide_eq_false c30
                          clear c30
                          have H' := Aside0.mk H
                          clear H
                          go_wp2
                          repeat (go_quiet (fail); try go_wp2)
                          go_roundg kj12
                          case measure => have := HJ5.out; have := HK2.out; have := HJ12.out; omega
                          case rel => exact ⟨(wrap64 (x8_2 + 1)), (by first | rfl | (simp; done) | (simp [*]; done)), H', ⟨by have := HJ5.out; have := HK2.out; have := HJ12.out; omega⟩, ⟨by repeat (first | (with_reducible first | exact HB.out | apply below_alloc | apply pw_below_drewN | apply below_drew1 | refine below_set ?_ GE313.out) | exact HB.out)⟩⟩
                · rw [if_neg c12] at H
                  exact absurd H (by simp)
              · rw [if_neg c11] at H
                have c11b0 : decide (x8_2 < (l2.length : Int)) = false := decide_eq_false c11
                clear c11
                have c39 : true = true := rfl
                have H1 : ((lcs_Length.f l0 l1).bind fun t308 => (if (l2.length : Int) ≤ t308 then ((lcs_Pairs.f l0 l1).bind fun t309 => (some (decide ((l2.length : Int) ≤ (t309.length : Int))))) else (some false))) = some r := by first | (rw [if_pos rfl] at H; exact H) | (rw [if_pos trivial] at H; exact H) | simpa using H
                clear H
                have H := H1
                clear H1
                replace H := Option.bind_eq_some_iff.mp H
                obtain ⟨t308, A400, H⟩ := H
                replace H : (if (l2.length : Int) ≤ t308 then ((lcs_Pairs.f l0 l1).bind fun t309 => (some (decide ((l2.length : Int) ≤ (t309.length : Int))))) else (some false)) = some r := H
                have A40 := Aside0.mk A400
                clear A400
                by_cases c41 : (l2.length : Int) ≤ t308
                · rw [if_pos c41] at H
                  have c41b0 : decide ((l2.length : Int) ≤ t308) = true := decide_eq_true c41
                  clear c41
                  replace H := Option.bind_eq_some_iff.mp H
                  obtain ⟨t309, A420, H⟩ := H
                  replace H : (some (decide ((l2.length : Int) ≤ (t309.length : Int)))) = some r := H
                  have A42 := Aside0.mk A420
                  clear A420
                  obtain rfl := Option.some.inj H
                  go_wp2_with (first | (go_at_call 19; (with_reducible refine (lcs_Length.calls _ _ l0 _ _ l1 t308 _ ?side1 ?side2 ?side3 ?side4 A40.out).mono ?_); (case side1 => repeat (first | exact (Kd.C_below HR0.out HB.out) | (with_reducible refine Kd.C_alloc ?_ _) | (with_reducible refine Kd.C_drewN ?_ _) | (with_reducible refine Kd.C_drew ?_))); (case side2 => exact HC0.out); (case side3 => repeat (first | exact (Kd.C_below HR1.out HB.out) | (with_reducible refine Kd.C_alloc ?_ _) | (with_reducible refine Kd.C_drewN ?_ _) | (with_reducible refine Kd.C_drew ?_))); (case side4 => exact HC1.out); rintro e w43 ⟨rfl, hb⟩; have n0_ := Aside0.mk (below_step (by repeat (first | (with_reducible first | exact HB.out | apply below_alloc | apply pw_below_drewN | apply below_drew1) | exact HB.out)) hb); clear HB; have HB := n0_; clear n0_; (try clear hb); (try clear hb2); (try clear hk); (try clear hi)) | (go_at_call 23; (with_reducible refine (lcs_Pairs.calls _ _ l0 _ _ l1 t309 _ ?side1 ?side2 ?side3 ?side4 A42.out).mono ?_); (case side1 => repeat (first | exact (Kd.C_below HR0.out HB.out) | (with_reducible refine Kd.C_alloc ?_ _) | (with_reducible refine Kd.C_drewN ?_ _) | (with_reducible refine Kd.C_drew ?_))); (case side2 => exact HC0.out); (case side3 => repeat (first | exact (Kd.C_below HR1.out HB.out) | (with_reducible refine Kd.C_alloc ?_ _) | (with_reducible refine Kd.C_drewN ?_ _) | (with_reducible refine Kd.C_drew ?_))); (case side4 => exact HC1.out); rintro e w44 ⟨v310, rfl, ho0, hb⟩; have n0_ := Aside0.mk (Kd.R_lower ho0 (below_size (by repeat (first | (with_reducible first | exact HB.out | apply below_alloc | apply pw_below_drewN | apply below_drew1) | exact HB.out)))); have n1_ := Aside0.mk (below_step (by repeat (first | (with_reducible first | exact HB.out | apply below_alloc | apply pw_below_drewN | apply below_drew1) | exact HB.out)) hb); clear HB; have HO311 := n0_; have HB := n1_; clear n0_ n1_; (try clear hb); (try clear hb2); (try clear hk); (try clear hi); (try clear ho0); obtain ⟨Ao45, co45, eo45⟩ := Kd.R_slice HO311.out; subst eo45))
                  repeat (go_quiet (first | (go_at_call 19; (with_reducible refine (lcs_Length.calls _ _ l0 _ _ l1 t308 _ ?side1 ?side2 ?side3 ?side4 A40.out).mono ?_); (case side1 => repeat (first | exact (Kd.C_below HR0.out HB.out) | (with_reducible refine Kd.C_alloc ?_ _) | (with_reducible refine Kd.C_drewN ?_ _) | (with_reducible refine Kd.C_drew ?_))); (case side2 => exact HC0.out); (case side3 => repeat (first | exact (Kd.C_below HR1.out HB.out) | (with_reducible refine Kd.C_alloc ?_ _) | (with_reducible refine Kd.C_drewN ?_ _) | (with_reducible refine Kd.C_drew ?_))); (case side4 => exact HC1.out); rintro e w43 ⟨rfl, hb⟩; have n0_ := Aside0.mk (below_step (by repeat (first | (with_reducible first | exact HB.out | apply below_alloc | apply pw_below_drewN | apply below_drew1) | exact HB.out)) hb); clear HB; have HB := n0_; clear n0_; (try clear hb); (try clear hb2); (try clear hk); (try clear hi)) | (go_at_call 23; (with_reducible refine (lcs_Pairs.calls _ _ l0 _ _ l1 t309 _ ?side1 ?side2 ?side3 ?side4 A42.out).mono ?_); (case side1 => repeat (first | exact (Kd.C_below HR0.out HB.out) | (with_reducible refine Kd.C_alloc ?_ _) | (with_reducible refine Kd.C_drewN ?_ _) | (with_reducible refine Kd.C_drew ?_))); (case side2 => exact HC0.out); (case side3 => repeat (first | exact (Kd.C_below HR1.out HB.out) | (with_reducible refine Kd.C_alloc ?_ _) | (with_reducible refine Kd.C_drewN ?_ _) | (with_reducible refine Kd.C_drew ?_))); (case side4 => exact HC1.out); rintro e w44 ⟨v310, rfl, ho0, hb⟩; have n0_ := Aside0.mk (Kd.R_lower ho0 (below_size (by repeat (first | (with_reducible first | exact HB.out | apply below_alloc | apply pw_below_drewN | apply below_drew1) | exact HB.out)))); have n1_ := Aside0.mk (below_step (by repeat (first | (with_reducible first | exact HB.out | apply below_alloc | apply pw_below_drewN | apply below_drew1) | exact HB.out)) hb); clear HB; have HO311 := n0_; have HB := n1_; clear n0_ n1_; (try clear hb); (try clear hb2); (try clear hk); (try clear hi); (try clear ho0); obtain ⟨Ao45, co45, eo45⟩ := Kd.R_slice HO311.out; subst eo45)); try go_wp2_with (first | (go_at_call 19; (with_reducible refine (lcs_Length.calls _ _ l0 _ _ l1 t308 _ ?side1 ?side2 ?side3 ?side4 A40.out).mono ?_); (case side1 => repeat (first | exact (Kd.C_below HR0.out HB.out) | (with_reducible refine Kd.C_alloc ?_ _) | (with_reducible refine Kd.C_drewN ?_ _) | (with_reducible refine Kd.C_drew ?_))); (case side2 => exact HC0.out); (case side3 => repeat (first | exact (Kd.C_below HR1.out HB.out) | (with_reducible refine Kd.C_alloc ?_ _) | (with_reducible refine Kd.C_drewN ?_ _) | (with_reducible refine Kd.C_drew ?_))); (case side4 => exact HC1.out); rintro e w43 ⟨rfl, hb⟩; have n0_ := Aside0.mk (below_step (by repeat (first | (with_reducible first | exact HB.out | apply below_alloc | apply pw_below_drewN | apply below_drew1) | exact HB.out)) hb); clear HB; have HB := n0_; clear n0_; (try clear hb); (try clear hb2); (try clear hk); (try clear hi)) | (go_at_call 23; (with_reducible refine (lcs_Pairs.calls _ _ l0 _ _ l1 t309 _ ?side1 ?side2 ?side3 ?side4 A42.out).mono ?_); (case side1 => repeat (first | exact (Kd.C_below HR0.out HB.out) | (with_reducible refine Kd.C_alloc ?_ _) | (with_reducible refine Kd.C_drewN ?_ _) | (with_reducible refine Kd.C_drew ?_))); (case side2 => exact HC0.out); (case side3 => repeat (first | exact (Kd.C_below HR1.out HB.out) | (with_reducible refine Kd.C_alloc ?_ _) | (with_reducible refine Kd.C_drewN ?_ _) | (with_reducible refine Kd.C_drew ?_))); (case side4 => exact HC1.out); rintro e w44 ⟨v310, rfl, ho0, hb⟩; have n0_ := Aside0.mk (Kd.R_lower ho0 (below_size (by repeat (first | (with_reducible first | exact HB.out | apply below_alloc | apply pw_below_drewN | apply below_drew1) | exact HB.out)))); have n1_ := Aside0.mk (below_step (by repeat (first | (with_reducible first | exact HB.out | apply below_alloc | apply pw_below_drewN | apply below_drew1) | exact HB.out)) hb); clear HB; have HO311 := n0_; have HB := n1_; clear n0_ n1_; (try clear hb); (try clear hb2); (try clear hk); (try clear hi); (try clear ho0); obtain ⟨Ao45, co45, eo45⟩ := Kd.R_slice HO311.out; subst eo45)))
                  go_ret
                  exact ⟨by first | rfl | (simp [errW_none, errW_some] <;> rfl) | (simp [*, errW_none, errW_some] <;> rfl), by repeat (first | (with_reducible first | exact HB.out | apply below_alloc | apply pw_below_drewN | apply below_drew1) | exact HB.out)⟩
                · rw [if_neg c41] at H
                  have c41b0 : decide ((l2.length : Int) ≤ t308) = false := decide_eq_false c41
                  clear c41
                  obtain rfl := Option.some.inj H
                  go_wp2_with (first | (go_at_call 19; (with_reducible refine (lcs_Length.calls _ _ l0 _ _ l1 t308 _ ?side1 ?side2 ?side3 ?side4 A40.out).mono ?_); (case side1 => repeat (first | exact (Kd.C_below HR0.out HB.out) | (with_reducible refine Kd.C_alloc ?_ _) | (with_reducible refine Kd.C_drewN ?_ _) | (with_reducible refine Kd.C_drew ?_))); (case side2 => exact HC0.out); (case side3 => repeat (first | exact (Kd.C_below HR1.out HB.out) | (with_reducible refine Kd.C_alloc ?_ _) | (with_reducible refine Kd.C_drewN ?_ _) | (with_reducible refine Kd.C_drew ?_))); (case side4 => exact HC1.out); rintro e w46 ⟨rfl, hb⟩; have n0_ := Aside0.mk (below_step (by repeat (first | (with_reducible first | exact HB.out | apply below_alloc | apply pw_below_drewN | apply below_drew1) | exact HB.out)) hb); clear HB; have HB := n0_; clear n0_; (try clear hb); (try clear hb2); (try clear hk); (try clear hi)))
                  repeat (go_quiet (first | (go_at_call 19; (with_reducible refine (lcs_Length.calls _ _ l0 _ _ l1 t308 _ ?side1 ?side2 ?side3 ?side4 A40.out).mono ?_); (case side1 => repeat (first | exact (Kd.C_below HR0.out HB.out) | (with_reducible refine Kd.C_alloc ?_ _) | (with_reducible refine Kd.C_drewN ?_ _) | (with_reducible refine Kd.C_drew ?_))); (case side2 => exact HC0.out); (case side3 => repeat (first | exact (Kd.C_below HR1.out HB.out) | (with_reducible refine Kd.C_alloc ?_ _) | (with_reducible refine Kd.C_drewN ?_ _) | (with_reducible refine Kd.C_drew ?_))); (case side4 => exact HC1.out); rintro e w46 ⟨rfl, hb⟩; have n0_ := Aside0.mk (below_step (by repeat (first | (with_reducible first | exact HB.out | apply below_alloc | apply pw_below_drewN | apply below_drew1) | exact HB.out)) hb); clear HB; have HB := n0_; clear n0_; (try clear hb); (try clear hb2); (try clear hk); (try clear hi))); try go_wp2_with (first | (go_at_call 19; (with_reducible refine (lcs_Length.calls _ _ l0 _ _ l1 t308 _ ?side1 ?side2 ?side3 ?side4 A40.out).mono ?_); (case side1 => repeat (first | exact (Kd.C_below HR0.out HB.out) | (with_reducible refine Kd.C_alloc ?_ _) | (with_reducible refine Kd.C_drewN ?_ _) | (with_reducible refine Kd.C_drew ?_))); (case side2 => exact HC0.out); (case side3 => repeat (first | exact (Kd.C_below HR1.out HB.out) | (with_reducible refine Kd.C_alloc ?_ _) | (with_reducible refine Kd.C_drewN ?_ _) | (with_reducible refine Kd.C_drew ?_))); (case side4 => exact HC1.out); rintro e w46 ⟨rfl, hb⟩; have n0_ := Aside0.mk (below_step (by repeat (first | (with_reducible first | exact HB.out | apply below_alloc | apply pw_below_drewN | apply below_drew1) | exact HB.out)) hb); clear HB; have HB := n0_; clear n0_; (try clear hb); (try clear hb2); (try clear hk); (try clear hi))))
                  go_ret
                  exact ⟨by first | rfl | (simp [errW_none, errW_some] <;> rfl) | (simp [*, errW_none, errW_some] <;> rfl), by repeat (first | (with_reducible first | exact HB.out | apply below_alloc | apply pw_below_drewN | apply below_drew1) | exact HB.out)⟩
  · replace c5 := Bool.eq_false_iff.mpr c5
    subst c5
    have H1 : (some false) = some r := by rw [if_neg (show ¬ (false = true) by decide)] at H; exact H
    clear H
    have H := H1
    clear H1
    obtain rfl := Option.some.inj H
    go_enter Try.func9, Try.ntmps9
    go_wp2_with (first | (go_at_call 20; (with_reducible refine (tartanlaw08_works.calls k  false _ A4.out).mono ?_); rintro e w47 ⟨rfl, hb⟩; have n0_ := Aside0.mk (below_step (by repeat (first | (with_reducible first | exact HB.out | apply below_alloc | apply pw_below_drewN | apply below_drew1) | exact HB.out)) hb); clear HB; have HB := n0_; clear n0_; (try clear hb); (try clear hb2); (try clear hk); (try clear hi)))
    repeat (go_quiet (first | (go_at_call 20; (with_reducible refine (tartanlaw08_works.calls k  false _ A4.out).mono ?_); rintro e w47 ⟨rfl, hb⟩; have n0_ := Aside0.mk (below_step (by repeat (first | (with_reducible first | exact HB.out | apply below_alloc | apply pw_below_drewN | apply below_drew1) | exact HB.out)) hb); clear HB; have HB := n0_; clear n0_; (try clear hb); (try clear hb2); (try clear hk); (try clear hi))); try go_wp2_with (first | (go_at_call 20; (with_reducible refine (tartanlaw08_works.calls k  false _ A4.out).mono ?_); rintro e w47 ⟨rfl, hb⟩; have n0_ := Aside0.mk (below_step (by repeat (first | (with_reducible first | exact HB.out | apply below_alloc | apply pw_below_drewN | apply below_drew1) | exact HB.out)) hb); clear HB; have HB := n0_; clear n0_; (try clear hb); (try clear hb2); (try clear hk); (try clear hi))))
    go_ret
    exact ⟨by first | rfl | (simp [errW_none, errW_some] <;> rfl) | (simp [*, errW_none, errW_some] <;> rfl), by repeat (first | (with_reducible first | exact HB.out | apply below_alloc | apply pw_below_drewN | apply below_drew1) | exact HB.out)⟩

end Go.Proofs.Ytimchoebiadhmaa.X
