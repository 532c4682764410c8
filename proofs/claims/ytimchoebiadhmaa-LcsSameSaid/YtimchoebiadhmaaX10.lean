-- by pr.py, round the kit's print (a twelfth state) out of the translation. Not trusted: Lean checks it.
import Derived.Test.YtimchoebiadhmaaX0
import Derived.Test.YtimchoebiadhmaaX9
namespace Go.Proofs.Ytimchoebiadhmaa.X
open Go.RowKit Go.Proofs.YtimchoebiadhmaaW.PrintWords Go.Proofs.YtimchoebiadhmaaW.PrintLast Go.Proofs.YtimchoebiadhmaaW.PrintMore
attribute [local go_sem] max2_int min2_int max_two min_two max_three min_three max_four min_four   -- for this text's walks alone
set_option linter.unusedVariables false
set_option linter.unusedSimpArgs false

/-! ### tartanref08_rows: function 30 -/
def tartanref08_rows.l0 : Nat → List ByteArray → List ByteArray → List (List Int) → Int → Option ((List (List Int)))
  | 0, _, _, _, _ => none
  | k + 1, x0, x1, x5, x6 => if x6 ≥ 0 then (if 0 ≤ x6 then (if x6 < (x0.length : Int) then (if 0 ≤ (wrap64 (x6 + 1)) then (if (wrap64 (x6 + 1)) < (x5.length : Int) then ((tartanref08_row.f k (rdOf ByteArray.empty x0 x6) x1 (rd_L6 x5 (wrap64 (x6 + 1)))).bind fun t262 => (if x6 < (x5.length : Int) then (tartanref08_rows.l0 k x0 x1 (x5.set (x6 : Int).toNat t262) (wrap64 (x6 - 1))) else (none))) else (none)) else (none)) else (none)) else (none)) else (some x5)
def tartanref08_rows.f (k : Nat) (l0 : List ByteArray) (l1 : List ByteArray) : Option ((List (List Int))) := if 0 ≤ (wrap64 ((l0.length : Int) + 1)) then (if (wrap64 ((l0.length : Int) + 1) : Int).toNat ≤ 11728124029610 then ((some (List.replicate (wrap64 ((l0.length : Int) + 1) : Int).toNat [] : List (List Int))).bind fun y253 => (if 0 ≤ (wrap64 ((l1.length : Int) + 1)) then (if (wrap64 ((l1.length : Int) + 1) : Int).toNat ≤ 35184372088832 then (if 0 ≤ (l0.length : Int) then (if (l0.length : Int) < (y253.length : Int) then (tartanref08_rows.l0 k l0 l1 (y253.set ((l0.length : Int) : Int).toNat (List.replicate (wrap64 ((l1.length : Int) + 1) : Int).toNat 0)) (wrap64 ((l0.length : Int) - 1))) else (none)) else (none)) else (none)) else (none))) else (none)) else (none)
theorem tartanref08_rows.mono_l : ∀ k, (∀ y0 y1 y2 y3, LeO (tartanref08_rows.l0 k y0 y1 y2 y3) (tartanref08_rows.l0 (k + 1) y0 y1 y2 y3))
  | 0 => fun _ _ _ _ r h => by simp [tartanref08_rows.l0] at h
  | k + 1 => by
    have ih0 := tartanref08_rows.mono_l k
    · intro y0 y1 y2 y3
      unfold tartanref08_rows.l0
      repeat' first
      | (with_reducible exact ih0 _ _ _ _)
      | (with_reducible exact tartanref08_row.mono _ _ _ _)
      | (with_reducible exact LeO.refl _)
      | (with_reducible exact LeO.none _)
      | (with_reducible refine LeO.ite ?_ ?_)
      | (with_reducible refine LeO.bind ?_ (fun _ => ?_))
      | exact ih0 _ _ _ _
      | exact tartanref08_row.mono _ _ _ _
      | exact LeO.none _
      | refine LeO.ite ?_ ?_
      | refine LeO.bind ?_ (fun _ => ?_)
theorem tartanref08_rows.mono : ∀ a0 a1 k, LeO (tartanref08_rows.f k a0 a1) (tartanref08_rows.f (k + 1) a0 a1) := by
  intro a0 a1 k
  have ih0 := tartanref08_rows.mono_l k
  unfold tartanref08_rows.f
  repeat' first
      | (with_reducible exact ih0 _ _ _ _)
      | (with_reducible exact tartanref08_row.mono _ _ _ _)
      | (with_reducible exact LeO.refl _)
      | (with_reducible exact LeO.none _)
      | (with_reducible refine LeO.ite ?_ ?_)
      | (with_reducible refine LeO.bind ?_ (fun _ => ?_))
      | exact ih0 _ _ _ _
      | exact tartanref08_row.mono _ _ _ _
      | exact LeO.none _
      | refine LeO.ite ?_ ?_
      | refine LeO.bind ?_ (fun _ => ?_)
def tartanref08_rows.T6 : Bool × List (List Nat × List Nat) := (true, [([], []), ([], []), ([], []), ([], []), ([2, 3], [2, 3]), ([4], [4]), ([], []), ([], []), ([], []), ([8], [8]), ([7, 9], [7, 9]), ([10], [10]), ([5, 6, 11], [5, 6, 11]), ([0, 1, 0, 1, 2, 3, 4, 5, 6, 7, 8, 9, 10, 11, 12], [0, 1]), ([13, 12, 12, 0, 1, 2, 3, 4, 5, 6, 7, 8, 9, 10, 11, 12], [12, 13])])
def tartanref08_rows.B6 : List Nat := [0, 0, 0, 0, 12, 28, 0, 0, 0, 256, 896, 1920, 4092, 8191, 16383]
theorem tartanref08_rows.tab6 : rtab .any (opsOf Try.f30 6) = tartanref08_rows.T6 := by kernel_rfl
theorem tartanref08_rows.bits6 : waitsOk tartanref08_rows.T6.2 tartanref08_rows.B6 = true := by kernel_rfl
set_option maxHeartbeats 8000000 in
set_option maxRecDepth 100000 in
theorem tartanref08_rows.calls (k : Nat) (A0 : Option Addr) (c0 : Nat) (l0 : List ByteArray) (A1 : Option Addr) (c1 : Nat) (l1 : List ByteArray) (r : List (List Int)) (w : World) (hr0 : Kd.C Kd.string w A0 l0.length l0) (hc0 : l0.length ≤ c0) (hr1 : Kd.C Kd.string w A1 l1.length l1) (hc1 : l1.length ≤ c1) (h : tartanref08_rows.f k l0 l1 = some r) :
    Calls Try.prog 30 #[.slice A0 l0.length c0, .slice A1 l1.length c1] w fun e w' => ∃ v0_ : Value, e = .returned (v0_) ∧ Kd.N (Kd.slice 3 (Kd.int .i64)) 44 w' w.heap.size (fun k_ => (w.heap.size ≤ k_)) v0_ r ∧ Below w.heap.size w w' := by
  have HR0 := Aside0.mk hr0
  have HC0 := Aside0.mk hc0
  clear hr0 hc0
  have HR1 := Aside0.mk hr1
  have HC1 := Aside0.mk hc1
  clear hr1 hc1
  have HB := Aside0.mk (Below.refl w.heap.size w)
  have H : (if 0 ≤ (wrap64 ((l0.length : Int) + 1)) then (if (wrap64 ((l0.length : Int) + 1) : Int).toNat ≤ 11728124029610 then ((some (List.replicate (wrap64 ((l0.length : Int) + 1) : Int).toNat [] : List (List Int))).bind fun y253 => (if 0 ≤ (wrap64 ((l1.length : Int) + 1)) then (if (wrap64 ((l1.length : Int) + 1) : Int).toNat ≤ 35184372088832 then (if 0 ≤ (l0.length : Int) then (if (l0.length : Int) < (y253.length : Int) then (tartanref08_rows.l0 k l0 l1 (y253.set ((l0.length : Int) : Int).toNat (List.replicate (wrap64 ((l1.length : Int) + 1) : Int).toNat 0)) (wrap64 ((l0.length : Int) - 1))) else (none)) else (none)) else (none)) else (none))) else (none)) else (none)) = some r := h
  clear h
  obtain ⟨ji3, hji3⟩ : ∃ j_ : Int, (wrap64 ((l0.length : Int) + 1)) = j_ := ⟨_, rfl⟩
  replace H : (if 0 ≤ (ji3) then (if (ji3 : Int).toNat ≤ 11728124029610 then ((some (List.replicate (ji3 : Int).toNat [] : List (List Int))).bind fun y253 => (if 0 ≤ (wrap64 ((l1.length : Int) + 1)) then (if (wrap64 ((l1.length : Int) + 1) : Int).toNat ≤ 35184372088832 then (if 0 ≤ (l0.length : Int) then (if (l0.length : Int) < (y253.length : Int) then (tartanref08_rows.l0 k l0 l1 (y253.set ((l0.length : Int) : Int).toNat (List.replicate (wrap64 ((l1.length : Int) + 1) : Int).toNat 0)) (wrap64 ((l0.length : Int) - 1))) else (none)) else (none)) else (none)) else (none))) else (none)) else (none)) = some r := by first | (rw [hji3] at H; exact H) | (simp only [hji3] at H ⊢; exact H)
  have hji3w : (IntKind.i64.wrap ((l0.length : Int) + 1)) = ji3 := (i64_w _).trans hji3
  by_cases c4 : 0 ≤ (ji3)
  · rw [if_pos c4] at H
    have c4b0 := eq_true c4
    have c4b1 : decide (0 ≤ (ji3)) = true := decide_eq_true c4
    clear c4
    by_cases c5 : (ji3 : Int).toNat ≤ 11728124029610
    · rw [if_pos c5] at H
      have c5b0 := eq_true c5
      have c5b1 : decide ((ji3 : Int).toNat ≤ 11728124029610) = true := decide_eq_true c5
      clear c5
      obtain ⟨y253, hy253⟩ : ∃ y_ : List (List Int), y_ = (List.replicate (ji3 : Int).toNat []) := ⟨_, rfl⟩
      replace H : (if 0 ≤ (wrap64 ((l1.length : Int) + 1)) then (if (wrap64 ((l1.length : Int) + 1) : Int).toNat ≤ 35184372088832 then (if 0 ≤ (l0.length : Int) then (if (l0.length : Int) < (y253.length : Int) then (tartanref08_rows.l0 k l0 l1 (y253.set ((l0.length : Int) : Int).toNat (List.replicate (wrap64 ((l1.length : Int) + 1) : Int).toNat 0)) (wrap64 ((l0.length : Int) - 1))) else (none)) else (none)) else (none)) else (none)) = some r := by first | (rw [hy253]; with_reducible exact H) | (have H2_ := (Option.bind_some _ _).symm.trans H; rw [hy253]; with_reducible exact H2_) | (have H2_ := (Option.bind_some _ _).symm.trans H; with_reducible exact H2_) | with_reducible exact H | (rw [hy253]; exact H) | exact H
      have Ny253 := Aside0.mk hy253
      clear hy253
      obtain ⟨ji6, hji6⟩ : ∃ j_ : Int, (wrap64 ((l1.length : Int) + 1)) = j_ := ⟨_, rfl⟩
      replace H : (if 0 ≤ (ji6) then (if (ji6 : Int).toNat ≤ 35184372088832 then (if 0 ≤ (l0.length : Int) then (if (l0.length : Int) < (y253.length : Int) then (tartanref08_rows.l0 k l0 l1 (y253.set ((l0.length : Int) : Int).toNat (List.replicate (ji6 : Int).toNat 0)) (wrap64 ((l0.length : Int) - 1))) else (none)) else (none)) else (none)) else (none)) = some r := by first | (rw [hji6] at H; exact H) | (simp only [hji6] at H ⊢; exact H)
      have hji6w : (IntKind.i64.wrap ((l1.length : Int) + 1)) = ji6 := (i64_w _).trans hji6
      by_cases c7 : 0 ≤ (ji6)
      · rw [if_pos c7] at H
        have c7b0 := eq_true c7
        have c7b1 : decide (0 ≤ (ji6)) = true := decide_eq_true c7
        clear c7
        by_cases c8 : (ji6 : Int).toNat ≤ 35184372088832
        · rw [if_pos c8] at H
          have c8b0 := eq_true c8
          have c8b1 : decide ((ji6 : Int).toNat ≤ 35184372088832) = true := decide_eq_true c8
          clear c8
          obtain ⟨y256, hy256⟩ : ∃ y_ : List Int, y_ = (List.replicate (ji6 : Int).toNat 0) := ⟨_, rfl⟩
          replace H : (if 0 ≤ (l0.length : Int) then (if (l0.length : Int) < (y253.length : Int) then (tartanref08_rows.l0 k l0 l1 (y253.set ((l0.length : Int) : Int).toNat y256) (wrap64 ((l0.length : Int) - 1))) else (none)) else (none)) = some r := by first | (rw [hy256]; with_reducible exact H) | (have H2_ := (Option.bind_some _ _).symm.trans H; rw [hy256]; with_reducible exact H2_) | (have H2_ := (Option.bind_some _ _).symm.trans H; with_reducible exact H2_) | with_reducible exact H | (rw [hy256]; exact H) | exact H
          have Ny256 := Aside0.mk hy256
          clear hy256
          by_cases c9 : 0 ≤ (l0.length : Int)
          · rw [if_pos c9] at H
            have c9b0 : decide (0 ≤ (l0.length : Int)) = true := decide_eq_true c9
            have c9b1 : decide (0 ≤ l0.length) = true := decide_eq_true (by omega)
            clear c9
            by_cases c10 : (l0.length : Int) < (y253.length : Int)
            · rw [if_pos c10] at H
              have c10b0 : decide ((l0.length : Int) < (y253.length : Int)) = true := decide_eq_true c10
              have c10b1 : decide (l0.length < y253.length) = true := decide_eq_true (Int.ofNat_lt.mp c10)
              clear c10
              obtain ⟨y259, hy259⟩ : ∃ y_ : List (List Int), y_ = (y253.set ((l0.length : Int) : Int).toNat y256) := ⟨_, rfl⟩
              replace H : (tartanref08_rows.l0 k l0 l1 y259 (wrap64 ((l0.length : Int) - 1))) = some r := by first | (rw [hy259]; with_reducible exact H) | (have H2_ := (Option.bind_some _ _).symm.trans H; rw [hy259]; with_reducible exact H2_) | (have H2_ := (Option.bind_some _ _).symm.trans H; with_reducible exact H2_) | with_reducible exact H | (rw [hy259]; exact H) | exact H
              have Ny259 := Aside0.mk hy259
              clear hy259
              have H' := Aside0.mk H
              clear H
              go_enter Try.func30, Try.ntmps30
              go_wp2_with (first | ((with_reducible refine gate_dst (N := 10) rfl ?_); refine Kd.N_make (Kd.slice 3 (Kd.int .i64)) _ 44 rfl (N' := 10) rfl 52 _ _ rfl ji3 rfl rfl Try.underlying52 (.slice none 0 0) 24 info44 rfl (by decide) (by omega) [] (ok := fun k_ => w.heap.size ≤ k_) (okp := fun _ => False) (Kd.FK_slice_mk (Nat.le_refl _) (Kd.F_nil _ _ _)) (fun _ hk => hk.elim) (Nat.le_refl _) (of_decide_eq_true (by first | (with_reducible assumption) | assumption)) (Nat.le_trans (Nat.mul_le_mul_right _ (of_decide_eq_true (by first | (with_reducible assumption) | assumption) : ji3.toNat ≤ 11728124029610)) (by omega)) (Below.refl _ _) (Nat.le_refl _) ?_; intro v254 w12 ho13 hb hg_ hnew_; clear hg_ hnew_; (first | rw [← Ny253.out] at ho13 | (simp only [Int.reduceToNat] at ho13; rw [← Ny253.out] at ho13)); have n0_ := Aside0.mk (Kd.N_lower (Kd.N_mono (ok' := fun k_ => (w.heap.size ≤ k_)) ho13 (fun k_ hk_ => (Nat.le_trans (below_size (by repeat (first | (with_reducible first | exact HB.out | apply below_alloc | apply pw_below_drewN | apply below_drew1) | exact HB.out))) hk_))) (below_size (by repeat (first | (with_reducible first | exact HB.out | apply below_alloc | apply pw_below_drewN | apply below_drew1) | exact HB.out)))); have n1_ := Aside0.mk (below_step (by repeat (first | (with_reducible first | exact HB.out | apply below_alloc | apply pw_below_drewN | apply below_drew1) | exact HB.out)) hb); clear HB; have HO255 := n0_; have HB := n1_; clear n0_ n1_; clear hb ho13) | ((with_reducible refine gate_dst (N := 17) rfl ?_); refine Kd.R_make (Kd.int .i64) _ 3 rfl (N := 17) rfl 44 _ _ rfl ji6 rfl rfl Try.underlying44 (.int .i64 0) 8 info3 rfl (by decide) (by omega) 0 (ok := fun _ => True) (okp := fun _ => True) rfl (fun _ hk => hk) trivial (of_decide_eq_true (by first | (with_reducible assumption) | assumption)) (Nat.le_trans (Nat.mul_le_mul_right _ (of_decide_eq_true (by first | (with_reducible assumption) | assumption) : ji6.toNat ≤ 35184372088832)) (by omega)) (Below.refl _ _) (Nat.le_refl _) ?_; intro v257 w14 ho15 hb hg_ hnew_; clear hg_ hnew_; (first | rw [← Ny256.out] at ho15 | (simp only [Int.reduceToNat] at ho15; rw [← Ny256.out] at ho15)); have n0_ := Aside0.mk (Kd.N_elder' (by (with_reducible repeat (first | apply Kd.N_alloc | apply Kd.N_drewN | apply Kd.N_drew)); exact HO255.out) (Kd.R_base ho15) hb); have n1_ := Aside0.mk (Kd.R_lower (Kd.R_newM (M := fun k_ => (w.heap.size ≤ k_)) ho15 (below_size (by repeat (first | (with_reducible first | exact HB.out | apply below_alloc | apply pw_below_drewN | apply below_drew1) | exact HB.out))) (fun k_ h_ => h_)) (below_size (by repeat (first | (with_reducible first | exact HB.out | apply below_alloc | apply pw_below_drewN | apply below_drew1) | exact HB.out)))); have n2_ := Aside0.mk (below_step (by repeat (first | (with_reducible first | exact HB.out | apply below_alloc | apply pw_below_drewN | apply below_drew1) | exact HB.out)) hb); clear HO255; clear HB; have HO255 := n0_; have HO258 := n1_; have HB := n2_; clear n0_ n1_ n2_; clear hb ho15; have p11 : 0 ≤ ((l0.length : Int) : Int) := of_decide_eq_true (by first | (with_reducible assumption) | assumption); have q11 : ((l0.length : Int) : Int) < ((y253.length : Int) : Int) := of_decide_eq_true (by first | (with_reducible assumption) | assumption); obtain ⟨go11, co11, eo11, gb11, gl11, cl11, HG11⟩ := Kd.N_form HO255.out (by omega); (first | cases eo11 | (injection eo11 with ea_ en_ ec_; (first | subst ea_ | (injection ea_ with ea_; subst ea_)); subst ec_; clear en_)); have GB11 := Aside0.mk gb11; have GG11 := Aside0.mk HG11; clear gb11 gl11 HG11; obtain ⟨ce11, hcl11, hM11, hcc11, hfr11⟩ := Kd.N_elem HO255.out [] ((l0.length : Int) : Int) p11 q11; obtain ⟨ua11_0, uc11_0, rfl, ul11_0, ge11_0⟩ := Kd.FK_slice_open hM11; have hx11_0 := hcc11 0 _ rfl; (try simp only [Int.toNat_natCast] at hx11_0); have hf11_0 := hfr11 0; (try simp only [Int.toNat_natCast] at hf11_0); (try simp only [show ((Kd.slice 3 (Kd.int .i64))).sz = 1 from rfl, Nat.mul_one, Nat.add_zero] at hx11_0); (try simp only [show ((Kd.slice 3 (Kd.int .i64))).sz = 1 from rfl, Nat.mul_one, Nat.add_zero] at hf11_0); clear hcl11 hcc11 hfr11 hM11; replace p11 := eq_true p11; replace q11 := eq_true q11; have HX16 := Aside0.mk (show Kd.N (Kd.slice 3 (Kd.int .i64)) 44 w14 w.heap.size (fun k_ => (w.heap.size ≤ k_)) (.slice (some ⟨go11, 0, none⟩) y253.length co11) y253 from (by (with_reducible repeat (first | apply Kd.N_alloc | apply Kd.N_drewN | apply Kd.N_drew)); exact Kd.N_mono HO255.out (fun _ hk => hk.1))); obtain ⟨ce16, hcl16, hM16, hcc16, hfr16⟩ := Kd.N_elem HX16.out [] ((l0.length : Int) : Int) (of_decide_eq_true (by first | (with_reducible assumption) | assumption)) (by have h_ : ((l0.length : Int) : Int) < ((y253.length : Int) : Int) := of_decide_eq_true (by first | (with_reducible assumption) | assumption); first | exact h_ | (have e_ := (Kd.N_reads' HO255.out).1; omega) | simpa using h_); obtain ⟨ua16_0, uc16_0, rfl, ul16_0, ge16_0⟩ := Kd.FK_slice_open hM16; obtain ⟨sav257, scv257, se_⟩ := Kd.R_slice HO258.out; subst se_; have HP16 := Kd.N_seg HX16.out ((l0.length : Int) : Int) (of_decide_eq_true (by first | (with_reducible assumption) | assumption)) (by have h_ : ((l0.length : Int) : Int) < ((y253.length : Int) : Int) := of_decide_eq_true (by first | (with_reducible assumption) | assumption); first | exact h_ | (have e_ := (Kd.N_reads' HO255.out).1; omega) | simpa using h_) (seg := [_]) (j := 0) hcl16 hcc16 (show 1 ≤ 1 from by decide) (x' := y256) (Kd.FK_slice_mk (Kd.R_reads' (Kd.R_mono (ok' := (fun k_ => ((fun k_ => (w.heap.size ≤ k_))) k_ ∧ k_ ≠ go11)) (Kd.R_apart' (HO258.out) (Kd.N_typed HO255.out) (by decide)) (fun k_ hk => ⟨hk.1.1, fun e_ => (hk.2) (by rw [e_]; rfl)⟩))).2.1 (Kd.R_F (Kd.R_mono (ok' := (fun k_ => ((fun k_ => (w.heap.size ≤ k_))) k_ ∧ k_ ≠ go11)) (Kd.R_apart' (HO258.out) (Kd.N_typed HO255.out) (by decide)) (fun k_ hk => ⟨hk.1.1, fun e_ => (hk.2) (by rw [e_]; rfl)⟩)))) (fun _ hk => hk); have hx16_0 := hcc16 0 _ rfl; (try simp only [Int.toNat_natCast] at hx16_0); (try simp only [show ((Kd.slice 3 (Kd.int .i64))).sz = 1 from rfl, Nat.mul_one, Nat.add_zero] at hx16_0); have hf16_0 := hfr16 0; (try simp only [Int.toNat_natCast] at hf16_0); (try simp only [show ((Kd.slice 3 (Kd.int .i64))).sz = 1 from rfl, Nat.mul_one, Nat.add_zero] at hf16_0); clear hcl16 hcc16 hfr16 hM16; (try simp only [show ((Kd.slice 3 (Kd.int .i64))).sz = 1 from rfl, Nat.mul_one, Nat.add_zero] at HP16); (try simp only [show ((Kd.slice 3 (Kd.int .i64))).sz = 1 from rfl, Nat.mul_one, Nat.add_zero] at HP16)) | ((with_reducible refine gate_store (t := 44) (p := 18) rfl ?_); refine store_event (t := 44) (p := 18) (v := ?vo_w17) (w1 := (w14.setCell ⟨go11, ((l0.length : Int) : Int).toNat, none⟩ ((.slice sav257 y256.length scv257)))) ?hg ?ho ?hn ?hr ?_; (case ho => rfl); (case hg => rfl); (case hn => rfl); (case hr => first | (go_simp; done) | (go_simp; rfl)); intro w17 hw; have hg : w14.grownBy w17 (some go11) := (by rw [hw]; exact HP16.2); have hp_ : Kd.N (Kd.slice 3 (Kd.int .i64)) 44 w17 w.heap.size (fun k_ => (w.heap.size ≤ k_)) (.slice (some ⟨go11, 0, none⟩) y253.length co11) y259 := (by rw [hw, Ny259.out]; exact HP16.1); clear HP16; have n0_ := Aside0.mk (hp_); have n1_ := Aside0.mk ((by rw [hw]; exact below_set (HB.out) GB11.out : Below w.heap.size w w17)); clear HO255; clear HB; clear HO258; have HO255 := n0_; have HB := n1_; clear n0_ n1_; clear hg hw hp_))
              go_loopg [6] k (fun kq v6 w' => ∃ (x5_1 : List (List Int)) (x6_1 : Int), v6 = .int .i64 x6_1 ∧ Aside0 (tartanref08_rows.l0 kq l0 l1 x5_1 x6_1 = some r) ∧ Aside0 (kq ≤ k) ∧ Aside0 (Kd.N (Kd.slice 3 (Kd.int .i64)) 44 w' w.heap.size (fun k_ => (w.heap.size ≤ k_)) (.slice (some ⟨go11, 0, none⟩) y253.length co11) x5_1) ∧ Aside0 (Below w.heap.size w w'))
              case atStart => exact ⟨(y259), (wrap64 ((l0.length : Int) - 1)), (by first | rfl | (simp; done) | (simp [*]; done)), H', ⟨Nat.le_refl _⟩, ⟨by (with_reducible repeat (first | apply Kd.N_alloc | apply Kd.N_drewN | apply Kd.N_drew)); exact HO255.out⟩, ⟨by repeat (first | (with_reducible first | exact HB.out | apply below_alloc | apply pw_below_drewN | apply below_drew1) | exact HB.out)⟩⟩
              case round =>
                clear H'
                try clear c1
                try clear p1
                try clear q1
                try clear hx1
                try clear p2
                try clear c3
                try clear c4
                try clear c4b0
                try clear c4b1
                try clear c5
                try clear c5b0
                try clear c5b1
                try clear p6
                try clear c7
                try clear c7b0
                try clear c7b1
                try clear c8
                try clear c8b0
                try clear c8b1
                try clear c9
                try clear c9b0
                try clear c9b1
                try clear c10
                try clear c10b0
                try clear c10b1
                try clear c11
                try clear p11
                try clear q11
                try clear hx11
                try clear hf11
                try clear c16
                try clear hx16
                try clear hf16
                try clear hx11_0
                try clear hx16_0
                try clear p11
                try clear q11
                obtain ⟨x5_1, x6_1, rfl, HA, HK1, HO_5, HB⟩ := hrel
                have hl5_1 := (Kd.N_reads' HO_5.out).1
                rw [hl5_1] at HO_5
                (try simp only [hl5_1])
                cases gk with
                | zero => exact absurd HA.out (by simp [tartanref08_rows.l0])
                | succ k1 =>
                  have H := HA.out
                  clear HA
                  simp only [tartanref08_rows.l0] at H
                  by_cases c18 : x6_1 ≥ 0
                  · rw [if_pos c18] at H
                    have c18b0 : decide (0 ≤ x6_1) = true := decide_eq_true c18
                    clear c18
                    by_cases c19 : 0 ≤ x6_1
                    · rw [if_pos c19] at H
                      have c19b0 : decide (0 ≤ x6_1) = true := decide_eq_true c19
                      clear c19
                      by_cases c20 : x6_1 < (l0.length : Int)
                      · rw [if_pos c20] at H
                        have c20b0 : decide (x6_1 < (l0.length : Int)) = true := decide_eq_true c20
                        clear c20
                        obtain ⟨ji21, hji21⟩ : ∃ j_ : Int, (wrap64 (x6_1 + 1)) = j_ := ⟨_, rfl⟩
                        replace H : (if 0 ≤ (ji21) then (if (ji21) < (x5_1.length : Int) then ((tartanref08_row.f k1 (rdOf ByteArray.empty l0 x6_1) l1 (rd_L6 x5_1 (ji21))).bind fun t262 => (if x6_1 < (x5_1.length : Int) then (tartanref08_rows.l0 k1 l0 l1 (x5_1.set (x6_1 : Int).toNat t262) (wrap64 (x6_1 - 1))) else (none))) else (none)) else (none)) = some r := by first | (rw [hji21] at H; exact H) | (simp only [hji21] at H ⊢; exact H)
                        have hji21w : (IntKind.i64.wrap (x6_1 + 1)) = ji21 := (i64_w _).trans hji21
                        by_cases c22 : 0 ≤ (ji21)
                        · rw [if_pos c22] at H
                          have c22b0 : decide (0 ≤ (ji21)) = true := decide_eq_true c22
                          clear c22
                          by_cases c23 : (ji21) < (x5_1.length : Int)
                          · rw [if_pos c23] at H
                            have c23b0 : decide ((ji21) < (x5_1.length : Int)) = true := decide_eq_true c23
                            clear c23
                            replace H := Option.bind_eq_some_iff.mp H
                            obtain ⟨t262, A240, H⟩ := H
                            replace H : (if x6_1 < (x5_1.length : Int) then (tartanref08_rows.l0 k1 l0 l1 (x5_1.set (x6_1 : Int).toNat t262) (wrap64 (x6_1 - 1))) else (none)) = some r := H
                            have A24 := Aside0.mk A240
                            clear A240
                            by_cases c25 : x6_1 < (x5_1.length : Int)
                            · rw [if_pos c25] at H
                              have c25b0 : decide (x6_1 < (x5_1.length : Int)) = true := decide_eq_true c25
                              clear c25
                              obtain ⟨y265, hy265⟩ : ∃ y_ : List (List Int), y_ = (x5_1.set (x6_1 : Int).toNat t262) := ⟨_, rfl⟩
                              replace H : (tartanref08_rows.l0 k1 l0 l1 y265 (wrap64 (x6_1 - 1))) = some r := by first | (rw [hy265]; with_reducible exact H) | (have H2_ := (Option.bind_some _ _).symm.trans H; rw [hy265]; with_reducible exact H2_) | (have H2_ := (Option.bind_some _ _).symm.trans H; with_reducible exact H2_) | with_reducible exact H | (rw [hy265]; exact H) | exact H
                              have Ny265 := Aside0.mk hy265
                              clear hy265
                              have H' := Aside0.mk H
                              clear H
                              try go_wp2
                              have n0_ := Aside0.mk (Kd.N_drew HO_5.out)
                              have n1_ := Aside0.mk (below_drew1 HB.out)
                              clear HO_5
                              clear HB
                              have HO_5 := n0_
                              have HB := n1_
                              clear n0_ n1_
                              have p260 : 0 ≤ (x6_1 : Int) := of_decide_eq_true (by first | (with_reducible assumption) | assumption)
                              have q260 : x6_1 < (l0.length : Int) := of_decide_eq_true (by first | (with_reducible assumption) | assumption)
                              obtain ⟨ad260, e260, hx260_0⟩ := Kd.at_string HR0.out x6_1 p260 q260
                              have hw260_0 := hx260_0
                              cases e260
                              replace hx260_0 := (HB.out.cell (World.block_lt_of_cell? w _ hx260_0)).trans hx260_0
                              replace p260 := eq_true p260
                              replace q260 := eq_true q260
                              have p261 : 0 ≤ ((ji21) : Int) := of_decide_eq_true (by first | (with_reducible assumption) | assumption)
                              have q261 : (ji21) < (x5_1.length : Int) := of_decide_eq_true (by first | (with_reducible assumption) | assumption)
                              obtain ⟨ad261, A261_0, c261_0, e261, hx261_0, hl261_0, hi261_0⟩ := at_L6 (Kd.N_reads' HO_5.out).2.2 (ji21) p261 q261
                              obtain rfl : (⟨go11, 0, none⟩ : Addr) = ad261 := (by injection e261)
                              obtain ⟨ce261, hce261, hMe261, hcc261⟩ := Kd.N_get HO_5.out [] (ji21) p261 (by first | exact q261 | exact of_decide_eq_true (by first | (with_reducible assumption) | assumption) | (have e_ := (Kd.N_reads' HO_5.out).1; omega))
                              obtain ⟨ua261_0, uc261_0, rfl, ul261_0, ge261_0⟩ := Kd.FK_slice_open hMe261
                              have hv261_0 := hcc261 0 _ rfl
                              rw [Nat.add_zero, show ((Kd.slice 3 (Kd.int .i64))).sz = 1 from rfl, Nat.mul_one] at hv261_0
                              replace hv261_0 := Option.some.inj (hv261_0.symm.trans hx261_0)
                              injection hv261_0 with hva_ hvn_ hvc_
                              rw [hva_] at ge261_0
                              rw [hvc_] at ul261_0
                              have HL261_0 := Aside0.mk (show Kd.V (Kd.int .i64) 3 _ w.heap.size _ _ (rd_L6 x5_1 (ji21)) from Kd.V_mk ul261_0 ge261_0)
                              clear hva_ hvn_ hvc_ ge261_0 ul261_0
                              clear hcc261 hce261
                              (first | simp only [add_plain] at hx261_0 | simp only [add_at] at hx261_0 | simp only [Addr.add, Nat.zero_add] at hx261_0 | skip)
                              have HR261_0 := Aside0.mk hi261_0
                              have HC261_0 := Aside0.mk hl261_0
                              clear hi261_0 hl261_0
                              replace p261 := eq_true p261
                              replace q261 := eq_true q261
                              refine start_ (n := 15) (S := fun w' => w'.cell? (ad260.add (x6_1).toNat) = some (.string (rdOf ByteArray.empty l0 x6_1)) ∧ w'.cell? ⟨go11, ((ji21)).toNat, none⟩ = some (.slice A261_0 (rd_L6 x5_1 (ji21)).length c261_0)) (ds := [14]) #[false, false, false, false, false, false, false, false, false, false, false, false, false, false, false] (by kernel_rfl) rfl rfl ⟨((HB.out.cell (World.block_lt_of_cell? w _ hw260_0)).trans hw260_0), hx261_0⟩ (fun hHeld => ?_); refine with_tabW tartanref08_rows.tab6 tartanref08_rows.bits6 (fun HT_ HW_ => ?_)
                              generalize wr.drew = w27 at HO_5 HB HL261_0 HR261_0 hx260_0 hx261_0 hHeld ⊢
                              refine pure_ (i := 0) (N := some 26) (v := ?_) (a' := ?_) #[true, false, false, false, false, false, false, false, false, false, false, false, false, false, false] rfl rfl (any_of HT_.out (by kernel_rfl)) (fun _ _ _ h => h) (Or.inl ⟨by rfl, ?_⟩) ?_ ?_
                              rotate_left
                              · intro w'
                                go_simp
                                with_reducible rfl
                              rotate_left
                              · simp only [Act.put, List.setIfInBounds_toArray, List.set_cons_zero, List.set_cons_succ, i64_w, i32_w]
                                rfl
                              refine pure_ (i := 1) (N := some 27) (v := ?_) (a' := ?_) #[true, true, false, false, false, false, false, false, false, false, false, false, false, false, false] rfl rfl (any_of HT_.out (by kernel_rfl)) (fun _ _ _ h => h) (Or.inl ⟨by rfl, ?_⟩) ?_ ?_
                              rotate_left
                              · intro w'
                                go_simp
                                with_reducible rfl
                              rotate_left
                              · simp only [Act.put, List.setIfInBounds_toArray, List.set_cons_zero, List.set_cons_succ, i64_w, i32_w]
                                rfl
                              refine pure_ (i := 2) (N := some 28) (v := ?_) (a' := ?_) #[true, true, true, false, false, false, false, false, false, false, false, false, false, false, false] rfl rfl (any_of HT_.out (by kernel_rfl)) (fun _ _ _ h => h) (Or.inl ⟨by rfl, ?_⟩) ?_ ?_
                              rotate_left
                              · intro w'
                                go_simp
                                with_reducible rfl
                              rotate_left
                              · simp only [Act.put, List.setIfInBounds_toArray, List.set_cons_zero, List.set_cons_succ, i64_w, i32_w]
                                rfl
                              refine pure_ (i := 3) (N := some 29) (v := ?_) (a' := ?_) #[true, true, true, true, false, false, false, false, false, false, false, false, false, false, false] rfl rfl (any_of HT_.out (by kernel_rfl)) (fun _ _ _ h => h) (Or.inl ⟨by rfl, ?_⟩) ?_ ?_
                              rotate_left
                              · intro w'
                                go_simp
                                with_reducible rfl
                              rotate_left
                              · simp only [Act.put, List.setIfInBounds_toArray, List.set_cons_zero, List.set_cons_succ, i64_w, i32_w]
                                rfl
                              refine pure_ (i := 4) (N := some 30) (v := ?_) (a' := ?_) #[true, true, true, true, true, false, false, false, false, false, false, false, false, false, false] rfl rfl (any_of HT_.out (by kernel_rfl)) (fun _ _ _ h => h) (Or.inl ⟨by rfl, ?_⟩) ?_ ?_
                              rotate_left
                              · intro w'
                                go_simp
                                with_reducible rfl
                              rotate_left
                              · simp only [Act.put, List.setIfInBounds_toArray, List.set_cons_zero, List.set_cons_succ, i64_w, i32_w]
                                rfl
                              refine pure_ (i := 6) (N := some 32) (v := ?_) (a' := ?_) #[true, true, true, true, true, false, true, false, false, false, false, false, false, false, false] rfl rfl (any_of HT_.out (by kernel_rfl)) (fun _ _ _ h => h) (Or.inl ⟨by rfl, ?_⟩) ?_ ?_
                              rotate_left
                              · intro w'
                                go_simp
                                with_reducible rfl
                              rotate_left
                              · simp only [Act.put, List.setIfInBounds_toArray, List.set_cons_zero, List.set_cons_succ, i64_w, i32_w]
                                rfl
                              refine pure_ (i := 7) (N := some 33) (v := ?_) (a' := ?_) #[true, true, true, true, true, false, true, true, false, false, false, false, false, false, false] rfl rfl (any_of HT_.out (by kernel_rfl)) (fun _ _ _ h => h) (Or.inl ⟨by rfl, ?_⟩) ?_ ?_
                              rotate_left
                              · intro w'
                                go_simp
                                with_reducible rfl
                              rotate_left
                              · simp only [Act.put, List.setIfInBounds_toArray, List.set_cons_zero, List.set_cons_succ, i64_w, i32_w]
                                rfl
                              refine pure_ (i := 8) (N := some 34) (v := ?_) (a' := ?_) #[true, true, true, true, true, false, true, true, true, false, false, false, false, false, false] rfl rfl (any_of HT_.out (by kernel_rfl)) (fun _ _ _ h => h) (Or.inl ⟨by rfl, ?_⟩) ?_ ?_
                              rotate_left
                              · intro w'
                                go_simp
                                with_reducible rfl
                              rotate_left
                              · simp only [Act.put, List.setIfInBounds_toArray, List.set_cons_zero, List.set_cons_succ, i64_w, i32_w]
                                rfl
                              refine pure_ (i := 9) (N := some 35) (v := ?_) (a' := ?_) #[true, true, true, true, true, false, true, true, true, true, false, false, false, false, false] rfl rfl (any_of HT_.out (by kernel_rfl)) (fun _ _ _ h => h) (Or.inl ⟨by rfl, ?_⟩) ?_ ?_
                              rotate_left
                              · intro w'
                                go_simp
                                with_reducible rfl
                              rotate_left
                              · simp only [Act.put, List.setIfInBounds_toArray, List.set_cons_zero, List.set_cons_succ, i64_w, i32_w]
                                rfl
                              refine pure_ (i := 10) (N := some 36) (v := ?_) (a' := ?_) #[true, true, true, true, true, false, true, true, true, true, true, false, false, false, false] rfl rfl (any_of HT_.out (by kernel_rfl)) (fun _ _ _ h => h) (Or.inl ⟨by rfl, ?_⟩) ?_ ?_
                              rotate_left
                              · intro w'
                                go_simp
                                with_reducible rfl
                              rotate_left
                              · simp only [Act.put, List.setIfInBounds_toArray, List.set_cons_zero, List.set_cons_succ, i64_w, i32_w]
                                rfl
                              refine take_ (i := 5) (N := some 31) (v := ?_) (a' := ?_) #[true, true, true, true, true, true, true, true, true, true, true, false, false, false, false] rfl rfl (take_ofW HT_.out HW_.out (by kernel_rfl)) (fun _ _ _ h => h) (Or.inl ⟨by rfl, ?_⟩) hHeld ?_ ?_
                              rotate_left
                              · rintro w' ⟨s0, s1⟩
                                go_simp
                                with_reducible rfl
                              rotate_left
                              · simp only [Act.put, List.setIfInBounds_toArray, List.set_cons_zero, List.set_cons_succ, i64_w, i32_w]
                                rfl
                              refine take_ (i := 11) (N := some 37) (v := ?_) (a' := ?_) #[true, true, true, true, true, true, true, true, true, true, true, true, false, false, false] rfl rfl (take_ofW HT_.out HW_.out (by kernel_rfl)) (fun _ _ _ h => h) (Or.inl ⟨by rfl, ?_⟩) hHeld ?_ ?_
                              rotate_left
                              · rintro w' ⟨s0, s1⟩
                                go_simp
                                with_reducible rfl
                              rotate_left
                              · simp only [Act.put, List.setIfInBounds_toArray, List.set_cons_zero, List.set_cons_succ, i64_w, i32_w]
                                rfl
                              refine one_ (i := 12) (N := some 38) #[true, true, true, true, true, true, true, true, true, true, true, true, true, false, false] rfl rfl (one_of HT_.out (by kernel_rfl)) (by decide) (fun K hK => ?_)
                              refine goes_ Try.func33 (by kernel_rfl) rfl #[.string (rdOf ByteArray.empty l0 x6_1), .slice A1 l1.length c1, .slice A261_0 (rd_L6 x5_1 (ji21)).length c261_0] (by rfl) rfl rfl (by (try simp only [List.map_toArray, List.map_cons, List.map_nil]); first | done | (simp only [hji21]; rfl) | rfl | (simp only [List.length_drop, List.length_take]; rfl)) ?_
                              with_reducible refine (tartanref08_row.calls k1 (rdOf ByteArray.empty l0 x6_1) _ _ l1 _ _ (rd_L6 x5_1 (ji21)) t262 _ ?side1 ?side2 ?side3 ?side4 A24.out).mono ?_
                              (case side1 => repeat (first | exact (Kd.C_below HR1.out HB.out) | (with_reducible refine Kd.C_alloc ?_ _) | (with_reducible refine Kd.C_drewN ?_ _) | (with_reducible refine Kd.C_drew ?_)))
                              (case side2 => exact HC1.out)
                              (case side3 => repeat (first | exact (by repeat (first | (with_reducible exact HR261_0.out) | (with_reducible refine Kd.C_alloc ?_ _) | (with_reducible refine Kd.C_drewN ?_ _) | (with_reducible refine Kd.C_drew ?_) | exact HR261_0.out)) | (with_reducible refine Kd.C_alloc ?_ _) | (with_reducible refine Kd.C_drewN ?_ _) | (with_reducible refine Kd.C_drew ?_)))
                              (case side4 => exact HC261_0.out)
                              rintro e w28 ⟨v263, rfl, ho0, hb⟩
                              have HS1_ := (hb.cell (World.block_lt_of_cell? _ _ (hHeld.2))).trans (hHeld.2)
                              refine ⟨_, rfl, ?_⟩
                              have n0_ := Aside0.mk (Kd.N_elder' (by (with_reducible repeat (first | apply Kd.N_alloc | apply Kd.N_drewN | apply Kd.N_drew)); exact HO_5.out) (Kd.R_base ho0) hb)
                              have n1_ := Aside0.mk (Kd.V_elder' (by (with_reducible repeat (first | apply Kd.V_alloc | apply Kd.V_drewN | apply Kd.V_drew)); exact HL261_0.out) (Kd.R_base ho0) hb)
                              have n2_ := Aside0.mk (Kd.R_lower (Kd.R_newM (M := fun k_ => (w.heap.size ≤ k_)) ho0 (below_size (by repeat (first | (with_reducible first | exact HB.out | apply below_alloc | apply pw_below_drewN | apply below_drew1) | exact HB.out))) (fun k_ h_ => h_)) (below_size (by repeat (first | (with_reducible first | exact HB.out | apply below_alloc | apply pw_below_drewN | apply below_drew1) | exact HB.out))))
                              have n3_ := Aside0.mk (Kd.C_below (by repeat (first | (with_reducible exact HR261_0.out) | (with_reducible refine Kd.C_alloc ?_ _) | (with_reducible refine Kd.C_drewN ?_ _) | (with_reducible refine Kd.C_drew ?_) | exact HR261_0.out)) hb)
                              have n4_ := Aside0.mk (below_step (by repeat (first | (with_reducible first | exact HB.out | apply below_alloc | apply pw_below_drewN | apply below_drew1) | exact HB.out)) hb)
                              clear HO_5
                              clear HL261_0
                              clear HR261_0
                              clear HB
                              have HO_5 := n0_
                              have HL261_0 := n1_
                              have HO264 := n2_
                              have HR261_0 := n3_
                              have HB := n4_
                              clear n0_ n1_ n2_ n3_ n4_
                              (try clear hb)
                              (try clear hb2)
                              (try clear hk)
                              (try clear hi)
                              (try clear ho0)
                              have p26 : 0 ≤ (x6_1 : Int) := of_decide_eq_true (by first | (with_reducible assumption) | assumption)
                              have q26 : (x6_1 : Int) < ((x5_1.length : Int) : Int) := of_decide_eq_true (by first | (with_reducible assumption) | assumption)
                              obtain ⟨ce26, hcl26, hM26, hcc26, hfr26⟩ := Kd.N_elem HO_5.out [] (x6_1 : Int) p26 q26
                              obtain ⟨ua26_0, uc26_0, rfl, ul26_0, ge26_0⟩ := Kd.FK_slice_open hM26
                              have hx26_0 := hcc26 0 _ rfl
                              have hf26_0 := hfr26 0
                              (try simp only [show ((Kd.slice 3 (Kd.int .i64))).sz = 1 from rfl, Nat.mul_one, Nat.add_zero] at hx26_0)
                              (try simp only [show ((Kd.slice 3 (Kd.int .i64))).sz = 1 from rfl, Nat.mul_one, Nat.add_zero] at hf26_0)
                              clear hcl26 hcc26 hfr26 hM26
                              replace p26 := eq_true p26
                              replace q26 := eq_true q26
                              have HX29 := Aside0.mk (show Kd.N (Kd.slice 3 (Kd.int .i64)) 44 _ w.heap.size (fun k_ => (w.heap.size ≤ k_) ∧ some k_ ≠ (v263 : Value).ownBlock) (.slice (some ⟨go11, 0, none⟩) x5_1.length co11) x5_1 from (Kd.N_mono (HO_5.out) (fun k_ hk => ⟨hk.1, hk.2⟩)))
                              replace HX29 := Aside0.mk (show Kd.N (Kd.slice 3 (Kd.int .i64)) 44 _ w.heap.size (fun k_ => (w.heap.size ≤ k_)) (.slice (some ⟨go11, 0, none⟩) x5_1.length co11) x5_1 from Kd.N_mono HX29.out (fun k_ hk => hk.1))
                              obtain ⟨ce29, hcl29, hM29, hcc29, hfr29⟩ := Kd.N_elem HX29.out [] (x6_1 : Int) (of_decide_eq_true (by first | (with_reducible assumption) | assumption)) (by have h_ : (x6_1 : Int) < ((x5_1.length : Int) : Int) := of_decide_eq_true (by first | (with_reducible assumption) | assumption); first | exact h_ | (have e_ := (Kd.N_reads' HO_5.out).1; omega) | simpa using h_)
                              obtain ⟨ua29_0, uc29_0, rfl, ul29_0, ge29_0⟩ := Kd.FK_slice_open hM29
                              obtain ⟨sav263, scv263, se_⟩ := Kd.R_slice HO264.out; subst se_; have HP29 := (Kd.N_seg HX29.out (x6_1 : Int) (of_decide_eq_true (by first | (with_reducible assumption) | assumption)) (by have h_ : (x6_1 : Int) < ((x5_1.length : Int) : Int) := of_decide_eq_true (by first | (with_reducible assumption) | assumption); first | exact h_ | (have e_ := (Kd.N_reads' HO_5.out).1; omega) | simpa using h_) (seg := [_]) (j := 0) hcl29 hcc29 (show 1 ≤ 1 from by decide) (x' := t262) (Kd.FK_slice_mk (Kd.R_reads' (Kd.R_mono (ok' := (fun k_ => ((fun k_ => (w.heap.size ≤ k_))) k_ ∧ k_ ≠ go11)) (Kd.R_apart' (HO264.out) (Kd.N_typed HO_5.out) (by decide)) (fun k_ hk => ⟨hk.1.1, fun e_ => (hk.2) (by rw [e_]; rfl)⟩))).2.1 (Kd.R_F (Kd.R_mono (ok' := (fun k_ => ((fun k_ => (w.heap.size ≤ k_))) k_ ∧ k_ ≠ go11)) (Kd.R_apart' (HO264.out) (Kd.N_typed HO_5.out) (by decide)) (fun k_ hk => ⟨hk.1.1, fun e_ => (hk.2) (by rw [e_]; rfl)⟩)))) (fun _ hk => hk)).1
                              (try simp only [show ((Kd.slice 3 (Kd.int .i64))).sz = 1 from rfl, Nat.mul_one, Nat.add_zero] at HP29)
                              rw [← Ny265.out] at HP29
                              have HQ29 := Aside0.mk HP29
                              clear hcl29 hcc29 hfr29 hM29 HP29
                              refine hK.out _ _ ⟨((HB.out.cell (World.block_lt_of_cell? w _ hw260_0)).trans hw260_0), HS1_⟩ (fun hHeld => ?_)
                              clear hK K
                              refine norm_ (a' := ?_) ?_ ?_
                              rotate_left
                              · show Act.put _ (some 38) _ = _
                                simp only [Act.put, List.setIfInBounds_toArray, List.set_cons_zero, List.set_cons_succ, i64_w, i32_w]
                                rfl
                              refine pure_ (i := 13) (N := some 39) (v := ?_) (a' := ?_) #[true, true, true, true, true, true, true, true, true, true, true, true, true, true, false] rfl rfl (any_of HT_.out (by kernel_rfl)) (fun _ _ _ h => h) (Or.inl ⟨by rfl, ?_⟩) ?_ ?_
                              rotate_left
                              · intro w'
                                go_simp
                                with_reducible rfl
                              rotate_left
                              · simp only [Act.put, List.setIfInBounds_toArray, List.set_cons_zero, List.set_cons_succ, i64_w, i32_w]
                                rfl
                              refine last_ (i := 14) (N := none) #[true, true, true, true, true, true, true, true, true, true, true, true, true, true, true] rfl rfl (one_of HT_.out (by kernel_rfl)) (by decide) (fun K hK => ?_)
                              refine skip_ (w1 := ?_) (by rfl) rfl ?_ ?_
                              rotate_left
                              · go_simp
                                rfl
                              refine hK.out _ _ ?_
                              clear hK K
                              refine done_ (done_of HT_.out (by kernel_rfl)) ?_
                              try go_wp2
                              (try simp only [← hl5_1])
                              go_roundg k1
                              case measure => have := HK1.out; omega
                              case rel => exact ⟨(y265), (wrap64 (x6_1 - 1)), (by first | rfl | (simp; done) | (simp [*]; done)), H', ⟨by have := HK1.out; omega⟩, ⟨by (try simp only [hl5_1]); (with_reducible repeat (first | apply Kd.N_alloc | apply Kd.N_drewN | apply Kd.N_drew)); exact HQ29.out⟩, ⟨by repeat (first | (with_reducible first | exact HB.out | apply below_alloc | apply pw_below_drewN | apply below_drew1 | refine below_set ?_ GB11.out) | exact HB.out)⟩⟩
                            · rw [if_neg c25] at H
                              exact absurd H (by simp)
                          · rw [if_neg c23] at H
                            exact absurd H (by simp)
                        · rw [if_neg c22] at H
                          exact absurd H (by simp)
                      · rw [if_neg c20] at H
                        exact absurd H (by simp)
                    · rw [if_neg c19] at H
                      exact absurd H (by simp)
                  · rw [if_neg c18] at H
                    have c18b0 : decide (0 ≤ x6_1) = false := decide_eq_false c18
                    clear c18
                    obtain rfl := Option.some.inj H
                    go_wp2
                    go_ret
                    exact ⟨_, by first | rfl | (simp [errW_none, errW_some] <;> rfl) | (simp only [← hji3, ← hji6]; first | rfl | (simp [errW_none, errW_some] <;> rfl)) | (simp [*, errW_none, errW_some] <;> rfl), by (with_reducible repeat (first | apply Kd.N_alloc | apply Kd.N_drewN | apply Kd.N_drew)); exact HO_5.out, by repeat (first | (with_reducible first | exact HB.out | apply below_alloc | apply pw_below_drewN | apply below_drew1) | exact HB.out)⟩
            · rw [if_neg c10] at H
              exact absurd H (by simp)
          · rw [if_neg c9] at H
            exact absurd H (by simp)
        · rw [if_neg c8] at H
          exact absurd H (by simp)
      · rw [if_neg c7] at H
        exact absurd H (by simp)
    · rw [if_neg c5] at H
      exact absurd H (by simp)
  · rw [if_neg c4] at H
    exact absurd H (by simp)

end Go.Proofs.Ytimchoebiadhmaa.X
