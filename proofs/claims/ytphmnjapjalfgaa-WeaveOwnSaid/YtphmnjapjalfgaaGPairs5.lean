/- pairs.Still. -/
import Derived.Test.YtphmnjapjalfgaaPLong
namespace Go.Proofs.Ytphmnjapjalfgaa.X
open Go.RowKit Go.Maps Go.Proofs.YtphmnjapjalfgaaW.PrintWords Go.Proofs.Ytphmnjapjalfgaa.GMap
set_option linter.unusedVariables false

/-- One step of the choice: what is wanted, what is chosen. -/
def stepS (l : List PS) (st : Int × List Int) (t : Nat) : Int × List Int :=
  if rd (lngI l) (t : Int) = st.1 ∧ (st.2.length = 0 ∨ (rd_T37 l (rd st.2 ((st.2.length - 1 : Nat) : Int))).f0 < (rd_T37 l (t : Int)).f0) then (st.1 - 1, st.2 ++ [(t : Int)]) else st
def stAt (l : List PS) (t : Nat) : Int × List Int := (List.range t).foldl (stepS l) ((lngI l).foldl max (rd (lngI l) 0), [])
def stillR (l : List PS) : List Int := (stAt l l.length).2
def pairs_Still.f (l : List PS) : Option (List Int) := if l.length ≤ 100000 then some (stillR l) else none
theorem stAt_succ (l : List PS) (t : Nat) : stAt l (t + 1) = stepS l (stAt l t) t := by unfold stAt; rw [List.range_succ, List.foldl_append]; rfl
theorem stepS_len (l : List PS) (st : Int × List Int) (t : Nat) : (stepS l st t).2.length ≤ st.2.length + 1 := by unfold stepS; split <;> simp
theorem stAt_len (l : List PS) : ∀ t, (stAt l t).2.length ≤ t
  | 0 => by simp [stAt]
  | t + 1 => by rw [stAt_succ]; have := stepS_len l (stAt l t) t; have := stAt_len l t; omega
theorem stAt_mem (l : List PS) : ∀ t, ∀ x ∈ (stAt l t).2, 0 ≤ x ∧ x < (t : Int)
  | 0, x, h => by simp [stAt] at h
  | t + 1, x, h => by
    rw [stAt_succ] at h
    unfold stepS at h
    split at h
    · rcases List.mem_append.1 h with h | h
      · have := stAt_mem l t x h; omega
      · simp at h; omega
    · have := stAt_mem l t x h; omega
theorem lngI_pos (l : List PS) {t : Nat} (ht : t < l.length) : 1 ≤ rd (lngI l) (t : Int) := by
  unfold rd
  rw [show ((t : Int)).toNat = t from rfl, List.getD_eq_getElem?_getD, List.getElem?_eq_getElem (by rw [lngI_len]; exact ht)]
  have h5 : (lngI l)[t]'(by rw [lngI_len]; exact ht) = (((lng (As l))[t]'(by rw [lng_len]; simpa using ht) : Nat) : Int) := List.getElem_map _
  simp only [Option.getD_some]
  rw [h5]
  have := lng_pos (As l) _ (List.getElem_mem (by rw [lng_len]; simpa using ht))
  omega
theorem lngI_le (l : List PS) {t : Nat} (ht : t < l.length) : rd (lngI l) (t : Int) ≤ (l.length : Int) := by
  unfold rd
  rw [show ((t : Int)).toNat = t from rfl, List.getD_eq_getElem?_getD, List.getElem?_eq_getElem (by rw [lngI_len]; exact ht)]
  have h5 : (lngI l)[t]'(by rw [lngI_len]; exact ht) = (((lng (As l))[t]'(by rw [lng_len]; simpa using ht) : Nat) : Int) := List.getElem_map _
  simp only [Option.getD_some]
  rw [h5]
  have h6 : ((lng (As l))[t]'(by rw [lng_len]; simpa using ht)) ≤ (As l).length := lng_le (As l) _ (List.getElem_mem _)
  have h7 : (As l).length = l.length := by simp
  omega
/-- Where nothing more is wanted, nothing more is chosen. -/
theorem stAt_stop (l : List PS) {t : Nat} (h0 : (stAt l t).1 = 0) : ∀ d, t + d ≤ l.length → stAt l (t + d) = stAt l t
  | 0, _ => rfl
  | d + 1, h => by
    have ih := stAt_stop l h0 d (by omega)
    rw [show t + (d + 1) = (t + d) + 1 from rfl, stAt_succ, ih]
    unfold stepS
    rw [if_neg]
    rintro ⟨h1, _⟩
    have := lngI_pos l (t := t + d) (by omega)
    omega
theorem stAt_end (l : List PS) {t : Nat} (ht : t ≤ l.length) (h0 : (stAt l t).1 = 0) : stillR l = (stAt l t).2 := by
  have := stAt_stop l h0 (l.length - t) (by omega)
  rw [show t + (l.length - t) = l.length from by omega] at this
  unfold stillR; rw [this]

theorem cell2 {w : World} {B t : Nat} {a b : Value} (h : w.heap[B]? = some (.cells #[a, b] t (0, 0))) : w.cell? ⟨B, 0, none⟩ = some a ∧ w.cell? ⟨B, 1, none⟩ = some b := ⟨by simp [World.cell?, h], by simp [World.cell?, h]⟩

set_option maxRecDepth 100000 in
set_option maxHeartbeats 1600000 in
theorem pairs_Still.calls (A0 : Option Addr) (c0 : Nat) (l0 : List PS) (r : List Int) (w : World) (hr0 : Kd.C k37 w A0 l0.length l0) (hc0 : l0.length ≤ c0) (h : pairs_Still.f l0 = some r) :
    Calls Try.prog 24 #[.slice A0 l0.length c0] w fun e w' => ∃ v0_ : Value, e = .returned (v0_) ∧ Kd.R (Kd.int .i64) 3 w' w.heap.size (fun _ => True) v0_ r ∧ Below w.heap.size w w' := by
  unfold pairs_Still.f at h
  split at h
  · rename_i hla
    have H := Aside0.mk (Option.some.inj h)
    have HR0 := Aside0.mk hr0
    have HC0 := Aside0.mk hc0
    obtain ⟨i0, hi, hz0, hz1, hz2⟩ := info_parts info3
    clear h hr0 hc0
    go_enter Try.func24, Try.ntmps24
    by_cases hne : l0.length = 0
    · have he : l0 = [] := List.eq_nil_of_length_eq_zero hne
      subst he
      go_wp2
      go_step3
      go_wp2
      simp only [Exit.noGoto]
      refine bodyPost_ret (results_tmp rfl _ _ _) rfl ?_
      rw [← H.out]
      exact ⟨_, rfl, Kd.R_nil _ _ _ _ _, Below.refl _ _⟩
    · obtain ⟨K, HLg⟩ : ∃ K, Aside0 (pairs_long.f K l0 = some (lngI l0)) := ⟨_, ⟨long_some l0 hla (Nat.lt_succ_self _)⟩⟩
      have HMx := Aside0.mk (show slices_Max_int_int.f (lngI l0) = some ((lngI l0).foldl max (rd (lngI l0) 0)) from by have hLl := lngI_len l0; unfold slices_Max_int_int.f; rw [if_neg (by omega), if_pos (by omega)])
      go_wp2
      go_step3
      go_wp2_with (first
        | (go_at_call 39; (with_reducible refine (pairs_long.calls _ A0 c0 l0 _ _ HR0.out HC0.out HLg.out).mono ?_); rintro e w1 ⟨v, rfl, hn, hb1⟩; obtain ⟨An, cn, rfl, hcn, hN⟩ := Kd.R_reads hn)
        | (go_at_call 40; (with_reducible refine (slices_Max_int_int.calls An cn (lngI l0) _ _ hN hcn HMx.out).mono ?_); rintro e w2 ⟨rfl, hb2⟩))
      go_step3
      go_wp2
      have HN2 := Aside0.mk (Kd.C_below hN hb2)
      have hbw : Below w.heap.size w w2 := hb1.trans (hb2.mono hb1.size)
      clear hN hn hb1 hb2
      rw [lngI_len l0] at HN2
      go_loopw [17, 4, 5] (fun vi vw vo wr => ∃ t : Nat, vi = .int .i64 t ∧ t ≤ l0.length ∧ vw = .int .i64 (stAt l0 t).1 ∧ wr.ownsRow w2.heap.size 3 1 vo (stAt l0 t).2.length (encs (Value.int .i64) (stAt l0 t).2) ∧ Below w2.heap.size w2 wr)
        (fun vi _ _ _ => l0.length - (intOf vi).toNat)
      case atStart => exact ⟨0, rfl, Nat.zero_le _, rfl, by simpa [stAt, encs] using World.ownsRow_nil _ _ _ _, Below.refl _ _⟩
      case round =>
        obtain ⟨t, rfl, ht, rfl, ho, hb⟩ := hrel
        by_cases hlt : t < l0.length
        · have hbt : Below w.heap.size w wr := hbw.trans (hb.mono hbw.size)
          have HR2 := Aside0.mk (Kd.C_below HR0.out hbt)
          obtain ⟨ad, eA, hx0, hx1⟩ := pairAt HR2.out hlt
          cases eA
          have hnl : (lngI l0).length = l0.length := lngI_len l0
          have HN3 := Aside0.mk (Kd.C_below HN2.out hb)
          obtain ⟨an, eN, hn0⟩ : ∃ an, An = some an ∧ wr.cell? (an.add t) = some (.int .i64 (rd (lngI l0) (t : Int))) := by
            obtain ⟨ad', e, hx⟩ := Kd.at_int HN3.out (t : Int) (by omega) (by omega)
            exact ⟨ad', e, hx⟩
          cases eN
          obtain ⟨Ao, co, rfl, hco, hCo⟩ := Kd.R_reads (R_int ho)
          have hsl := stAt_len l0 t
          have hml : (stAt l0 t).2.length + 1 ≤ maxLen := by unfold maxLen; omega
          have hml2 : ((stAt l0 t).2.length + 1) * 8 ≤ 140737488355328 := by omega
          have hsu := Aside0.mk (stAt_succ l0 t)
          have HO := Aside0.mk ho
          have HCo := Aside0.mk hCo
          have HMm := Aside0.mk (stAt_mem l0 t)
          have HMp := Aside0.mk (lngI_pos l0 hlt)
          have HMq := Aside0.mk (lngI_le l0 hlt)
          have HE := Aside0.mk (fun h => stAt_end l0 (t := t + 1) (by omega) h)
          have lt1 : (t : Int) < ((lngI l0).length : Int) := by omega
          clear ho hCo hnl
          unfold stepS at hsu
          generalize hst : stAt l0 t = st at *
          obtain ⟨want, out⟩ := st
          simp only at *
          generalize hp : rd_T37 l0 (t : Int) = p at *
          generalize hnt : rd (lngI l0) (t : Int) = nt at *
          have hbA : Below wr.heap.size wr (wr.alloc (.cells #[.int .i64 p.f0, .int .i64 p.f1] 37)) := (Below.refl _ _).alloc (Nat.le_refl _) _
          have hn1 := pw_cell_below hbA hn0
          have hbx : (wr.alloc (.cells #[.int .i64 p.f0, .int .i64 p.f1] 37)).heap[wr.heap.size]? = some (.cells #[.int .i64 p.f0, .int .i64 p.f1] 37 (0, 0)) := by rw [ha, if_pos rfl]
          have hb0 : (wr.alloc (.cells #[.int .i64 p.f0, .int .i64 p.f1] 37)).cell? ⟨wr.heap.size, 0, none⟩ = some (.int .i64 p.f0) := (cell2 hbx).1
          have HOA := Aside0.mk (pw_own_below HO.out hbA)
          have HCA := Aside0.mk (Kd.C_below HCo.out hbA)
          have HR3 := Aside0.mk (Kd.C_below HR2.out hbA)
          have hbB : Below w2.heap.size w2 (wr.alloc (.cells #[.int .i64 p.f0, .int .i64 p.f1] 37)) := hb.trans (hbA.mono hb.size)
          clear hbx hbA
          by_cases h1 : nt = want
          · by_cases h2 : out.length = 0
            · have e : stAt l0 (t + 1) = (want - 1, out ++ [(t : Int)]) := by rw [hsu.out, if_pos ⟨h1, .inl h2⟩]
              have HEE := Aside0.mk e
              have t1 : (nt == want) = true := by simpa using h1
              have t2 : (nt != want) = false := by simpa using h1
              have t3 : ¬ (0 : Int) < (out.length : Int) := by omega
              have t4 : ¬ 0 < out.length := by omega
              have hp1 := HMp.out
              have hp2 := HMq.out
              rw [h1] at hp1 hp2
              have ww : IntKind.i64.wrap (want - 1) = want - 1 := IntWalk.i64_in _ (by omega)
              clear hst hp hnt e hsu HMx HLg HMm HMp HMq h2
              go_wp2
              generalize wr.alloc (.cells #[.int .i64 p.f0, .int .i64 p.f1] 37) = W1 at *
              clear HO HCo HN2 HN3 HR2 HR0 HCA HR3 hx0 hx1 hn0 hsl hco hcn hne hbt hb
              go_quiet (fail)
              have HOB := Aside0.mk (pw_own_below HOA.out (pw_below_drewN (Below.refl _ _) nq))
              have hbC := pw_below_drewN hbB nq
              have hsz := hbC.size
              clear HOA hbB
              by_cases h3 : want - 1 = 0
              · have q3 : w2.heap.size ≤ ((W1.drewN nq).alloc (.cells #[.int .i64 (t : Int)] 3)).heap.size := Nat.le_trans hsz (pw_below_drewN (Below.refl _ _) 0 |>.alloc (Nat.le_refl _) _).size
                go_wp2_with (first
                  | (at_builtin; refine wpList_append_own _ rfl _ _ 31 rfl w2.heap.size 3 i0 (.int .i64 0) 1 8 Try.underlying31 hi hz0 hz1 hz2 rfl (by decide) _ _ _ rfl (HOB.out.alloc _) ⟨W1.heap.size, 0, none⟩ 1 1 [.int .i64 (t : Int)] rfl rfl (cell_one_new (W1.drewN nq) _ _) (by simp [Value.oneCell']) hml hml2 q3 ?_; intro v' w3 hown' hgrow _))
                have hbD := (hbC.alloc hsz (.cells #[.int .i64 (t : Int)] 3)).grown hgrow q3 (fun k hk => own_base HOB.out k hk)
                rw [← encs_snoc, ← len_snoc _ (t : Int)] at hown'
                clear HOB hgrow
                simp only [Exit.noGoto]
                refine bodyPost_ret (results_tmp rfl _ _ _) rfl ?_
                have hst2 := HE.out (by rw [HEE.out]; exact h3)
                rw [HEE.out] at hst2
                simp only at hst2
                rw [← H.out, hst2]
                exact ⟨_, rfl, Kd.R_lower (R_int hown') hbw.size, hbw.trans (hbD.mono hbw.size)⟩
              · have q3 : w2.heap.size ≤ ((W1.drewN nq).alloc (.cells #[.int .i64 (t : Int)] 3)).heap.size := Nat.le_trans hsz (pw_below_drewN (Below.refl _ _) 0 |>.alloc (Nat.le_refl _) _).size
                have h3' : (want - 1 == 0) = false := by simpa using h3
                go_wp2_with (first
                  | (at_builtin; refine wpList_append_own _ rfl _ _ 31 rfl w2.heap.size 3 i0 (.int .i64 0) 1 8 Try.underlying31 hi hz0 hz1 hz2 rfl (by decide) _ _ _ rfl (HOB.out.alloc _) ⟨W1.heap.size, 0, none⟩ 1 1 [.int .i64 (t : Int)] rfl rfl (cell_one_new (W1.drewN nq) _ _) (by simp [Value.oneCell']) hml hml2 q3 ?_; intro v' w3 hown' hgrow _))
                have hbD := (hbC.alloc hsz (.cells #[.int .i64 (t : Int)] 3)).grown hgrow q3 (fun k hk => own_base HOB.out k hk)
                rw [← encs_snoc, ← len_snoc _ (t : Int)] at hown'
                clear HOB hgrow
                go_roundw
                case rel => exact ⟨t + 1, by go_num, by omega, by rw [HEE.out], by rw [HEE.out]; exact hown', hbD⟩
                case measure => simp [intOf]; omega
            · have hk : out.length - 1 < out.length := by omega
              have hrm : rd out ((out.length - 1 : Nat) : Int) ∈ out := by
                unfold rd
                rw [show (((out.length - 1 : Nat) : Int)).toNat = out.length - 1 from rfl, List.getD_eq_getElem?_getD, List.getElem?_eq_getElem hk]
                exact List.getElem_mem _
              obtain ⟨hj0, hj1⟩ := HMm.out _ hrm
              obtain ⟨ao, eO, hy0⟩ := intAt HCA.out hk
              cases eO
              obtain ⟨j, hj⟩ : ∃ j : Nat, rd out ((out.length - 1 : Nat) : Int) = (j : Int) := ⟨(rd out ((out.length - 1 : Nat) : Int)).toNat, by omega⟩
              rw [hj] at hy0 hj1 hsu
              have hjl : j < l0.length := by omega
              obtain ⟨ad', eA, hq0, hq1⟩ := pairAt HR3.out hjl
              cases eA
              generalize hqq : rd_T37 l0 (j : Int) = q at *
              have t1 : (nt == want) = true := by simpa using h1
              have t2 : (nt != want) = false := by simpa using h1
              have t3 : (0 : Int) < (out.length : Int) := by omega
              have t4 : 0 < out.length := by omega
              have t5 : IntKind.i64.wrap ((out.length : Int) - 1) = (out.length : Int) - 1 := IntWalk.i64_in _ (by omega)
              have t6 : (0 : Int) ≤ (out.length : Int) - 1 := by omega
              have t7 : ((out.length : Int) - 1).toNat = out.length - 1 := by omega
              have t8 : (j : Int) < (l0.length : Int) := by omega
              have hp1 := HMp.out
              have hp2 := HMq.out
              rw [h1] at hp1 hp2
              have ww : IntKind.i64.wrap (want - 1) = want - 1 := IntWalk.i64_in _ (by omega)
              by_cases h4 : q.f0 < p.f0
              · have e : stAt l0 (t + 1) = (want - 1, out ++ [(t : Int)]) := by rw [hsu.out, if_pos ⟨h1, .inr h4⟩]
                have HEE := Aside0.mk e
                have t9 : ¬ p.f0 ≤ q.f0 := by omega
                clear hst hp hqq hnt e hsu HMx HLg HMm HMp HMq h2 hrm
                go_wp2
                generalize wr.alloc (.cells #[.int .i64 p.f0, .int .i64 p.f1] 37) = W1 at *
                clear HO HCo HN2 HN3 HR2 HR0 HCA HR3 hx0 hx1 hn0 hsl hco hcn hne hbt hb hq1 hj hj0 hj1 h4
                go_quiet (fail)
                have HOB := Aside0.mk (pw_own_below HOA.out (pw_below_drewN (Below.refl _ _) nq))
                have hbC := pw_below_drewN hbB nq
                have hsz := hbC.size
                clear HOA hbB
                by_cases h3 : want - 1 = 0
                · have q3 : w2.heap.size ≤ ((W1.drewN nq).alloc (.cells #[.int .i64 (t : Int)] 3)).heap.size := Nat.le_trans hsz (pw_below_drewN (Below.refl _ _) 0 |>.alloc (Nat.le_refl _) _).size
                  go_wp2_with (first
                    | (at_builtin; refine wpList_append_own _ rfl _ _ 31 rfl w2.heap.size 3 i0 (.int .i64 0) 1 8 Try.underlying31 hi hz0 hz1 hz2 rfl (by decide) _ _ _ rfl (HOB.out.alloc _) ⟨W1.heap.size, 0, none⟩ 1 1 [.int .i64 (t : Int)] rfl rfl (cell_one_new (W1.drewN nq) _ _) (by simp [Value.oneCell']) hml hml2 q3 ?_; intro v' w3 hown' hgrow _))
                  have hbD := (hbC.alloc hsz (.cells #[.int .i64 (t : Int)] 3)).grown hgrow q3 (fun k hk => own_base HOB.out k hk)
                  rw [← encs_snoc, ← len_snoc _ (t : Int)] at hown'
                  clear HOB hgrow
                  simp only [Exit.noGoto]
                  refine bodyPost_ret (results_tmp rfl _ _ _) rfl ?_
                  have hst2 := HE.out (by rw [HEE.out]; exact h3)
                  rw [HEE.out] at hst2
                  simp only at hst2
                  rw [← H.out, hst2]
                  exact ⟨_, rfl, Kd.R_lower (R_int hown') hbw.size, hbw.trans (hbD.mono hbw.size)⟩
                · have q3 : w2.heap.size ≤ ((W1.drewN nq).alloc (.cells #[.int .i64 (t : Int)] 3)).heap.size := Nat.le_trans hsz (pw_below_drewN (Below.refl _ _) 0 |>.alloc (Nat.le_refl _) _).size
                  have h3' : (want - 1 == 0) = false := by simpa using h3
                  go_wp2_with (first
                    | (at_builtin; refine wpList_append_own _ rfl _ _ 31 rfl w2.heap.size 3 i0 (.int .i64 0) 1 8 Try.underlying31 hi hz0 hz1 hz2 rfl (by decide) _ _ _ rfl (HOB.out.alloc _) ⟨W1.heap.size, 0, none⟩ 1 1 [.int .i64 (t : Int)] rfl rfl (cell_one_new (W1.drewN nq) _ _) (by simp [Value.oneCell']) hml hml2 q3 ?_; intro v' w3 hown' hgrow _))
                  have hbD := (hbC.alloc hsz (.cells #[.int .i64 (t : Int)] 3)).grown hgrow q3 (fun k hk => own_base HOB.out k hk)
                  rw [← encs_snoc, ← len_snoc _ (t : Int)] at hown'
                  clear HOB hgrow
                  go_roundw
                  case rel => exact ⟨t + 1, by go_num, by omega, by rw [HEE.out], by rw [HEE.out]; exact hown', hbD⟩
                  case measure => simp [intOf]; omega
              · have e : stAt l0 (t + 1) = (want, out) := by rw [hsu.out, if_neg (fun h => h.2.elim (fun h' => h2 h') (fun h' => h4 h'))]
                have HEE := Aside0.mk e
                have t9 : p.f0 ≤ q.f0 := by omega
                clear hst hp hqq hnt e hsu HMx HLg HMm HMp HMq h2 hrm
                go_wp2
                generalize wr.alloc (.cells #[.int .i64 p.f0, .int .i64 p.f1] 37) = W1 at *
                clear HO HCo HN2 HN3 HR2 HR0 HCA HR3 hx0 hx1 hn0 hsl hco hcn hne hbt hb hq1 hj hj0 hj1 h4
                go_quiet (fail)
                go_wp2
                go_roundw
                case rel =>
                  refine ⟨t + 1, by go_num, by omega, by rw [HEE.out], ?_, by exact pw_below_drewN hbB _⟩
                  rw [HEE.out]
                  exact pw_own_below HOA.out (pw_below_drewN (Below.refl _ _) _)
                case measure => simp [intOf]; omega
          · have e : stAt l0 (t + 1) = (want, out) := by rw [hsu.out, if_neg (fun h => h1 h.1)]
            have HEE := Aside0.mk e
            have t1 : (nt == want) = false := by simpa using h1
            have t2 : (nt != want) = true := by simpa using h1
            clear hst hp hnt e hsu HMx HLg HMm HMp HE
            go_wp2
            generalize wr.alloc (.cells #[.int .i64 p.f0, .int .i64 p.f1] 37) = W1 at *
            clear HO HCo HN2 HN3 HR2 HR0 HCA HR3 hx0 hx1 hn0 hsl hco hml hcn hne hbt hb hbw
            go_quiet (fail)
            go_wp2
            go_roundw
            case rel =>
              refine ⟨t + 1, by go_num, by omega, by rw [HEE.out], ?_, by exact pw_below_drewN hbB _⟩
              rw [HEE.out]
              exact pw_own_below HOA.out (pw_below_drewN (Below.refl _ _) _)
            case measure => simp [intOf]; omega
        · obtain rfl : t = l0.length := by omega
          go_wp2
          simp only [Exit.noGoto]
          refine bodyPost_ret (results_tmp rfl _ _ _) rfl ?_
          rw [← H.out]
          exact ⟨_, rfl, Kd.R_lower (R_int ho) hbw.size, hbw.trans (hb.mono hbw.size)⟩
  · exact nomatch h
end Go.Proofs.Ytphmnjapjalfgaa.X
