/- order.Weave. -/
import Derived.Test.YthdfgkbfjpadbaaGEach
import Derived.Test.YthdfgkbfjpadbaaPOnce
namespace Go.Proofs.Ythdfgkbfjpadbaa.X
open Go.RowKit Go.WideMaps Go.Maps Go.ChangeMaps Go.Shelf Go.Proofs.YthdfgkbfjpadbaaW.PrintWords Go.Proofs.YthdfgkbfjpadbaaW.PrintLast Go.Proofs.Ythdfgkbfjpadbaa.GMap
set_option linter.unusedVariables false
attribute [local go_sem] Oper.semAt_some
set_option maxRecDepth 100000 in
theorem all_calls (X : Nat) (w : World) :
    Calls Try.prog 21 #[.pointer (some ⟨X, 0, none⟩)] w fun e w' => ∃ Bc, e = .returned (.func (.func 27) #[] #[.pointer (some ⟨Bc, 0, none⟩)]) ∧ w'.heap[Bc]? = some (.cells #[.pointer (some ⟨X, 0, none⟩)] 31 (0, 0)) ∧ w.heap.size ≤ Bc ∧ Below w.heap.size w w' := by
  go_enter Try.func21, Try.ntmps21
  go_wp2
  go_ret
  exact ⟨_, rfl, blk_new w _, Nat.le_refl _, below_alloc (Below.refl _ _) _⟩
theorem grown_belowE {W W' : World} (hb : Below W.heap.size W W') : W.grownBy W' none := ⟨hb.os, hb.tape, hb.output, hb.size, fun k hk _ => hb.block k hk⟩
theorem each_stops (n0 : Nat) (w0 : World) (Bn hi X nb lb Bc n : Nat) (L : List Int) (hn : 1 ≤ n) (hL : L.length ≤ 1000)
    (h1 : Bc < hi ∧ X < hi ∧ nb < hi ∧ lb < hi) (h2 : Bc ≠ Bn ∧ X ≠ Bn ∧ nb ≠ Bn ∧ lb ≠ Bn) (h3 : w0.heap.size ≤ hi ∧ w0.heap.size ≤ Bn) (hn0 : n0 ≤ w0.heap.size) (w1 : World) (hS : AllC n0 w0 X nb lb L Bc w1) (hhi : w1.heap.size = hi) :
    SeqStopsK Fence.wide n Try.prog 27 #[.pointer (some ⟨Bc, 0, none⟩)] (fun x : Int => #[.int .i64 x]) (KpO n0 Bn hi) (fun ys => ys = L) (fun pre => pre <+: L) L.length w1 := fun l J Jx W hW hJ _ hY h0 =>
  callsIn_wide.2 (each_calls n0 w0 Bn hi X nb lb Bc n l L hn J Jx W hL h1 h2 h3 hY (hS.kp ⟨hW.mono (by omega), fun k hk _ => hW.block k (by omega)⟩ h1 h2 h3) h0)
theorem row_at {n0 : Nat} {WS W : World} {X nb lb base n c : Nat} {A : Option Addr} {l : List Int} (h : Kd.R (Kd.int .i64) 3 WS base (fun k => k ≠ X ∧ k ≠ nb ∧ k ≠ lb) (.slice A n c) l) (hl : LoX n0 WS X nb lb W) : Kd.C (Kd.int .i64) W A l.length l :=
  (Kd.R_reads' (Kd.R_step h (fun k hk hlt => hl.k k hlt hk.1 hk.2.1 hk.2.2))).2.2
theorem int_at {w : World} {A : Option Addr} {l : List Int} (h : Kd.C (Kd.int .i64) w A l.length l) {t : Nat} (ht : t < l.length) : ∃ ad, A = some ad ∧ w.cell? (ad.add t) = some (.int .i64 (l.getD t 0)) := by
  obtain ⟨ad, e, hx⟩ := Kd.at_int h (t : Int) (by omega) (by omega)
  exact ⟨ad, e, hx⟩
def lkW (a b : List Int) : Nat → List Int
  | 0 => []
  | 1 => wvK (onceR a) [] (onceR a).length
  | _ => weaveR a b
theorem good_nil : Good [] (fun _ => none) (fun _ => none) := ⟨by simp, fun x => by simp [lastV], trivial⟩
theorem once_wf {l : List Int} (h : wfL l = true) {j : Nat} (hj : j < (onceR l).length) : (Lit.int .i64 ((onceR l).getD j 0)).wf = true := by
  refine wfL_mem h _ (onceR_mem.1 ?_)
  rw [List.getD_eq_getElem?_getD, List.getElem?_eq_getElem hj]
  exact List.getElem_mem _
theorem wvK_yes {l L : List Int} {i : Nat} (h : l.getD i 0 ∈ wvK l L i) : wvK l L (i + 1) = wvK l L i := by
  show (if l.getD i 0 ∈ wvK l L i then _ else _) = _
  rw [if_pos h]
theorem wvK_no {l L : List Int} {i : Nat} (h : ¬ l.getD i 0 ∈ wvK l L i) : wvK l L (i + 1) = putL (wvK l L i) (l.getD i 0) (l.getD (i - 1) 0) (decide (i = 0)) := by
  show (if l.getD i 0 ∈ wvK l L i then _ else _) = _
  rw [if_neg h]
set_option maxRecDepth 100000 in
set_option maxHeartbeats 8000000 in
theorem weave_calls (A0 : Option Addr) (c0 : Nat) (a : List Int) (A1 : Option Addr) (c1 : Nat) (b : List Int) (w : World) (hr0 : Kd.C (Kd.int .i64) w A0 a.length a) (hc0 : a.length ≤ c0) (hr1 : Kd.C (Kd.int .i64) w A1 b.length b) (hc1 : b.length ≤ c1) (hla : a.length ≤ 400) (hlb : b.length ≤ 400) (hwa : wfL a = true) (hwb : wfL b = true) :
    Calls Try.prog 13 #[.slice A0 a.length c0, .slice A1 b.length c1] w fun e w' => ∃ v, e = .returned v ∧ Kd.R (Kd.int .i64) 3 w' w.heap.size (fun _ => True) v (weaveR a b) ∧ Below w.heap.size w w' := by
  have hmm := @run_makeMap Try.prog
  refine (callsIn_wide (n := 4)).1 ?_
  have HR0 := Aside0.mk hr0
  have HR1 := Aside0.mk hr1
  clear hr0 hr1
  refine callsIn_of_wp_marks Try.func13 rfl trivial ?_ rfl
  simp only [Try.ntmps13, List.size_toArray, List.length_cons, List.length_nil, Nat.reduceAdd, Nat.reduceSub, Array.replicate_succ, Array.replicate_zero, List.push_toArray, List.append_toArray, List.nil_append, List.cons_append]
  obtain ⟨WA, hWA⟩ : ∃ WA, WA = ((w.alloc (Obj.map #[] 0)).alloc (Obj.map #[] 0)).alloc (Obj.cells #[Value.map (some w.heap.size), Value.map (some (w.heap.size + 1)), Value.int IntKind.i64 0, Value.bool false] 34) := ⟨_, rfl⟩
  have hA : Below w.heap.size w WA := by rw [hWA]; exact below_alloc (below_alloc (below_alloc (Below.refl _ _) _) _) _
  have hX : Four (w.heap.size + 1 + 1) w.heap.size (w.heap.size + 1) (.int .i64 0) (.bool false) WA := by
    rw [hWA]
    have h := blk_new ((w.alloc (Obj.map #[] 0)).alloc (Obj.map #[] 0)) (Obj.cells #[Value.map (some w.heap.size), Value.map (some (w.heap.size + 1)), Value.int IntKind.i64 0, Value.bool false] 34)
    rw [World.size_alloc, World.size_alloc] at h
    exact h
  have hmn : MapI WA w.heap.size 0 (fun _ => none) := by
    rw [hWA]; exact ((MapO.made Try.prog 3 3 encI w).alloc _).alloc _
  have hml : MapI WA (w.heap.size + 1) 0 (fun _ => none) := by
    rw [hWA]
    have h := (MapO.made Try.prog 3 3 encI (w.alloc (Obj.map #[] 0))).alloc (Obj.cells #[Value.map (some w.heap.size), Value.map (some (w.heap.size + 1)), Value.int IntKind.i64 0, Value.bool false] 34)
    rw [World.size_alloc] at h
    exact h
  have hAs : WA.heap.size = w.heap.size + 3 := by rw [hWA]; simp
  have HWA := Aside0.mk hWA
  have HXM := Aside0.mk (And.intro hX (And.intro hmn (And.intro hml hA)))
  have HAs := Aside0.mk hAs
  clear hX hmn hml hA hWA hAs
  gi_wp2_with (first
    | (refine ⟨trivial, ?_⟩; gi_at_call 11; rw [← HWA.out]; refine (callsIn_wide.2 (order_Once.calls 4000 A0 c0 a (onceR a) _ (Kd.C_below HR0.out HXM.out.2.2.2) hc0 (once_some a (by omega) (by decide)))).mono ?_; rintro e w1 ⟨v0, rfl, ho0, hb1⟩; obtain ⟨Ap, cp, rfl⟩ := Kd.R_slice ho0; have HO0 := Aside0.mk ho0; have HB1 := Aside0.mk hb1; clear ho0 hb1)
    | (refine ⟨trivial, ?_⟩; gi_at_call 11; refine (callsIn_wide.2 (order_Once.calls 4000 A1 c1 b (onceR b) _ (Kd.C_below HR1.out (HXM.out.2.2.2.trans (HB1.out.mono (by rw [HAs.out]; omega)))) hc1 (once_some b (by omega) (by decide)))).mono ?_; rintro e w2 ⟨v1, rfl, ho1, hb2⟩; obtain ⟨Aq, cq, rfl⟩ := Kd.R_slice ho1; have HO1 := Aside0.mk ho1; have HB2 := Aside0.mk hb2; clear ho1 hb2))
  obtain ⟨n0, hn0⟩ : ∃ n0, n0 = w.heap.size := ⟨_, rfl⟩
  obtain ⟨WS, hWS⟩ : ∃ WS, WS = w2.alloc (Obj.cells #[Value.slice Ap (onceR a).length cp, Value.slice Aq (onceR b).length cq] 22) := ⟨_, rfl⟩
  have b2 : Below w2.heap.size w2 WS := by rw [hWS]; exact below_alloc (Below.refl _ _) _
  have bA2 : Below WA.heap.size WA w2 := HB1.out.trans (HB2.out.mono HB1.out.size)
  have bAS : Below WA.heap.size WA WS := bA2.trans (b2.mono bA2.size)
  have HBS := Aside0.mk (HXM.out.2.2.2.trans (bAS.mono (by rw [HAs.out]; omega)))
  have hsz1 := bA2.size
  have hsz2 := HB1.out.size
  have hsz3 := b2.size
  rw [HAs.out] at hsz1 hsz2
  have hGs : w2.heap.size < WS.heap.size := by rw [hWS]; simp
  have HG := Aside0.mk (show WS.heap[w2.heap.size]? = some (.cells #[Value.slice Ap (onceR a).length cp, Value.slice Aq (onceR b).length cq] 22 (0, 0)) by rw [hWS]; exact blk_new w2 _)
  have HP0 := Aside0.mk (show Kd.R (Kd.int .i64) 3 WS WA.heap.size (fun k => k ≠ n0 + 1 + 1 ∧ k ≠ n0 ∧ k ≠ n0 + 1) (.slice Ap (onceR a).length cp) (onceR a) from
    Kd.R_below (Kd.R_below (Kd.R_mono (Kd.R_bound HO0.out) (fun k hk => by have h1 := hk.2.1; have h2 := HAs.out; omega)) HB2.out) b2)
  have HP1 := Aside0.mk (show Kd.R (Kd.int .i64) 3 WS w1.heap.size (fun k => k ≠ n0 + 1 + 1 ∧ k ≠ n0 ∧ k ≠ n0 + 1) (.slice Aq (onceR b).length cq) (onceR b) from
    Kd.R_below (Kd.R_mono (Kd.R_bound HO1.out) (fun k hk => by have h1 := hk.2.1; omega)) b2)
  have HC0 : Aside0 (ChainAt n0 WS (n0 + 1 + 1) n0 (n0 + 1) (lkW a b 0) WS) := ⟨0, 0, _, _, by
    subst hn0
    exact ⟨(bAS.block _ (lt_of_block HXM.out.1)).trans HXM.out.1, HXM.out.2.1.below bAS, HXM.out.2.2.1.below bAS, good_nil, ⟨Below.refl _ _, fun k _ _ _ _ => rfl, HBS.out.size⟩, ⟨by omega, .inl rfl⟩, ⟨by omega, .inr (.inl rfl)⟩, ⟨by omega, .inr (.inr rfl)⟩, by omega, Nat.le_refl _, Nat.le_refl _, fun y hy => by cases hy⟩⟩
  rw [← hWS, ← hn0]
  have HN0 := Aside0.mk hn0
  clear bA2 bAS b2 hWS hn0 HO0 HO1 HB1 HB2
  obtain ⟨G, hGd⟩ : ∃ G, G = w2.heap.size := ⟨_, rfl⟩
  rw [← hGd] at HG hGs
  rw [← hGd]
  have hG3 : n0 + 3 ≤ G := by rw [hGd, HN0.out]; omega
  clear hGd hsz1 hsz2 hsz3
  gi_loopw [22] (fun vi wr => ∃ i : Nat, vi = .int .i64 i ∧ i ≤ 2 ∧ Aside0 (ChainAt n0 WS (n0 + 1 + 1) n0 (n0 + 1) (lkW a b i) wr))
    (fun vi _ => 2 - (intOf vi).toNat)
  case atStart => exact ⟨0, rfl, by omega, HC0⟩
  case round =>
    clear HC0
    obtain ⟨i, rfl, hi, HC⟩ := hrel
    have h5 : i = 0 ∨ i = 1 ∨ i = 2 := by omega
    rcases h5 with rfl | rfl | rfl
    · -- list 0
      have hcc := HC.out
      obtain ⟨sn, sl, fn, fl, hc⟩ := hcc
      have hG : wr.cell? ⟨G, 0, none⟩ = some (.slice Ap (onceR a).length cp) := (blk_cell ((hc.lo.k G hGs (by omega) (by omega) (by omega)).trans HG.out) 0)
      clear hc sn sl fn fl
      have hll : (onceR a).length ≤ 400 := Nat.le_trans (onceR_len _) hla
      have hL0 : ([] : List Int).length ≤ 400 := by first | exact Nat.zero_le _ | (have h := (wvK_ok (onceR a) [] (onceR a).length (Nat.le_refl _)).2.2.1; have h2 := onceR_len a; simp at h; omega)
      gi_wp2
      gi_loopw [28] (fun vj wk => ∃ j : Nat, vj = .int .i64 j ∧ j ≤ (onceR a).length ∧ Aside0 (ChainAt n0 WS (n0 + 1 + 1) n0 (n0 + 1) (wvK (onceR a) ([] : List Int) j) wk))
        (fun vj _ => (onceR a).length - (intOf vj).toNat)
      case atStart => exact ⟨0, rfl, Nat.zero_le _, HC⟩
      case round =>
        clear HC hG
        obtain ⟨j, rfl, hj, HJ⟩ := hrel
        by_cases hlt : j < (onceR a).length
        · have hcc := HJ.out
          obtain ⟨sn, sl, fn, fl, hc⟩ := hcc
          have hCr := row_at HP0.out hc.lo
          obtain ⟨ad, eA, hx⟩ := int_at hCr hlt
          have hxwf := once_wf hwa hlt
          obtain ⟨_, _, hwl, hwc⟩ := wvK_ok (onceR a) ([] : List Int) j hj
          have hltI : (j : Int) < ((onceR a).length : Int) := by omega
          by_cases hm : (onceR a).getD j 0 ∈ wvK (onceR a) ([] : List Int) j
          · have HD := Aside0.mk (decide_eq_true hm)
            have HE := Aside0.mk (wvK_yes hm)
            clear hc sn sl fn fl hCr hm
            cases eA
            generalize (onceR a).getD j 0 = x at hx hxwf HD
            gi_wp2_with (refine ⟨trivial, ?_⟩; gi_at_call 19; refine (callsIn_wide.2 (in_calls n0 WS _ _ _ _ _ _ HJ.out hxwf)).mono ?_; rintro e w5 ⟨rfl, rfl⟩; rw [HD.out])
            go_roundw
            case rel =>
              (repeat apply Exists.intro)
              refine ⟨⟨j + 1, by go_num, by omega, ⟨by rw [HE.out]; exact HJ.out⟩⟩, rfl⟩
            case measure => simp [intOf]; omega
          · have HD := Aside0.mk (decide_eq_false hm)
            have HM := Aside0.mk hm
            have HE := Aside0.mk (wvK_no hm)
            have HWC := Aside0.mk hwc
            obtain ⟨ad2, eA2, hy⟩ := int_at (t := j - 1) hCr (by omega)
            clear hc sn sl fn fl hCr hm hwc
            cases eA
            cases eA2
            obtain ⟨x, hxd⟩ : ∃ x, x = (onceR a).getD j 0 := ⟨_, rfl⟩
            obtain ⟨y, hyd⟩ : ∃ y, y = (onceR a).getD (j - 1) 0 := ⟨_, rfl⟩
            rw [← hxd] at hx hxwf HD HM HE
            rw [← hyd] at hy HE HWC
            have HXY : Aside0 (j = 0 → y = x) := ⟨fun h0 => by rw [hyd, hxd, h0]⟩
            clear hxd hyd
            rcases Nat.eq_zero_or_pos j with hj0 | hj0
            · subst hj0
              have hx0 : wr.cell? ad = some (.int .i64 x) := hx
              have hyx := HXY.out rfl
              subst hyx
              clear hx hy HXY
              gi_wp2_with (first
                | (refine ⟨trivial, ?_⟩; gi_at_call 19; refine (callsIn_wide.2 (in_calls n0 WS _ _ _ _ _ _ HJ.out hxwf)).mono ?_; rintro e w5 ⟨rfl, rfl⟩; rw [HD.out])
                | (refine ⟨trivial, ?_⟩; gi_at_call 20; refine (callsIn_wide.2 (put_calls n0 WS _ _ _ _ _ true _ _ HJ.out hxwf HM.out (.inr (.inl rfl)) (by omega))).mono ?_; rintro e w6 ⟨rfl, hC6⟩; have HC6 := Aside0.mk hC6; clear hC6))
              go_roundw
              case rel =>
                (repeat apply Exists.intro)
                refine ⟨⟨1, by first | rfl | go_num, by omega, ⟨by rw [HE.out]; exact HC6.out⟩⟩, rfl⟩
              case measure => simp [intOf]; omega
            · obtain ⟨m, hmj⟩ : ∃ m, m = j - 1 := ⟨_, rfl⟩
              have hmx : max ((j : Int) - 1) 0 = (m : Int) := by omega
              have hmI2 : (m : Int) < ((onceR a).length : Int) := by omega
              have hm1 : ¬ (j : Int) = 0 := by omega
              have hjb : ((j : Int) == 0) = false := by simp; omega
              have hm2 : decide (j = 0) = false := decide_eq_false (by omega)
              rw [hm2] at HE HWC
              clear hmj hj0 hm2 HXY
              gi_wp2_with (first
                | (refine ⟨trivial, ?_⟩; gi_at_call 19; refine (callsIn_wide.2 (in_calls n0 WS _ _ _ _ _ _ HJ.out hxwf)).mono ?_; rintro e w5 ⟨rfl, rfl⟩; rw [HD.out])
                | (refine ⟨trivial, ?_⟩; gi_at_call 20; refine (callsIn_wide.2 (put_calls n0 WS _ _ _ _ _ false _ _ HJ.out hxwf HM.out HWC.out (by omega))).mono ?_; rintro e w6 ⟨rfl, hC6⟩; have HC6 := Aside0.mk hC6; clear hC6))
              go_roundw
              case rel =>
                (repeat apply Exists.intro)
                refine ⟨⟨j + 1, by go_num, by omega, ⟨by rw [HE.out]; exact HC6.out⟩⟩, rfl⟩
              case measure => simp [intOf]; omega
        · obtain rfl : j = (onceR a).length := by omega
          gi_wp2
          go_roundw
          case rel =>
            refine ⟨0 + 1, by first | rfl | go_num, by omega, ?_⟩
            exact HJ
          case measure => first | decide | (simp [intOf]; done) | (simp [intOf]; omega)
    · -- list 1
      have hcc := HC.out
      obtain ⟨sn, sl, fn, fl, hc⟩ := hcc
      have hG : wr.cell? ⟨G, 1, none⟩ = some (.slice Aq (onceR b).length cq) := (blk_cell ((hc.lo.k G hGs (by omega) (by omega) (by omega)).trans HG.out) 1)
      clear hc sn sl fn fl
      have hll : (onceR b).length ≤ 400 := Nat.le_trans (onceR_len _) hlb
      have hL0 : (wvK (onceR a) [] (onceR a).length).length ≤ 400 := by first | exact Nat.zero_le _ | (have h := (wvK_ok (onceR a) [] (onceR a).length (Nat.le_refl _)).2.2.1; have h2 := onceR_len a; simp at h; omega)
      gi_wp2
      gi_loopw [28] (fun vj wk => ∃ j : Nat, vj = .int .i64 j ∧ j ≤ (onceR b).length ∧ Aside0 (ChainAt n0 WS (n0 + 1 + 1) n0 (n0 + 1) (wvK (onceR b) (wvK (onceR a) [] (onceR a).length) j) wk))
        (fun vj _ => (onceR b).length - (intOf vj).toNat)
      case atStart => exact ⟨0, rfl, Nat.zero_le _, HC⟩
      case round =>
        clear HC hG
        obtain ⟨j, rfl, hj, HJ⟩ := hrel
        by_cases hlt : j < (onceR b).length
        · have hcc := HJ.out
          obtain ⟨sn, sl, fn, fl, hc⟩ := hcc
          have hCr := row_at HP1.out hc.lo
          obtain ⟨ad, eA, hx⟩ := int_at hCr hlt
          have hxwf := once_wf hwb hlt
          obtain ⟨_, _, hwl, hwc⟩ := wvK_ok (onceR b) (wvK (onceR a) [] (onceR a).length) j hj
          have hltI : (j : Int) < ((onceR b).length : Int) := by omega
          by_cases hm : (onceR b).getD j 0 ∈ wvK (onceR b) (wvK (onceR a) [] (onceR a).length) j
          · have HD := Aside0.mk (decide_eq_true hm)
            have HE := Aside0.mk (wvK_yes hm)
            clear hc sn sl fn fl hCr hm
            cases eA
            generalize (onceR b).getD j 0 = x at hx hxwf HD
            gi_wp2_with (refine ⟨trivial, ?_⟩; gi_at_call 19; refine (callsIn_wide.2 (in_calls n0 WS _ _ _ _ _ _ HJ.out hxwf)).mono ?_; rintro e w5 ⟨rfl, rfl⟩; rw [HD.out])
            go_roundw
            case rel =>
              (repeat apply Exists.intro)
              refine ⟨⟨j + 1, by go_num, by omega, ⟨by rw [HE.out]; exact HJ.out⟩⟩, rfl⟩
            case measure => simp [intOf]; omega
          · have HD := Aside0.mk (decide_eq_false hm)
            have HM := Aside0.mk hm
            have HE := Aside0.mk (wvK_no hm)
            have HWC := Aside0.mk hwc
            obtain ⟨ad2, eA2, hy⟩ := int_at (t := j - 1) hCr (by omega)
            clear hc sn sl fn fl hCr hm hwc
            cases eA
            cases eA2
            obtain ⟨x, hxd⟩ : ∃ x, x = (onceR b).getD j 0 := ⟨_, rfl⟩
            obtain ⟨y, hyd⟩ : ∃ y, y = (onceR b).getD (j - 1) 0 := ⟨_, rfl⟩
            rw [← hxd] at hx hxwf HD HM HE
            rw [← hyd] at hy HE HWC
            have HXY : Aside0 (j = 0 → y = x) := ⟨fun h0 => by rw [hyd, hxd, h0]⟩
            clear hxd hyd
            rcases Nat.eq_zero_or_pos j with hj0 | hj0
            · subst hj0
              have hx0 : wr.cell? ad = some (.int .i64 x) := hx
              have hyx := HXY.out rfl
              subst hyx
              clear hx hy HXY
              gi_wp2_with (first
                | (refine ⟨trivial, ?_⟩; gi_at_call 19; refine (callsIn_wide.2 (in_calls n0 WS _ _ _ _ _ _ HJ.out hxwf)).mono ?_; rintro e w5 ⟨rfl, rfl⟩; rw [HD.out])
                | (refine ⟨trivial, ?_⟩; gi_at_call 20; refine (callsIn_wide.2 (put_calls n0 WS _ _ _ _ _ true _ _ HJ.out hxwf HM.out (.inr (.inl rfl)) (by omega))).mono ?_; rintro e w6 ⟨rfl, hC6⟩; have HC6 := Aside0.mk hC6; clear hC6))
              go_roundw
              case rel =>
                (repeat apply Exists.intro)
                refine ⟨⟨1, by first | rfl | go_num, by omega, ⟨by rw [HE.out]; exact HC6.out⟩⟩, rfl⟩
              case measure => simp [intOf]; omega
            · obtain ⟨m, hmj⟩ : ∃ m, m = j - 1 := ⟨_, rfl⟩
              have hmx : max ((j : Int) - 1) 0 = (m : Int) := by omega
              have hmI2 : (m : Int) < ((onceR b).length : Int) := by omega
              have hm1 : ¬ (j : Int) = 0 := by omega
              have hjb : ((j : Int) == 0) = false := by simp; omega
              have hm2 : decide (j = 0) = false := decide_eq_false (by omega)
              rw [hm2] at HE HWC
              clear hmj hj0 hm2 HXY
              gi_wp2_with (first
                | (refine ⟨trivial, ?_⟩; gi_at_call 19; refine (callsIn_wide.2 (in_calls n0 WS _ _ _ _ _ _ HJ.out hxwf)).mono ?_; rintro e w5 ⟨rfl, rfl⟩; rw [HD.out])
                | (refine ⟨trivial, ?_⟩; gi_at_call 20; refine (callsIn_wide.2 (put_calls n0 WS _ _ _ _ _ false _ _ HJ.out hxwf HM.out HWC.out (by omega))).mono ?_; rintro e w6 ⟨rfl, hC6⟩; have HC6 := Aside0.mk hC6; clear hC6))
              go_roundw
              case rel =>
                (repeat apply Exists.intro)
                refine ⟨⟨j + 1, by go_num, by omega, ⟨by rw [HE.out]; exact HC6.out⟩⟩, rfl⟩
              case measure => simp [intOf]; omega
        · obtain rfl : j = (onceR b).length := by omega
          gi_wp2
          go_roundw
          case rel =>
            refine ⟨1 + 1, by first | rfl | go_num, by omega, ?_⟩
            exact HJ
          case measure => first | decide | (simp [intOf]; done) | (simp [intOf]; omega)
    · have hcc := HC.out
      obtain ⟨sn, sl, fn, fl, hc⟩ := hcc
      have HCC := Aside0.mk hc
      have hxs := lt_of_block hc.x
      have hns := hc.mn.lt
      have hls := hc.ml.lt
      have hwss := hc.lo.size
      clear hc
      gi_wp2_with (refine ⟨trivial, ?_⟩; gi_at_call 21; refine (callsIn_wide.2 (all_calls _ _)).mono ?_; rintro e w5 ⟨Bc, rfl, hBc, hge, hb5⟩)
      rw [World.size_alloc] at hge
      have hb0 : Below wr.heap.size wr (wr.alloc (.cells #[.slice none 0 0] 22)) := below_alloc (Below.refl _ _) _
      have hbr : Below wr.heap.size wr w5 := hb0.trans (hb5.mono (by simp))
      have hlo : LoX n0 WS (n0 + 1 + 1) n0 (n0 + 1) w5 := ⟨HCC.out.lo.b.trans (hbr.mono (Nat.le_trans HCC.out.lo.n hwss)), fun k hk q1 q2 q3 => (hbr.block k (by omega)).trans (HCC.out.lo.k k hk q1 q2 q3), HCC.out.lo.n⟩
      have hAC : AllC n0 WS (n0 + 1 + 1) n0 (n0 + 1) (weaveR a b) Bc w5 := ⟨hBc, sn, sl, fn, fl, HCC.out.move (hbr.block _ hxs) (hbr.block _ hns) (hbr.block _ hls) hlo⟩
      have bO : Boxed w5 wr.heap.size 22 (.slice none 0 0) := (hb5.block _ (by simp)).trans (Boxed.new wr 22 (.slice none 0 0))
      have lB : wr.heap.size < w5.heap.size := bO.lt
      have lC := lt_of_block hBc
      have hbw : Below n0 w w5 := (show Below n0 w WS from by rw [HN0.out]; exact HBS.out).trans hlo.b
      have hlen : (weaveR a b).length ≤ 1000 := by
        have h1 := (wvK_ok (onceR a) [] (onceR a).length (Nat.le_refl _)).2.2.1
        have h2 := (wvK_ok (onceR b) (wvK (onceR a) [] (onceR a).length) (onceR b).length (Nat.le_refl _)).2.2.1
        have h3 := onceR_len a
        have h4 := onceR_len b
        unfold weaveR
        simp at h1
        omega
      obtain ⟨i0, hi0, hz0, hz1, hz2⟩ := info_parts info3
      refine wpIn_rangeFunc_ownG rfl (by omega) (gf := 27) (lb := #[.pointer (some ⟨Bc, 0, none⟩)]) rfl trivial (enters_of Try.func27 (by kernel_rfl) rfl)
        (each_stops n0 WS wr.heap.size w5.heap.size _ _ _ Bc 3 (weaveR a b) (by omega) hlen ⟨lC, by omega, by omega, by omega⟩ ⟨by omega, by omega, by omega, by omega⟩ ⟨by omega, hwss⟩ HCC.out.lo.n w5 hAC rfl)
        (fun {A B C} h k => h.trans k)
        (fun W l o o' hl h1 h2 h3 => KpO.put (w := w5) (by have := HCC.out.lo.n; omega) (Nat.le_refl _) W l o o' hl h1 h2 h3)
        (Below.refl _ _) (fun _ => rfl)
        (fun pre W => (∃ v, Boxed W wr.heap.size 22 v ∧ W.ownsRow w5.heap.size 3 1 v pre.length (pre.map (Value.int .i64)) ∧ True) ∧ Below n0 w W ∧ w5.heap.size ≤ W.heap.size)
        (fun _ _ _ => False)
        (OwnFrom.and (Own.from (holdsRow_own w5.heap.size wr.heap.size 22 3 1 (fun pre : List Int => pre.length) (fun pre => pre.map (Value.int .i64)) (fun _ _ => True)) _) (OwnFrom.and (ownFrom_below (by rw [← HN0.out]; exact Nat.le_refl _) (by have := HCC.out.lo.n; omega)) (fun s A B row hs hg hr => Nat.le_trans hs hg.size)))
        (fun _ _ _ _ _ hs _ _ => hs)
        ⟨⟨_, bO, World.ownsRow_nil _ _ _ _, trivial⟩, hbw, Nat.le_refl _⟩
        (fun x : Int => { tmps := #[.slice A0 a.length c0, .slice A1 b.length c1, undef, undef, .slice none 0 0, .pointer (some ⟨n0 + 1 + 1, 0, none⟩), undef, u7, u8, u9, .pointer (some ⟨wr.heap.size, 0, none⟩), .int .i64 x, .map (some n0), .map (some (n0 + 1)), .agg #[.map (some n0), .map (some (n0 + 1)), .int .i64 0, .bool false], .pointer (some ⟨n0 + 1 + 1, 0, none⟩), .slice A0 a.length c0, .slice Ap (onceR a).length cp, .slice A1 b.length c1, .slice Aq (onceR b).length cq, .slice (some ⟨G, 0, none⟩) 2 2, .int .i64 2, .int .i64 2, .bool false, u24, u25, u26, u27, u28, u29, u30, u31, u32, u33, u34, u35, u36, u37, u38, u39, u40, u41, u42, u43, u44, u45, u46, u47, u48, u49, .pointer (some ⟨n0 + 1 + 1, 0, none⟩), .func (.func 27) #[] #[.pointer (some ⟨Bc, 0, none⟩)], .int .i64 x, undef, undef, undef, undef, undef], defers := [] }) ?assign ?body ?done ?stop
      case assign =>
        intro l x W K hK
        gi_wp2
        exact hK
      case body =>
        rintro l pre x W ⟨⟨v, hv, hrow, _⟩, hB, hsz⟩ hlt
        have hc := hv.cell
        have hmx : 1001 ≤ maxLen := by decide
        have hmy : pre.length + 1 ≤ maxLen := by omega
        gi_wp2_with (gi_at_builtin; refine wpListIn_append_own _ rfl _ _ 22 rfl w5.heap.size 3 i0 (.int .i64 0) 1 8 Try.underlying22 hi0 hz0 hz1 hz2 rfl (by decide) _ _ _ rfl (hrow.alloc _) ⟨W.heap.size, 0, none⟩ 1 1 [.int .i64 x] rfl rfl (cell_one_new _ _ _) (by simp [Value.oneCell']) hmy (by omega) (by simp; omega) ?_; intro v' w6 hown' hgrow _; obtain ⟨g', cap', rfl⟩ := ownsRow_succ hown'; obtain ⟨hv1, hv2, hr2, hk2, hb2⟩ := hv.appended (by decide) (Go.Proofs.YthdfgkbfjpadbaaW.PrintWords.own_weaken hrow (Nat.le_of_lt lB)) (Nat.le_trans (Nat.le_of_lt lB) hsz) (Nat.le_refl _) (Go.Proofs.YthdfgkbfjpadbaaW.PrintWords.own_weaken hown' (Nat.le_of_lt lB)) hgrow; have hc1 := hv1.cell; have hf1 := hv1.frozen)
        have hne : ∀ j, j < w5.heap.size → some j ≠ v.ownBlock := fun j hj e => by have := Go.Proofs.YthdfgkbfjpadbaaW.PrintWords.own_base hrow j e.symm; omega
        have hr3 := hown'.kept (grownBy_setCell' w6 wr.heap.size (.slice (some ⟨g', 0, none⟩) (pre.length + 1) cap')) (.inr (hv1.not_row (by decide) hown').symm)
        have hnw : n0 ≤ wr.heap.size := Nat.le_trans HCC.out.lo.n hwss
        refine ⟨hk2.from _, ⟨hb2.mono hnw, fun j j1 j2 => ?_⟩, ⟨_, hv2, ?_, trivial⟩, hB.trans (hb2.mono hnw), Nat.le_trans hsz hb2.size⟩
        · rw [Below.heap_setCell _ _ _ _ (by show j ≠ wr.heap.size; omega)]
          exact (hgrow.block j (by simp; omega) (hne j j1)).trans (Below.heap_alloc _ _ _ (by omega))
        · rw [List.map_append, List.length_append]; exact hr3
      case done =>
        rintro D ys W hD rfl ⟨⟨v, hv, hrow, _⟩, hB, hsz⟩ hK
        have hc := hv.cell
        gi_wp2
        refine ⟨by simp, .inl ⟨_, _, rfl, run_takeDeferred hK, ?_⟩⟩
        refine ⟨_, results_tmp rfl _ _ _, v, rfl, ?_, ?_⟩
        · have h3 : n0 ≤ w5.heap.size := by have := HCC.out.lo.n; omega
          refine Kd.R_of_own (Go.Proofs.YthdfgkbfjpadbaaW.PrintWords.own_weaken (ownsRow_putObj hrow _ hK rfl) (by rw [← HN0.out]; exact h3)) (fun _ _ => trivial)
        · have h9 := hB
          rw [HN0.out] at h9
          exact h9.trans (belowK_b (w := w) (Nat.le_refl _) W D _ _ (by have := hbw.size; omega) hK rfl rfl)
      case stop =>
        rintro D c pre W _ _ h _
        exact h.elim
theorem order_Weave.calls (A0 : Option Addr) (c0 : Nat) (l0 : List Int) (A1 : Option Addr) (c1 : Nat) (l1 : List Int) (r : List Int) (w : World) (hr0 : Kd.C (Kd.int .i64) w A0 l0.length l0) (hc0 : l0.length ≤ c0) (hr1 : Kd.C (Kd.int .i64) w A1 l1.length l1) (hc1 : l1.length ≤ c1) (h : order_Weave.f l0 l1 = some r) :
    Calls Try.prog 13 #[.slice A0 l0.length c0, .slice A1 l1.length c1] w fun e w' => ∃ v0_ : Value, e = .returned (v0_) ∧ Kd.R (Kd.int .i64) 3 w' w.heap.size (fun _ => True) v0_ r ∧ Below w.heap.size w w' := by
  unfold order_Weave.f at h
  split at h
  · rename_i hok
    obtain rfl := Option.some.inj h
    exact weave_calls A0 c0 l0 A1 c1 l1 w hr0 hc0 hr1 hc1 hok.1 hok.2.1 hok.2.2.1 hok.2.2.2
  · exact nomatch h
end Go.Proofs.Ythdfgkbfjpadbaa.X
