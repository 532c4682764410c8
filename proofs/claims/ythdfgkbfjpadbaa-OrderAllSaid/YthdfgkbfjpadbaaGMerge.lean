/- order.Merge, walked. -/
import Derived.Lib.OwnBridge
import Derived.Test.YthdfgkbfjpadbaaGDel
import Derived.Test.YthdfgkbfjpadbaaGWeave
namespace Go.Proofs.Ythdfgkbfjpadbaa.X
open Go.RowKit Go.WideMaps Go.Maps Go.ChangeMaps Go.Shelf Go.Proofs.YthdfgkbfjpadbaaW.PrintWords Go.Proofs.YthdfgkbfjpadbaaW.PrintLast Go.Proofs.Ythdfgkbfjpadbaa.GMap
set_option linter.unusedVariables false
set_option maxRecDepth 100000 in
theorem merge1_calls (A : Option Addr) (c : Nat) (out : List Int) (x : Int) (B : Nat) (W : World) (hB : W.heap[B]? = some (.cells #[.slice A out.length c] 22 (0, 0))) (hr : Kd.C (Kd.int .i64) W A out.length out) (hc : out.length ≤ c) (hl : out.length ≤ 1000) :
    Calls Try.prog 25 #[.int .i64 x, .pointer (some ⟨B, 0, none⟩)] W fun e w' => e = .returned (.bool (decide (x ∈ out))) ∧ Drawn0 W w' := by
  have h0 := blk_cell hB 0
  have f0 := blk_frozen hB 0
  have HR := Aside0.mk hr
  obtain ⟨q, hq⟩ : ∃ q, Aside0 (decide (x ∈ out) = q) := ⟨_, ⟨rfl⟩⟩
  have HC := Aside0.mk (contains_some out x (by omega) (k := 2000) (by omega))
  rw [hq.out] at HC ⊢
  clear hB hr
  go_enter Try.func25, Try.ntmps25
  go_wp2_with (go_at_call 18; refine (slices_Contains_int_int.calls 2000 A c out x q _ HR.out hc HC.out).mono ?_; rintro e w1 ⟨rfl, hd⟩; have HD := Aside0.mk hd; clear hd)
  go_ret
  exact ⟨rfl, HD.out⟩
theorem drawn_trans {W W1 W2 : World} (h : Drawn0 W W1) (k : Drawn0 W1 W2) : Drawn0 W W2 := by
  obtain ⟨a, rfl⟩ := h
  obtain ⟨b, rfl⟩ := k
  exact ⟨a + b, by rw [World.drewN_drewN]⟩
/-- What comes first that is out. -/
def FirstOut (l out : List Int) (i : Int) : Prop := (i = -1 ∧ ∀ j, j < l.length → l.getD j 0 ∉ out) ∨ ∃ j : Nat, i = j ∧ j < l.length ∧ l.getD j 0 ∈ out ∧ ∀ m, m < j → l.getD m 0 ∉ out
set_option maxRecDepth 100000 in
set_option maxHeartbeats 800000 in
theorem idxF_calls (Al : Option Addr) (cl : Nat) (l : List Int) (A : Option Addr) (c : Nat) (out : List Int) (B : Nat) (W : World) (hB : W.heap[B]? = some (.cells #[.slice A out.length c] 22 (0, 0))) (hr : Kd.C (Kd.int .i64) W A out.length out) (hc : out.length ≤ c) (hl : out.length ≤ 1000) (hrl : Kd.C (Kd.int .i64) W Al l.length l) (hll : l.length ≤ 1000) :
    Calls Try.prog 28 #[.slice Al l.length cl, .func (.func 25) #[] #[.pointer (some ⟨B, 0, none⟩)]] W fun e w' => (∃ i, e = .returned (.int .i64 i) ∧ FirstOut l out i) ∧ Drawn0 W w' := by
  have HR := Aside0.mk (And.intro hB (And.intro hr hrl))
  clear hB hr hrl
  go_enter Try.func28, Try.ntmps28
  go_wp2
  go_loopw [8] (fun vi wr => ∃ i : Nat, vi = .int .i64 i ∧ i ≤ l.length ∧ Aside0 (∀ m, m < i → l.getD m 0 ∉ out) ∧ Aside0 (Drawn0 W wr))
    (fun vi _ => l.length - (intOf vi).toNat)
  case atStart => exact ⟨0, rfl, Nat.zero_le _, ⟨fun m hm => by omega⟩, ⟨0, rfl⟩⟩
  case round =>
    obtain ⟨i, rfl, hi, HN, HD⟩ := hrel
    obtain ⟨nd, rfl⟩ := HD.out
    by_cases hlt : i < l.length
    · obtain ⟨ad, eA, hx⟩ := int_at (Kd.C_drewN HR.out.2.2 nd) hlt
      cases eA
      have hltI : (i : Int) < (l.length : Int) := by omega
      obtain ⟨x, hxd⟩ : ∃ x, x = l.getD i 0 := ⟨_, rfl⟩
      rw [← hxd] at hx
      have HX := Aside0.mk hxd
      clear hxd
      have HK := Aside0.mk (merge1_calls A c out x B (W.drewN nd) HR.out.1 (Kd.C_drewN HR.out.2.1 nd) hc hl)
      by_cases hm : x ∈ out
      · have HM := Aside0.mk hm
        have HDT := Aside0.mk (decide_eq_true hm)
        clear hm
        go_wp2_with (go_at_call 25; refine HK.out.mono ?_; rintro e w1 ⟨rfl, hd⟩; rw [HDT.out]; have HD1 := Aside0.mk hd; clear hd)
        go_ret
        exact ⟨⟨(i : Int), rfl, .inr ⟨i, rfl, hlt, by rw [← HX.out]; exact HM.out, HN.out⟩⟩, drawn_trans ⟨nd, rfl⟩ HD1.out⟩
      · have HM := Aside0.mk hm
        have HDF := Aside0.mk (decide_eq_false hm)
        clear hm
        go_wp2_with (go_at_call 25; refine HK.out.mono ?_; rintro e w1 ⟨rfl, hd⟩; rw [HDF.out]; have HD1 := Aside0.mk hd; clear hd)
        go_roundw
        case rel =>
          refine ⟨i + 1, by go_num, by omega, ⟨fun m hm => ?_⟩, ⟨drawn_trans ⟨nd, rfl⟩ HD1.out⟩⟩
          rcases Nat.lt_or_ge m i with h | h
          · exact HN.out m h
          · obtain rfl : m = i := by omega
            rw [← HX.out]; exact HM.out
        case measure => simp [intOf]; omega
    · obtain rfl : i = l.length := by omega
      go_wp2
      go_ret
      exact ⟨⟨-1, rfl, .inl ⟨rfl, HN.out⟩⟩, nd, rfl⟩
theorem below_grow {B : Nat} {w0 w : World} (h : Below B w0 w) (os : Array Obj) (hB : B ≤ w.heap.size) : Below B w0 (Go.Sort.grow w os) :=
  ⟨h.os, h.tape, h.output, Nat.le_trans h.size (by show w.heap.size ≤ (w.heap ++ os).size; rw [Array.size_append]; omega), fun j hj => (Go.Sort.heap_grow_old w os (Nat.lt_of_lt_of_le hj hB)).trans (h.block j hj)⟩
/-- What is not out. -/
def keptR (l out : List Int) : List Int := l.filter fun x => !decide (x ∈ out)
set_option maxRecDepth 100000 in
set_option maxHeartbeats 800000 in
theorem del_nil (A : Option Addr) (c : Nat) (out : List Int) (B : Nat) (W : World) (hB : W.heap[B]? = some (.cells #[.slice A out.length c] 22 (0, 0))) (hr : Kd.C (Kd.int .i64) W A out.length out) (hc : out.length ≤ c) (hl : out.length ≤ 1000) :
    Calls Try.prog 24 #[.slice none 0 0, .func (.func 25) #[] #[.pointer (some ⟨B, 0, none⟩)]] W fun e w' => e = .returned (.slice none 0 0) ∧ Drawn0 W w' := by
  have HI := Aside0.mk (idxF_calls none 0 [] A c out B W hB hr hc hl (Kd.C_nil _ _) (by simp))
  clear hB hr
  go_enter Try.func24, Try.ntmps24
  go_wp2_with (go_at_call 28; refine HI.out.mono ?_; rintro e w1 ⟨⟨i, rfl, hf⟩, hd⟩; have hi : i = -1 := (by rcases hf with ⟨e, _⟩ | ⟨j, _, h, _⟩; exact e; exact absurd h (by simp)); subst hi; have HD := Aside0.mk hd; clear hf hd)
  go_ret
  exact ⟨rfl, HD.out⟩
theorem del_calls (v : Value) (l : List Int) (A : Option Addr) (c : Nat) (out : List Int) (B : Nat) (w0 W : World) (hB : w0.heap[B]? = some (.cells #[.slice A out.length c] 22 (0, 0))) (hr : Kd.C (Kd.int .i64) w0 A out.length out) (hc : out.length ≤ c) (hl : out.length ≤ 1000) (hb : Below w0.heap.size w0 W) (hv : Kd.R (Kd.int .i64) 3 W w0.heap.size (fun _ => True) v l) :
    Calls Try.prog 24 #[v, .func (.func 25) #[] #[.pointer (some ⟨B, 0, none⟩)]] W fun e w' => ∃ v', e = .returned v' ∧ Kd.R (Kd.int .i64) 3 w' w0.heap.size (fun _ => True) v' (keptR l out) ∧ Below w0.heap.size w0 w' := by
  have ho : W.ownsRow w0.heap.size 3 1 v l.length (l.map (Value.int .i64)) := Kd.own_of_R hv
  have hcl : ∀ W', Below w0.heap.size w0 W' → W'.heap[B]? = some (.cells #[.slice A out.length c] 22 (0, 0)) := fun W' h => (h.block _ (lt_of_block hB)).trans hB
  have hm : ∀ W' x, Below w0.heap.size w0 W' → FnGives Try.prog 25 #[.pointer (some ⟨B, 0, none⟩)] #[Value.int .i64 x] (.bool (decide (x ∈ out))) W' := fun W' x h =>
    (merge1_calls A c out x B W' (hcl W' h) (Kd.C_below hr h) hc hl).mono (fun e w' ⟨h1, h2⟩ => ⟨h1, h2.out⟩)
  by_cases hn : v = .slice none 0 0
  · subst hn
    have hl0 : l.length = 0 := by
      rcases ho.2 with ⟨_, h⟩ | ⟨g, cap, cur, h, _⟩
      · exact h
      · cases h
    obtain rfl : l = [] := List.length_eq_zero_iff.1 hl0
    refine (del_nil A c out B W (hcl W hb) (Kd.C_below hr hb) hc hl).mono ?_
    rintro e w' ⟨rfl, hd⟩
    exact ⟨_, rfl, Kd.R_nil _ _ _ _ _, hb.trans (hd.below.mono hb.size)⟩
  · obtain ⟨g, cap, rfl, hbg, hgl, hnc, hcm, _, hH⟩ := Go.Lib.holds_of_ownsRow (enc := Value.int .i64) ho hn
    have hlen : l.toArray.size = l.length := by simp
    have hmx : maxLen ≤ 9223372036854775807 := by decide
    have hcall := AnyE.slices_DeleteFunc Try.delF (Value.int .i64) (fun _ => rfl) (fun x => decide (x ∈ out)) 25 #[.pointer (some ⟨B, 0, none⟩)] (enters_of Try.func25 (by kernel_rfl) rfl) 0 Try.zeroValue3 g 0 cap l.toArray W
      (fun W' x h => hm W' x (hb.trans (h.mono hb.size)))
      (fun n os dk x _ => hm _ x (below_grow (Go.Lib.below_putRow hb hbg) os (by show _ ≤ (Go.Sort.putRow _ _ _ _ _).heap.size; exact (Go.Lib.below_putRow hb hbg (q := n)).size)))
      hH (by rw [hlen]; omega) (by rw [hlen]; exact hnc)
    rw [hlen] at hcall
    refine Calls.mono hcall ?_
    rintro e w' ⟨rfl, q, rfl⟩
    have hk : (l.toArray.toList.filter fun x => !decide (x ∈ out)) = keptR l out := rfl
    rw [hk]
    have hkl : (keptR l out).length ≤ l.length := List.length_filter_le _ _
    refine ⟨_, rfl, ?_, Go.Lib.below_putRow hb hbg⟩
    have := Go.Lib.ownsRow_putRow (q := q) (k := (keptR l out).length) ho (ys := keptR l out ++ List.replicate (l.length - (keptR l out).length) 0) (by simp; omega) hkl
    rw [List.take_left] at this
    exact Kd.R_of_own this (fun _ _ => trivial)
theorem equal_l0 (a b : List Int) (hl : a.length = b.length) (hm : a.length ≤ 1000) : ∀ (d k i : Nat), i + d = a.length → d < k → slices_Equal_int_int.l0 k a b (a.length : Int) (i : Nat) = some (decide (a.drop i = b.drop i)) := by
  intro d
  induction d with
  | zero =>
    intro k i hi hk
    obtain ⟨k, rfl⟩ : ∃ m, k = m + 1 := ⟨k - 1, by omega⟩
    simp only [slices_Equal_int_int.l0]
    rw [if_neg (by omega), List.drop_eq_nil_of_le (by omega), List.drop_eq_nil_of_le (by omega)]; rfl
  | succ d ih =>
    intro k i hi hk
    obtain ⟨k, rfl⟩ : ∃ m, k = m + 1 := ⟨k - 1, by omega⟩
    simp only [slices_Equal_int_int.l0]
    rw [if_pos (by omega), if_pos (by omega), if_pos (by omega), if_pos (by omega), wrap_upI _ (by omega), List.drop_eq_getElem_cons (show i < a.length by omega), List.drop_eq_getElem_cons (show i < b.length by omega), rd_at (by omega), rd_at (by omega)]
    by_cases e : a[i] = b[i]
    · rw [if_pos e, ih k (i + 1) (by omega) (by omega)]
      congr 1
      exact decide_eq_decide.2 ⟨fun h => by rw [e, h], fun h => (List.cons.inj h).2⟩
    · rw [if_neg e]
      congr 1
      exact (decide_eq_false (fun h => e (List.cons.inj h).1)).symm
theorem equal_some (a b : List Int) (hm : a.length ≤ 1000) {k : Nat} (hk : 2000 ≤ k) : slices_Equal_int_int.f k a b = some (decide (a = b)) := by
  unfold slices_Equal_int_int.f
  by_cases h : a.length = b.length
  · rw [if_pos (by omega)]
    have := equal_l0 a b h hm a.length k 0 (by omega) (by omega)
    rw [List.drop_zero, List.drop_zero] at this
    exact this
  · rw [if_neg (by omega)]
    congr 1
    exact (decide_eq_false (fun e => h (by rw [e]))).symm
theorem weave_some {a b : List Int} (h1 : a.length ≤ 400) (h2 : b.length ≤ 400) (h3 : wfL a = true) (h4 : wfL b = true) : order_Weave.f a b = some (weaveR a b) := if_pos ⟨h1, h2, h3, h4⟩
def mergeR (o a b out : List Int) : List Int := keptR (if onceR a = onceR o then weaveR b a else weaveR a b) out
def order_Merge.f (l0 l1 l2 l3 : List Int) : Option (List Int) := if (l0.length ≤ 400 ∧ l1.length ≤ 400 ∧ l2.length ≤ 400 ∧ l3.length ≤ 1000) ∧ wfL l1 = true ∧ wfL l2 = true then some (mergeR l0 l1 l2 l3) else none
set_option maxRecDepth 100000 in
set_option maxHeartbeats 1600000 in
theorem merge_calls (A0 : Option Addr) (c0 : Nat) (l0 : List Int) (A1 : Option Addr) (c1 : Nat) (l1 : List Int) (A2 : Option Addr) (c2 : Nat) (l2 : List Int) (A3 : Option Addr) (c3 : Nat) (l3 : List Int) (w : World)
    (hr0 : Kd.C (Kd.int .i64) w A0 l0.length l0) (hc0 : l0.length ≤ c0) (hr1 : Kd.C (Kd.int .i64) w A1 l1.length l1) (hc1 : l1.length ≤ c1) (hr2 : Kd.C (Kd.int .i64) w A2 l2.length l2) (hc2 : l2.length ≤ c2) (hr3 : Kd.C (Kd.int .i64) w A3 l3.length l3) (hc3 : l3.length ≤ c3)
    (h0 : l0.length ≤ 400) (h1 : l1.length ≤ 400) (h2 : l2.length ≤ 400) (h3 : l3.length ≤ 1000) (hw1 : wfL l1 = true) (hw2 : wfL l2 = true) :
    Calls Try.prog 15 #[.slice A0 l0.length c0, .slice A1 l1.length c1, .slice A2 l2.length c2, .slice A3 l3.length c3] w fun e w' => ∃ v0_ : Value, e = .returned (v0_) ∧ Kd.R (Kd.int .i64) 3 w' w.heap.size (fun _ => True) v0_ (mergeR l0 l1 l2 l3) ∧ Below w.heap.size w w' := by
  obtain ⟨wA, hwA⟩ : ∃ wA, wA = w.alloc (.cells #[.slice A3 l3.length c3] 22) := ⟨_, rfl⟩
  have bA : Below w.heap.size w wA := by rw [hwA]; exact below_alloc (Below.refl _ _) _
  have hBx : wA.heap[w.heap.size]? = some (.cells #[.slice A3 l3.length c3] 22 (0, 0)) := by rw [hwA]; exact blk_new w _
  have HR0 := Aside0.mk (Kd.C_below hr0 bA)
  have HR1 := Aside0.mk (Kd.C_below hr1 bA)
  have HR2 := Aside0.mk (Kd.C_below hr2 bA)
  have HR3 := Aside0.mk (Kd.C_below hr3 bA)
  have HBX := Aside0.mk hBx
  have HBA := Aside0.mk bA
  have H0 := Aside0.mk h0
  have H1 := Aside0.mk h1
  have H2 := Aside0.mk h2
  have H3 := Aside0.mk h3
  have HW1 := Aside0.mk hw1
  have HW2 := Aside0.mk hw2
  have HLo := Aside0.mk (onceR_len l1)
  have hfin : ∀ (v : Value) (W : World), Kd.R (Kd.int .i64) 3 W wA.heap.size (fun _ => True) v (mergeR l0 l1 l2 l3) → Below wA.heap.size wA W → ∃ v0_ : Value, (Ending.returned v : Ending) = .returned (v0_) ∧ Kd.R (Kd.int .i64) 3 W w.heap.size (fun _ => True) v0_ (mergeR l0 l1 l2 l3) ∧ Below w.heap.size w W := fun v W hv hb =>
    ⟨v, rfl, Kd.R_of_own (Go.Proofs.YthdfgkbfjpadbaaW.PrintWords.own_weaken (Kd.own_of_R hv) bA.size) (fun _ _ => trivial), bA.trans (hb.mono bA.size)⟩
  have HF := Aside0.mk hfin
  clear hr0 hr1 hr2 hr3 hBx bA h0 h1 h2 h3 hw1 hw2 hfin
  have HWA := Aside0.mk hwA
  clear hwA
  by_cases hs : onceR l1 = onceR l0
  all_goals
    have HS := Aside0.mk hs
    have HE := Aside0.mk (equal_some (onceR l1) (onceR l0) (by have := HLo.out; have := H1.out; omega) (k := 2000) (by omega))
  · have hd := HE.out
    rw [decide_eq_true hs] at hd
    have HD := Aside0.mk hd
    have HM := Aside0.mk (show keptR (weaveR l2 l1) l3 = mergeR l0 l1 l2 l3 by unfold mergeR; rw [if_pos hs])
    clear hs hd HE HS
    go_enter Try.func15, Try.ntmps15
    go_wp2_with (first
      | (go_at_call 11; rw [← HWA.out]; refine (order_Once.calls 4000 A1 c1 l1 (onceR l1) _ HR1.out hc1 (once_some l1 (by have := H1.out; omega) (by decide))).mono ?_; rintro e w1 ⟨v1, rfl, ho1, hb1⟩; obtain ⟨Ap, cp, rfl⟩ := Kd.R_slice ho1; have HO1 := Aside0.mk ho1; have HB1 := Aside0.mk hb1; clear ho1 hb1)
      | (go_at_call 11; refine (order_Once.calls 4000 A0 c0 l0 (onceR l0) _ (Kd.C_below HR0.out HB1.out) hc0 (once_some l0 (by have := H0.out; omega) (by decide))).mono ?_; rintro e w2 ⟨v2, rfl, ho2, hb2⟩; obtain ⟨Aq, cq, rfl⟩ := Kd.R_slice ho2; have HO2 := Aside0.mk ho2; have HB2 := Aside0.mk (HB1.out.trans (hb2.mono HB1.out.size)); have HO1b := Aside0.mk (Kd.R_below HO1.out hb2); clear ho2 hb2)
      | (go_at_call 23; refine (slices_Equal_int_int.calls 2000 Ap cp (onceR l1) Aq cq (onceR l0) _ _ (Kd.R_reads' HO1b.out).2.2 (Kd.R_reads' HO1b.out).2.1 (Kd.R_reads' HO2.out).2.2 (Kd.R_reads' HO2.out).2.1 HD.out).mono ?_; rintro e w3 ⟨rfl, hd3⟩; have HB3 := Aside0.mk (HB2.out.trans (hd3.below.mono HB2.out.size)); clear hd3)
      | (go_at_call 13; refine (order_Weave.calls A2 c2 l2 A1 c1 l1 (weaveR l2 l1) _ (Kd.C_below HR2.out HB3.out) hc2 (Kd.C_below HR1.out HB3.out) hc1 (weave_some H2.out H1.out HW2.out HW1.out)).mono ?_; rintro e w4 ⟨v4, rfl, ho4, hb4⟩; obtain ⟨Aw, cw, rfl⟩ := Kd.R_slice ho4; have HB4 := Aside0.mk (HB3.out.trans (hb4.mono HB3.out.size)); have HO4 := Aside0.mk (Kd.R_lower ho4 HB3.out.size); clear ho4 hb4)
      | (go_at_call 24; refine (del_calls _ (weaveR l2 l1) A3 c3 l3 w.heap.size wA _ HBX.out HR3.out hc3 H3.out HB4.out HO4.out).mono ?_; rintro e w5 ⟨v5, rfl, ho5, hb5⟩; rw [HM.out] at ho5; have HO5 := Aside0.mk ho5; have HB5 := Aside0.mk hb5; clear ho5 hb5))
    go_ret
    exact HF.out _ _ HO5.out HB5.out
  · have hd := HE.out
    rw [decide_eq_false hs] at hd
    have HD := Aside0.mk hd
    have HM := Aside0.mk (show keptR (weaveR l1 l2) l3 = mergeR l0 l1 l2 l3 by unfold mergeR; rw [if_neg hs])
    clear hs hd HE HS
    go_enter Try.func15, Try.ntmps15
    go_wp2_with (first
      | (go_at_call 11; rw [← HWA.out]; refine (order_Once.calls 4000 A1 c1 l1 (onceR l1) _ HR1.out hc1 (once_some l1 (by have := H1.out; omega) (by decide))).mono ?_; rintro e w1 ⟨v1, rfl, ho1, hb1⟩; obtain ⟨Ap, cp, rfl⟩ := Kd.R_slice ho1; have HO1 := Aside0.mk ho1; have HB1 := Aside0.mk hb1; clear ho1 hb1)
      | (go_at_call 11; refine (order_Once.calls 4000 A0 c0 l0 (onceR l0) _ (Kd.C_below HR0.out HB1.out) hc0 (once_some l0 (by have := H0.out; omega) (by decide))).mono ?_; rintro e w2 ⟨v2, rfl, ho2, hb2⟩; obtain ⟨Aq, cq, rfl⟩ := Kd.R_slice ho2; have HO2 := Aside0.mk ho2; have HB2 := Aside0.mk (HB1.out.trans (hb2.mono HB1.out.size)); have HO1b := Aside0.mk (Kd.R_below HO1.out hb2); clear ho2 hb2)
      | (go_at_call 23; refine (slices_Equal_int_int.calls 2000 Ap cp (onceR l1) Aq cq (onceR l0) _ _ (Kd.R_reads' HO1b.out).2.2 (Kd.R_reads' HO1b.out).2.1 (Kd.R_reads' HO2.out).2.2 (Kd.R_reads' HO2.out).2.1 HD.out).mono ?_; rintro e w3 ⟨rfl, hd3⟩; have HB3 := Aside0.mk (HB2.out.trans (hd3.below.mono HB2.out.size)); clear hd3)
      | (go_at_call 13; refine (order_Weave.calls A1 c1 l1 A2 c2 l2 (weaveR l1 l2) _ (Kd.C_below HR1.out HB3.out) hc1 (Kd.C_below HR2.out HB3.out) hc2 (weave_some H1.out H2.out HW1.out HW2.out)).mono ?_; rintro e w4 ⟨v4, rfl, ho4, hb4⟩; obtain ⟨Aw, cw, rfl⟩ := Kd.R_slice ho4; have HB4 := Aside0.mk (HB3.out.trans (hb4.mono HB3.out.size)); have HO4 := Aside0.mk (Kd.R_lower ho4 HB3.out.size); clear ho4 hb4)
      | (go_at_call 24; refine (del_calls _ (weaveR l1 l2) A3 c3 l3 w.heap.size wA _ HBX.out HR3.out hc3 H3.out HB4.out HO4.out).mono ?_; rintro e w5 ⟨v5, rfl, ho5, hb5⟩; rw [HM.out] at ho5; have HO5 := Aside0.mk ho5; have HB5 := Aside0.mk hb5; clear ho5 hb5))
    go_ret
    exact HF.out _ _ HO5.out HB5.out
theorem order_Merge.calls (A0 : Option Addr) (c0 : Nat) (l0 : List Int) (A1 : Option Addr) (c1 : Nat) (l1 : List Int) (A2 : Option Addr) (c2 : Nat) (l2 : List Int) (A3 : Option Addr) (c3 : Nat) (l3 : List Int) (r : List Int) (w : World) (hr0 : Kd.C (Kd.int .i64) w A0 l0.length l0) (hc0 : l0.length ≤ c0) (hr1 : Kd.C (Kd.int .i64) w A1 l1.length l1) (hc1 : l1.length ≤ c1) (hr2 : Kd.C (Kd.int .i64) w A2 l2.length l2) (hc2 : l2.length ≤ c2) (hr3 : Kd.C (Kd.int .i64) w A3 l3.length l3) (hc3 : l3.length ≤ c3) (h : order_Merge.f l0 l1 l2 l3 = some r) :
    Calls Try.prog 15 #[.slice A0 l0.length c0, .slice A1 l1.length c1, .slice A2 l2.length c2, .slice A3 l3.length c3] w fun e w' => ∃ v0_ : Value, e = .returned (v0_) ∧ Kd.R (Kd.int .i64) 3 w' w.heap.size (fun _ => True) v0_ r ∧ Below w.heap.size w w' := by
  unfold order_Merge.f at h
  split at h
  · rename_i hok
    obtain rfl := Option.some.inj h
    exact merge_calls A0 c0 l0 A1 c1 l1 A2 c2 l2 A3 c3 l3 w hr0 hc0 hr1 hc1 hr2 hc2 hr3 hc3 hok.1.1 hok.1.2.1 hok.1.2.2.1 hok.1.2.2.2 hok.2.1 hok.2.2
  · exact nomatch h
end Go.Proofs.Ythdfgkbfjpadbaa.X
