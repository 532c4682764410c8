/- table.Same. -/
import Derived.Test.YtbcpaojciephmaaGCheck0
namespace Go.Proofs.Ytbcpaojciephmaa.X
open Go.RowKit Go.Maps Go.Shelf Go.Proofs.YtbcpaojciephmaaW.PrintWords Go.Proofs.YtbcpaojciephmaaW.PrintLast
set_option linter.unusedVariables false

theorem rd_eq {a b : List ByteArray} (hl : a.length = b.length) (h : ∀ j, j < a.length → rdOf ByteArray.empty a (j : Int) = rdOf ByteArray.empty b (j : Int)) : a = b := by
  refine List.ext_getElem hl fun i h1 h2 => ?_
  have := h i h1
  unfold rdOf at this
  rw [show ((i : Int)).toNat = i from rfl, List.getD_eq_getElem?_getD, List.getD_eq_getElem?_getD, List.getElem?_eq_getElem h1, List.getElem?_eq_getElem h2] at this
  exact this
theorem str_eq {x y : ByteArray} : x.toList = y.toList ↔ x = y := by
  rw [ByteArray.toList_eq, ByteArray.toList_eq]
  exact ⟨fun h => ByteArray.ext (Array.toList_inj.mp h), fun h => by rw [h]⟩
theorem bytes_ne {x y : ByteArray} (h : x ≠ y) : (x.toList == y.toList) = false := by
  rw [beq_eq_false_iff_ne]
  exact fun e => h (str_eq.1 e)
set_option maxRecDepth 100000 in
set_option maxHeartbeats 800000 in
theorem equal_calls (A0 : Option Addr) (c0 : Nat) (a : List ByteArray) (A1 : Option Addr) (c1 : Nat) (b : List ByteArray) (w : World) (hr0 : Kd.C Kd.string w A0 a.length a) (hr1 : Kd.C Kd.string w A1 b.length b) :
    Calls Try.prog 68 #[.slice A0 a.length c0, .slice A1 b.length c1] w fun e w' => e = .returned (.bool (decide (a = b))) ∧ Below w.heap.size w w' := by
  obtain ⟨r, hr⟩ : ∃ r : Bool, Aside0 (decide (a = b) = r) := ⟨_, ⟨rfl⟩⟩
  rw [hr.out]
  have ha := hr0.2.1
  have hb := hr1.2.1
  have H0 := Aside0.mk hr0
  have H1 := Aside0.mk hr1
  clear hr0 hr1
  by_cases hl : a.length = b.length
  · have hlI : (a.length : Int) = (b.length : Int) := by omega
    have HL := Aside0.mk hl
    go_enter Try.func68, Try.ntmps68
    go_wp2
    go_loopw [13] (fun vi wr => ∃ i : Nat, vi = .int .i64 i ∧ i ≤ a.length ∧ Aside0 (∀ j, j < i → rdOf ByteArray.empty a (j : Int) = rdOf ByteArray.empty b (j : Int)) ∧ Aside0 (Below w.heap.size w wr))
      (fun vi _ => a.length - (intOf vi).toNat)
    case atStart => exact ⟨0, rfl, Nat.zero_le _, ⟨fun j hj => by omega⟩, ⟨Below.refl _ _⟩⟩
    case round =>
      obtain ⟨i, rfl, hi, HE, HB⟩ := hrel
      by_cases hlt : i < a.length
      · obtain ⟨ad, eA, hx⟩ := strAtA (Kd.C_below H0.out HB.out) hlt
        obtain ⟨bd, eB, hy⟩ := strAtA (Kd.C_below H1.out HB.out) (show i < b.length by omega)
        cases eA
        cases eB
        have hiI : (i : Int) < (a.length : Int) := by omega
        have hiJ : (i : Int) < (b.length : Int) := by omega
        by_cases hxy : rdOf ByteArray.empty a (i : Int) = rdOf ByteArray.empty b (i : Int)
        · have HXY := Aside0.mk hxy
          rw [← hxy] at hy
          clear hxy
          generalize rdOf ByteArray.empty a (i : Int) = x at hx hy
          clear hl
          go_wp2
          go_quiet (fail)
          go_wp2
          go_roundw
          case rel =>
            refine ⟨i + 1, by go_num, by omega, ⟨fun j hj => ?_⟩, ⟨pw_below_drewN HB.out _⟩⟩
            rcases Nat.lt_or_ge j i with h | h
            · exact HE.out j h
            · obtain rfl : j = i := by omega
              exact HXY.out
          case measure => simp [intOf]; omega
        · have HN : Aside0 (¬ a = b) := ⟨fun e => hxy (by rw [e])⟩
          have hb1 := bytes_ne hxy
          generalize rdOf ByteArray.empty a (i : Int) = x at hx hxy hb1
          generalize rdOf ByteArray.empty b (i : Int) = y at hy hxy hb1
          clear hl hxy
          go_wp2
          go_quiet (fail)
          go_wp2
          go_ret
          exact ⟨by rw [← hr.out]; simp [HN.out], pw_below_drewN HB.out _⟩
      · obtain rfl : i = a.length := by omega
        have HEQ := Aside0.mk (rd_eq HL.out HE.out)
        clear hl
        go_wp2
        go_ret
        exact ⟨by rw [← hr.out]; simp [HEQ.out], HB.out⟩
  · have hlI : ¬ (a.length : Int) = (b.length : Int) := by omega
    have hlJ : ((a.length : Int) == (b.length : Int)) = false := by simp; omega
    go_enter Try.func68, Try.ntmps68
    go_wp2
    go_ret
    refine ⟨?_, Below.refl _ _⟩
    rw [← hr.out]
    have : ¬ a = b := fun e => hl (by rw [e])
    simp [this]
theorem rows_eq {a b : List (List ByteArray)} (hl : a.length = b.length) (h : ∀ j, j < a.length → a.getD j [] = b.getD j []) : a = b := by
  refine List.ext_getElem hl fun i h1 h2 => ?_
  have := h i h1
  rw [List.getD_eq_getElem?_getD, List.getD_eq_getElem?_getD, List.getElem?_eq_getElem h1, List.getElem?_eq_getElem h2] at this
  exact this
set_option maxRecDepth 100000 in
set_option maxHeartbeats 800000 in
theorem equalF_calls (A0 : Option Addr) (c0 : Nat) (a : List (List ByteArray)) (A1 : Option Addr) (c1 : Nat) (b : List (List ByteArray)) (w0 w : World) (hw : Below w0.heap.size w0 w) (hr0 : Kd.C (Kd.slice 9 Kd.string) w0 A0 a.length a) (hr1 : Kd.C (Kd.slice 9 Kd.string) w0 A1 b.length b) :
    Calls Try.prog 69 #[.slice A0 a.length c0, .slice A1 b.length c1, .func (.func 68) #[] #[]] w fun e w' => e = .returned (.bool (decide (a = b))) ∧ Below w.heap.size w w' := by
  obtain ⟨r, hr⟩ : ∃ r : Bool, Aside0 (decide (a = b) = r) := ⟨_, ⟨rfl⟩⟩
  rw [hr.out]
  have ha := hr0.2.1
  have hb := hr1.2.1
  have H0 := Aside0.mk (Kd.C_below hr0 hw)
  have H1 := Aside0.mk (Kd.C_below hr1 hw)
  clear hr0 hr1 hw
  by_cases hl : a.length = b.length
  · have hlI : (a.length : Int) = (b.length : Int) := by omega
    have HL := Aside0.mk hl
    go_enter Try.func69, Try.ntmps69
    go_wp2
    go_loopw [17] (fun vi wr => ∃ i : Nat, vi = .int .i64 i ∧ i ≤ a.length ∧ Aside0 (∀ j, j < i → a.getD j [] = b.getD j []) ∧ Aside0 (Below w.heap.size w wr))
      (fun vi _ => a.length - (intOf vi).toNat)
    case atStart => exact ⟨0, rfl, Nat.zero_le _, ⟨fun j hj => by omega⟩, ⟨Below.refl _ _⟩⟩
    case round =>
      obtain ⟨i, rfl, hi, HE, HB⟩ := hrel
      by_cases hlt : i < a.length
      · obtain ⟨ad, Ax, cx, eA, hx, hcx, hCx⟩ := rowAt (Kd.C_below H0.out HB.out) hlt
        obtain ⟨bd, Bx, dx, eB, hy, hdx, hCy⟩ := rowAt (Kd.C_below H1.out HB.out) (show i < b.length by omega)
        cases eA
        cases eB
        have hiI : (i : Int) < (a.length : Int) := by omega
        have hiJ : (i : Int) < (b.length : Int) := by omega
        have HK := Aside0.mk (equal_calls Ax cx (a.getD i []) Bx dx (b.getD i []) wr hCx hCy)
        clear hl hCx hCy
        by_cases hxy : a.getD i [] = b.getD i []
        · have HXY := Aside0.mk hxy
          have HD : Aside0 (decide (a.getD i [] = b.getD i []) = true) := ⟨decide_eq_true hxy⟩
          clear hxy
          generalize (a.getD i []).length = q at *
          generalize (b.getD i []).length = q' at *
          go_wp2_with (go_at_call 68; refine HK.out.mono ?_; rintro e w1 ⟨rfl, hb1⟩; rw [HD.out]; have HB1 := Aside0.mk (HB.out.trans (hb1.mono HB.out.size)); clear hb1)
          go_roundw
          case rel =>
            refine ⟨i + 1, by go_num, by omega, ⟨fun j hj => ?_⟩, HB1⟩
            rcases Nat.lt_or_ge j i with h | h
            · exact HE.out j h
            · obtain rfl : j = i := by omega
              exact HXY.out
          case measure => simp [intOf]; omega
        · have HN : Aside0 (¬ a = b) := ⟨fun e => hxy (by rw [e])⟩
          have HD : Aside0 (decide (a.getD i [] = b.getD i []) = false) := ⟨decide_eq_false hxy⟩
          clear hxy
          generalize (a.getD i []).length = q at *
          generalize (b.getD i []).length = q' at *
          go_wp2_with (go_at_call 68; refine HK.out.mono ?_; rintro e w1 ⟨rfl, hb1⟩; rw [HD.out]; have HB1 := Aside0.mk (HB.out.trans (hb1.mono HB.out.size)); clear hb1)
          go_ret
          exact ⟨by rw [← hr.out]; simp [HN.out], HB1.out⟩
      · obtain rfl : i = a.length := by omega
        have HEQ := Aside0.mk (rows_eq HL.out HE.out)
        clear hl
        go_wp2
        go_ret
        exact ⟨by rw [← hr.out]; simp [HEQ.out], HB.out⟩
  · have hlI : ¬ (a.length : Int) = (b.length : Int) := by omega
    have hlJ : ((a.length : Int) == (b.length : Int)) = false := by simp; omega
    go_enter Try.func69, Try.ntmps69
    go_wp2
    go_ret
    refine ⟨?_, Below.refl _ _⟩
    rw [← hr.out]
    have : ¬ a = b := fun e => hl (by rw [e])
    simp [this]
def table_Same.f (l0_0 : List ByteArray) (l0_1 : List (List ByteArray)) (l1_0 : List ByteArray) (l1_1 : List (List ByteArray)) : Option Bool := some (decide (l0_0 = l1_0) && decide (l0_1 = l1_1))
set_option maxRecDepth 100000 in
set_option maxHeartbeats 800000 in
theorem table_Same.calls (A0_0 : Option Addr) (c0_0 : Nat) (l0_0 : List ByteArray) (A0_1 : Option Addr) (c0_1 : Nat) (l0_1 : List (List ByteArray)) (A1_0 : Option Addr) (c1_0 : Nat) (l1_0 : List ByteArray) (A1_1 : Option Addr) (c1_1 : Nat) (l1_1 : List (List ByteArray)) (r : Bool) (w : World)
    (hr0_0 : Kd.C Kd.string w A0_0 l0_0.length l0_0) (hc0_0 : l0_0.length ≤ c0_0) (hr0_1 : Kd.C (Kd.slice 9 Kd.string) w A0_1 l0_1.length l0_1) (hc0_1 : l0_1.length ≤ c0_1)
    (hr1_0 : Kd.C Kd.string w A1_0 l1_0.length l1_0) (hc1_0 : l1_0.length ≤ c1_0) (hr1_1 : Kd.C (Kd.slice 9 Kd.string) w A1_1 l1_1.length l1_1) (hc1_1 : l1_1.length ≤ c1_1) (h : table_Same.f l0_0 l0_1 l1_0 l1_1 = some r) :
    Calls Try.prog 34 #[.agg #[.slice A0_0 l0_0.length c0_0, .slice A0_1 l0_1.length c0_1], .agg #[.slice A1_0 l1_0.length c1_0, .slice A1_1 l1_1.length c1_1]] w fun e w' => e = .returned (.bool r) ∧ Below w.heap.size w w' := by
  have hr : Aside0 ((decide (l0_0 = l1_0) && decide (l0_1 = l1_1)) = r) := ⟨Option.some.inj h⟩
  have HR := Aside0.mk (And.intro hr0_0 (And.intro hr0_1 (And.intro hr1_0 hr1_1)))
  obtain ⟨W, hW⟩ : ∃ W, Aside0 ((w.alloc (.cells #[.slice A0_0 l0_0.length c0_0, .slice A0_1 l0_1.length c0_1] 25 (0, 0))).alloc (.cells #[.slice A1_0 l1_0.length c1_0, .slice A1_1 l1_1.length c1_1] 25 (0, 0)) = W) := ⟨_, ⟨rfl⟩⟩
  have hB : Below w.heap.size w W := by rw [← hW.out]; exact below_alloc (below_alloc (Below.refl _ _) _) _
  have hT1 : W.heap[w.heap.size + 1]? = some (.cells #[.slice A1_0 l1_0.length c1_0, .slice A1_1 l1_1.length c1_1] 25 (0, 0)) := by
    rw [← hW.out]
    have h := blk_new (w.alloc (.cells #[.slice A0_0 l0_0.length c0_0, .slice A0_1 l0_1.length c0_1] 25 (0, 0))) (.cells #[.slice A1_0 l1_0.length c1_0, .slice A1_1 l1_1.length c1_1] 25 (0, 0))
    rw [World.size_alloc] at h
    exact h
  have hT0 : W.heap[w.heap.size]? = some (.cells #[.slice A0_0 l0_0.length c0_0, .slice A0_1 l0_1.length c0_1] 25 (0, 0)) := by
    rw [← hW.out]
    exact ((below_alloc (Below.refl _ (w.alloc _)) _).block _ (by simp)).trans (blk_new w _)
  have HB := Aside0.mk hB
  have HT := Aside0.mk (And.intro hT0 hT1)
  have HE := Aside0.mk (equal_calls A0_0 c0_0 l0_0 A1_0 c1_0 l1_0 W (Kd.C_below hr0_0 hB) (Kd.C_below hr1_0 hB))
  clear h hr0_0 hc0_0 hr0_1 hc0_1 hr1_0 hc1_0 hr1_1 hc1_1 hT0 hT1 hB
  go_enter Try.func34, Try.ntmps34
  by_cases h0 : l0_0 = l1_0
  · have HD := Aside0.mk (decide_eq_true h0)
    have HD0 := Aside0.mk h0
    clear h0
    go_wp2_with (first
      | (go_at_call 68; rw [hW.out]; refine HE.out.mono ?_; rintro e w1 ⟨rfl, hb⟩; rw [HD.out]; have HB1 := Aside0.mk (HB.out.trans (hb.mono HB.out.size)); have h00 := blk_cell ((hb.block _ (lt_of_block HT.out.1)).trans HT.out.1) 0; have h01 := blk_cell ((hb.block _ (lt_of_block HT.out.1)).trans HT.out.1) 1; have h10 := blk_cell ((hb.block _ (lt_of_block HT.out.2)).trans HT.out.2) 0; have h11 := blk_cell ((hb.block _ (lt_of_block HT.out.2)).trans HT.out.2) 1; clear hb)
      | (go_at_call 69; refine (equalF_calls A0_1 c0_1 l0_1 A1_1 c1_1 l1_1 w _ HB1.out HR.out.2.1 HR.out.2.2.2).mono ?_; rintro e w2 ⟨rfl, hb2⟩; have HB2 := Aside0.mk (HB1.out.trans (hb2.mono HB1.out.size)); clear hb2))
    go_ret
    exact ⟨by rw [← hr.out]; simp [HD0.out], HB2.out⟩
  · have HD := Aside0.mk (decide_eq_false h0)
    have HD0 := Aside0.mk h0
    clear h0
    go_wp2_with (first
      | (go_at_call 68; rw [hW.out]; refine HE.out.mono ?_; rintro e w1 ⟨rfl, hb⟩; rw [HD.out]; have HB1 := Aside0.mk (HB.out.trans (hb.mono HB.out.size)); clear hb))
    go_ret
    exact ⟨by rw [← hr.out]; simp [HD0.out], HB1.out⟩
end Go.Proofs.Ytbcpaojciephmaa.X
