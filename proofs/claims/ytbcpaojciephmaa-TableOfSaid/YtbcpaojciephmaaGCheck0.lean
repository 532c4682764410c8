/- table.Check. -/
import Derived.Test.YtbcpaojciephmaaGTable
import Derived.Test.YtbcpaojciephmaaGMap
import Derived.Test.YtbcpaojciephmaaX1
import Derived.Laws.EntriesVeiled
import Derived.Deep.RegionHeld3
import Derived.Deep.QuietTactic
import Derived.BigQuiet
namespace Go.Proofs.Ytbcpaojciephmaa.X
open Go.RowKit Go.Maps Go.Shelf Go.Proofs.YtbcpaojciephmaaW.PrintWords Go.Proofs.YtbcpaojciephmaaW.PrintLast Go.Proofs.Ytbcpaojciephmaa.GMap
set_option linter.unusedVariables false

theorem unless_calls (so : Bool) (e : Int) (w : World) : Calls Try.prog 60 #[.bool so, .int .i64 e] w fun r w' => r = .returned (.int .i64 (if so then 0 else e)) ∧ Drawn0 w w' :=
  table_unless.calls so e (if so then 0 else e) w (by unfold table_unless.f; cases so <;> rfl)
set_option maxRecDepth 100000 in
theorem odd_calls (A : Option Addr) (n c : Nat) (A0 : Option Addr) (m c0 : Nat) (T1 : Value) (tb : Nat) (W : World) (hT : W.heap[tb]? = some (.cells #[.slice A0 m c0, T1] 25 (0, 0))) :
    Calls Try.prog 62 #[.slice A n c, .pointer (some ⟨tb, 0, none⟩)] W fun e w' => e = .returned (.bool (decide (n ≠ m))) ∧ w' = W := by
  have h0 := blk_cell hT 0
  have f0 := blk_frozen hT 0
  clear hT
  by_cases h : n = m
  · subst h
    go_enter Try.func62, Try.ntmps62
    go_wp2
    go_ret
    simp
  · have hI : ((n : Int) == (m : Int)) = false := by simp; omega
    have hI2 : ¬ (n : Int) = (m : Int) := by omega
    go_enter Try.func62, Try.ntmps62
    go_wp2
    go_ret
    simp [h, hI2]
theorem rowAt {w : World} {A : Option Addr} {rows : List (List ByteArray)} (h : Kd.C (Kd.slice 9 Kd.string) w A rows.length rows) {i : Nat} (hi : i < rows.length) : ∃ (ad : Addr) (Ax : Option Addr) (cx : Nat), A = some ad ∧ w.cell? (ad.add i) = some (.slice Ax (rows.getD i []).length cx) ∧ (rows.getD i []).length ≤ cx ∧ Kd.C Kd.string w Ax (rows.getD i []).length (rows.getD i []) := by
  rcases A with _ | ad
  · obtain ⟨_, _, h3⟩ := h
    obtain ⟨ad, e, _⟩ := h3 (by omega)
    cases e
  · obtain ⟨cs, hcs, hc⟩ := cellsOf_mk h
    obtain ⟨Ax, cx, h1, h2, h3⟩ := hcs.2 i (rows.getD i []) (by rw [List.getD_eq_getElem?_getD, List.getElem?_eq_getElem hi]; rfl)
    exact ⟨ad, Ax, cx, rfl, hc i _ h1, h2, h3⟩
def oddAt (rows : List (List ByteArray)) (m i : Nat) : Bool := decide ((rows.getD i []).length ≠ m)
def wideR (rows : List (List ByteArray)) (m : Nat) : Bool := rows.any fun r => decide (r.length ≠ m)
theorem wide_yes {rows : List (List ByteArray)} {m i : Nat} (hi : i < rows.length) (h : (rows.getD i []).length ≠ m) : wideR rows m = true := by
  unfold wideR
  rw [List.any_eq_true]
  refine ⟨rows[i], List.getElem_mem hi, ?_⟩
  rw [List.getD_eq_getElem?_getD, List.getElem?_eq_getElem hi] at h
  simpa using h
theorem wide_no {rows : List (List ByteArray)} {m : Nat} (h : ∀ i, i < rows.length → (rows.getD i []).length = m) : wideR rows m = false := by
  unfold wideR
  rw [List.any_eq_false]
  intro r hr
  obtain ⟨i, hi, rfl⟩ := List.getElem_of_mem hr
  have := h i hi
  rw [List.getD_eq_getElem?_getD, List.getElem?_eq_getElem hi] at this
  simpa using this

set_option maxRecDepth 100000 in
set_option maxHeartbeats 800000 in
theorem idx_calls (A0 : Option Addr) (m c0 : Nat) (T1 : Value) (tb : Nat) (A1 : Option Addr) (c1 : Nat) (rows : List (List ByteArray)) (W : World) (hT : W.heap[tb]? = some (.cells #[.slice A0 m c0, T1] 25 (0, 0))) (hr : Kd.C (Kd.slice 9 Kd.string) W A1 rows.length rows) (hl : rows.length ≤ 1000000) :
    Calls Try.prog 74 #[.slice A1 rows.length c1, .func (.func 62) #[] #[.pointer (some ⟨tb, 0, none⟩)]] W fun e w' => (∃ i : Int, e = .returned (.int .i64 i) ∧ wideR rows m = decide (0 ≤ i)) ∧ w' = W := by
  have HT := Aside0.mk hT
  have HR := Aside0.mk hr
  clear hT hr
  go_enter Try.func74, Try.ntmps74
  go_wp2
  go_loopw [8] (fun vi wr => ∃ i : Nat, vi = .int .i64 i ∧ i ≤ rows.length ∧ (∀ j, j < i → (rows.getD j []).length = m) ∧ wr = W)
    (fun vi _ => rows.length - (intOf vi).toNat)
  case atStart => exact ⟨0, rfl, Nat.zero_le _, fun j hj => by omega, rfl⟩
  case round =>
    obtain ⟨i, rfl, hi, hall, rfl⟩ := hrel
    by_cases hlt : i < rows.length
    · obtain ⟨ad, Ax, cx, eA, hx, hcx, hCx⟩ := rowAt HR.out hlt
      cases eA
      have hlI : (i : Int) < (rows.length : Int) := by omega
      by_cases hm : (rows.getD i []).length = m
      · have hd : decide ((rows.getD i []).length ≠ m) = false := decide_eq_false (fun h => h hm)
        have HM := Aside0.mk hm
        have HA := Aside0.mk hall
        generalize (rows.getD i []).length = q at hx hcx hd
        clear hm hall hCx
        go_wp2_with (first
          | (go_at_call 62; refine (odd_calls Ax q cx A0 m c0 T1 tb _ HT.out).mono ?_; rintro e w1 ⟨rfl, rfl⟩; rw [hd]))
        go_roundw
        case rel =>
          refine ⟨i + 1, by go_num, by omega, fun j hj => ?_, by first | rfl | trivial⟩
          rcases Nat.lt_or_ge j i with h | h
          · exact HA.out j h
          · obtain rfl : j = i := by omega
            exact HM.out
        case measure => simp [intOf]; omega
      · have hd : decide ((rows.getD i []).length ≠ m) = true := decide_eq_true hm
        have hw := Aside0.mk (wide_yes hlt hm)
        generalize (rows.getD i []).length = q at hx hcx hd
        clear hm hall hCx
        go_wp2_with (first
          | (go_at_call 62; refine (odd_calls Ax q cx A0 m c0 T1 tb _ HT.out).mono ?_; rintro e w1 ⟨rfl, rfl⟩; rw [hd]))
        go_ret
        exact ⟨⟨(i : Int), rfl, by rw [hw.out]; simp⟩, rfl⟩
    · obtain rfl : i = rows.length := by omega
      have hw := Aside0.mk (wide_no hall)
      clear hall
      go_wp2
      go_ret
      exact ⟨⟨-1, rfl, by rw [hw.out]; rfl⟩, rfl⟩
set_option maxRecDepth 100000 in
theorem has_calls (A0 : Option Addr) (m c0 : Nat) (T1 : Value) (tb : Nat) (A1 : Option Addr) (c1 : Nat) (rows : List (List ByteArray)) (W : World) (hT : W.heap[tb]? = some (.cells #[.slice A0 m c0, T1] 25 (0, 0))) (hr : Kd.C (Kd.slice 9 Kd.string) W A1 rows.length rows) (hl : rows.length ≤ 1000000) :
    Calls Try.prog 63 #[.slice A1 rows.length c1, .func (.func 62) #[] #[.pointer (some ⟨tb, 0, none⟩)]] W fun e w' => e = .returned (.bool (wideR rows m)) ∧ w' = W := by
  have HT := Aside0.mk hT
  have HR := Aside0.mk hr
  clear hT hr
  go_enter Try.func63, Try.ntmps63
  go_wp2_with (first
    | (go_at_call 74; refine (idx_calls A0 m c0 T1 tb A1 c1 rows _ HT.out HR.out hl).mono ?_; rintro e w1 ⟨⟨i, rfl, hw⟩, rfl⟩; have HW := Aside0.mk hw; clear hw))
  go_ret
  exact ⟨by rw [HW.out]; rfl, rfl⟩

/-- Where the table lies, boxed. -/
structure TAt (w0 : World) (A0 : Option Addr) (c0 : Nat) (hd : List ByteArray) (A1 : Option Addr) (c1 : Nat) (rows : List (List ByteArray)) (tb : Nat) (W : World) : Prop where
  t : W.heap[tb]? = some (.cells #[.slice A0 hd.length c0, .slice A1 rows.length c1] 25 (0, 0))
  lo : Below w0.heap.size w0 W
  r0 : Kd.C Kd.string w0 A0 hd.length hd
  c0 : hd.length ≤ c0
  r1 : Kd.C (Kd.slice 9 Kd.string) w0 A1 rows.length rows
theorem TAt.below {w0 : World} {A0 : Option Addr} {c0 : Nat} {hd : List ByteArray} {A1 : Option Addr} {c1 : Nat} {rows : List (List ByteArray)} {tb : Nat} {W W' : World} (h : TAt w0 A0 c0 hd A1 c1 rows tb W) (hb : Below W.heap.size W W') : TAt w0 A0 c0 hd A1 c1 rows tb W' :=
  ⟨(hb.block _ (lt_of_block h.t)).trans h.t, h.lo.trans (hb.mono h.lo.size), h.r0, h.c0, h.r1⟩
section
variable (w0 : World) (A0 : Option Addr) (c0 : Nat) (hd : List ByteArray) (A1 : Option Addr) (c1 : Nat) (rows : List (List ByteArray)) (tb : Nat) (W : World)
set_option maxRecDepth 100000 in
theorem check1_calls (h : TAt w0 A0 c0 hd A1 c1 rows tb W) :
    Calls Try.prog 59 #[.pointer (some ⟨tb, 0, none⟩)] W fun e w' => e = .returned (.int .i64 (if hd.length = 0 then 8 else 0)) ∧ Below W.heap.size W w' := by
  have h0 := blk_cell h.t 0
  have f0 := blk_frozen h.t 0
  clear h
  by_cases hz : hd.length = 0
  · rw [hz] at h0
    go_enter Try.func59, Try.ntmps59
    go_wp2_with (first | (go_at_call 60; refine (unless_calls _ _ _).mono ?_; rintro e w1 ⟨rfl, ⟨nd, rfl⟩⟩))
    go_ret
    exact ⟨by simp, pw_below_drewN (Below.refl _ _) nd⟩
  · have hp : 0 < hd.length := by omega
    have hpI : (0 : Int) < (hd.length : Int) := by omega
    go_enter Try.func59, Try.ntmps59
    go_wp2_with (first | (go_at_call 60; refine (unless_calls _ _ _).mono ?_; rintro e w1 ⟨rfl, ⟨nd, rfl⟩⟩))
    go_ret
    exact ⟨by simp, pw_below_drewN (Below.refl _ _) nd⟩
set_option maxRecDepth 100000 in
theorem check2_calls (h : TAt w0 A0 c0 hd A1 c1 rows tb W) (hl : rows.length ≤ 100000) :
    Calls Try.prog 61 #[.pointer (some ⟨tb, 0, none⟩)] W fun e w' => e = .returned (.int .i64 (if wideR rows hd.length = true then 9 else 0)) ∧ Below W.heap.size W w' := by
  have h1 := blk_cell h.t 1
  have f1 := blk_frozen h.t 1
  have H := Aside0.mk h
  clear h
  rcases Bool.eq_false_or_eq_true (wideR rows hd.length) with hw | hw
  all_goals (
    rw [hw]
    have HW := Aside0.mk hw
    clear hw
    go_enter Try.func61, Try.ntmps61
    go_wp2_with (first
      | (go_at_call 63; refine (has_calls A0 hd.length c0 _ tb A1 c1 rows _ H.out.t (Kd.C_below H.out.r1 H.out.lo) (by omega)).mono ?_; rintro e w1 ⟨rfl, rfl⟩; rw [HW.out])
      | (go_at_call 60; refine (unless_calls _ _ _).mono ?_; rintro e w1 ⟨rfl, ⟨nd, rfl⟩⟩))
    go_ret
    exact ⟨rfl, pw_below_drewN (Below.refl _ _) nd⟩)
end
end Go.Proofs.Ytbcpaojciephmaa.X
