/- table.Check. -/
import Derived.Test.YtbcpaojciephmaaGLarge
namespace Go.Proofs.Ytbcpaojciephmaa.X
open Go.RowKit Go.Maps Go.Shelf Go.Proofs.YtbcpaojciephmaaW.PrintWords Go.Proofs.YtbcpaojciephmaaW.PrintLast
set_option linter.unusedVariables false

def okT (hd : List ByteArray) (rows : List (List ByteArray)) : Bool := decide (hd.length ≤ 100000) && decide (rows.length ≤ 100000) && hd.all fun s => decide (s.size ≤ maxLen)
def ckR (hd : List ByteArray) (rows : List (List ByteArray)) : Nat → Int
  | 0 => if hd.length = 0 then 8 else 0
  | 1 => if wideR rows hd.length = true then 9 else 0
  | 2 => if hd.Nodup then 0 else 10
  | 3 => largeR hd rows
  | _ => 0
def checkT (hd : List ByteArray) (rows : List (List ByteArray)) : Int := if ckR hd rows 0 ≠ 0 then ckR hd rows 0 else if ckR hd rows 1 ≠ 0 then ckR hd rows 1 else if ckR hd rows 2 ≠ 0 then ckR hd rows 2 else ckR hd rows 3
theorem checkT_at {hd : List ByteArray} {rows : List (List ByteArray)} {i : Nat} (hi : i < 4) (h : ∀ j, j < i → ckR hd rows j = 0) (hn : ckR hd rows i ≠ 0) : checkT hd rows = ckR hd rows i := by
  unfold checkT
  rcases i with _ | _ | _ | _ | i
  · rw [if_pos hn]
  · rw [if_neg (by rw [h 0 (by omega)]; simp), if_pos hn]
  · rw [if_neg (by rw [h 0 (by omega)]; simp), if_neg (by rw [h 1 (by omega)]; simp), if_pos hn]
  · rw [if_neg (by rw [h 0 (by omega)]; simp), if_neg (by rw [h 1 (by omega)]; simp), if_neg (by rw [h 2 (by omega)]; simp)]
  · omega
theorem checkT_none {hd : List ByteArray} {rows : List (List ByteArray)} (h : ∀ j, j < 4 → ckR hd rows j = 0) : checkT hd rows = 0 := by
  unfold checkT
  rw [if_neg (by rw [h 0 (by omega)]; simp), if_neg (by rw [h 1 (by omega)]; simp), if_neg (by rw [h 2 (by omega)]; simp), h 3 (by omega)]

def ckF (i : Nat) : Nat := match i with | 0 => 59 | 1 => 61 | 2 => 64 | _ => 65
def ckV (tb i : Nat) : Value := .func (.func (ckF i)) #[] #[.pointer (some ⟨tb, 0, none⟩)]
theorem ckR_cell {W : World} {g tb : Nat} {t : TypeId} (h : W.heap[g]? = some (.cells #[ckV tb 0, ckV tb 1, ckV tb 2, ckV tb 3] t (0, 0))) {i : Nat} (hi : i < 4) : W.cell? ⟨g, i, none⟩ = some (ckV tb i) := by
  rw [blk_cell h i]
  rcases i with _ | _ | _ | _ | i
  · rfl
  · rfl
  · rfl
  · rfl
  · omega
theorem ck_calls (w0 : World) (A0 : Option Addr) (c0 : Nat) (hd : List ByteArray) (A1 : Option Addr) (c1 : Nat) (rows : List (List ByteArray)) (tb : Nat) (W : World) (h : TAt w0 A0 c0 hd A1 c1 rows tb W) (hok : okT hd rows = true) (i : Nat) (hi : i < 4) :
    Calls Try.prog (ckF i) #[.pointer (some ⟨tb, 0, none⟩)] W fun e w' => e = .returned (.int .i64 (ckR hd rows i)) ∧ Below W.heap.size W w' := by
  simp only [okT, Bool.and_eq_true, decide_eq_true_eq, List.all_eq_true] at hok
  obtain ⟨⟨h1, h2⟩, h3⟩ := hok
  rcases i with _ | _ | _ | _ | i
  · exact check1_calls w0 A0 c0 hd A1 c1 rows tb W h
  · exact check2_calls w0 A0 c0 hd A1 c1 rows tb W h h2
  · exact check3_calls w0 A0 c0 hd A1 c1 rows tb W h h1 h3
  · exact check4_calls w0 A0 c0 hd A1 c1 rows tb W h h2 h1
  · omega
set_option maxRecDepth 100000 in
set_option maxHeartbeats 2000000 in
theorem check_calls (A0 : Option Addr) (c0 : Nat) (hd : List ByteArray) (A1 : Option Addr) (c1 : Nat) (rows : List (List ByteArray)) (w : World) (hr0 : Kd.C Kd.string w A0 hd.length hd) (hc0 : hd.length ≤ c0) (hr1 : Kd.C (Kd.slice 9 Kd.string) w A1 rows.length rows) (hok : okT hd rows = true) :
    Calls Try.prog 30 #[.agg #[.slice A0 hd.length c0, .slice A1 rows.length c1]] w fun e w' => e = .returned (.int .i64 (checkT hd rows)) ∧ Below w.heap.size w w' := by
  have hmf : ∀ (fn : Fn) (first cap : Array Value) (w : World), (Instr.makeFunc fn first cap).run Try.prog w = .ok (.func fn first cap) w := fun _ _ _ _ => rfl
  obtain ⟨r, hr⟩ : ∃ r : Int, Aside0 (checkT hd rows = r) := ⟨_, ⟨rfl⟩⟩
  rw [hr.out]
  have HR := Aside0.mk (And.intro hr0 hr1)
  clear hr0 hr1
  go_enter Try.func30, Try.ntmps30
  go_wp2
  go_loopw [12] (fun vi wr => ∃ i : Nat, vi = .int .i64 i ∧ i ≤ 4 ∧ Aside0 (∀ j, j < i → ckR hd rows j = 0) ∧ Aside0 (TAt w A0 c0 hd A1 c1 rows w.heap.size wr) ∧
      Aside0 (wr.heap[w.heap.size + 1]? = some (.cells #[ckV w.heap.size 0, ckV w.heap.size 1, ckV w.heap.size 2, ckV w.heap.size 3] 68 (0, 0))))
    (fun vi _ => 4 - (intOf vi).toNat)
  case atStart =>
    refine ⟨0, rfl, by omega, ⟨fun j hj => by omega⟩, ⟨⟨?_, ?_, HR.out.1, hc0, HR.out.2⟩⟩, ⟨?_⟩⟩
    · exact ((below_alloc (Below.refl _ (w.alloc _)) _).block _ (by simp)).trans (blk_new w _)
    · exact below_alloc (below_alloc (Below.refl _ _) _) _
    · have h := blk_new (w.alloc (.cells #[.slice A0 hd.length c0, .slice A1 rows.length c1] 25 (0, 0))) (.cells #[ckV w.heap.size 0, ckV w.heap.size 1, ckV w.heap.size 2, ckV w.heap.size 3] 68 (0, 0))
      rw [World.size_alloc] at h
      exact h
  case round =>
    obtain ⟨i, rfl, hi, HZ, HT, HC⟩ := hrel
    have h5 : i = 0 ∨ i = 1 ∨ i = 2 ∨ i = 3 ∨ i = 4 := by omega
    rcases h5 with rfl | rfl | rfl | rfl | rfl
    · -- 0
      have HK := Aside0.mk (ck_calls w A0 c0 hd A1 c1 rows w.heap.size wr HT.out hok 0 (by omega))
      have hcc : wr.cell? ⟨w.heap.size + 1, 0, none⟩ = some (.func (.func 59) #[] #[.pointer (some ⟨w.heap.size, 0, none⟩)]) := ckR_cell HC.out (by omega)
      obtain ⟨q, hq⟩ : ∃ q, Aside0 (ckR hd rows 0 = q) := ⟨_, ⟨rfl⟩⟩
      by_cases hz : q = 0
      · subst hz
        have HZ2 : Aside0 (∀ j, j < 1 → ckR hd rows j = 0) := ⟨fun j hj => by
          rcases Nat.lt_or_ge j 0 with h | h
          · exact HZ.out j h
          · rw [show j = 0 by omega]; exact hq.out⟩
        clear HZ
        go_wp2_with (go_at_call 59; refine HK.out.mono ?_; rintro e w1 ⟨rfl, hb⟩; rw [hq.out]; have HT1 := Aside0.mk (HT.out.below hb); have HC1 := Aside0.mk ((hb.block _ (lt_of_block HC.out)).trans HC.out); clear hb)
        go_roundw
        case rel => exact ⟨1, by first | rfl | go_num, by omega, HZ2, HT1, HC1⟩
        case measure => simp [intOf]
      · have HE := Aside0.mk (checkT_at (hd := hd) (rows := rows) (i := 0) (by omega) HZ.out (by rw [hq.out]; exact hz))
        go_wp2_with (go_at_call 59; refine HK.out.mono ?_; rintro e w1 ⟨rfl, hb⟩; rw [hq.out]; have HT1 := Aside0.mk (HT.out.below hb); clear hb)
        go_ret
        exact ⟨by rw [← hr.out, HE.out, hq.out]; rfl, HT1.out.lo⟩
    · -- 1
      have HK := Aside0.mk (ck_calls w A0 c0 hd A1 c1 rows w.heap.size wr HT.out hok 1 (by omega))
      have hcc : wr.cell? ⟨w.heap.size + 1, 1, none⟩ = some (.func (.func 61) #[] #[.pointer (some ⟨w.heap.size, 0, none⟩)]) := ckR_cell HC.out (by omega)
      obtain ⟨q, hq⟩ : ∃ q, Aside0 (ckR hd rows 1 = q) := ⟨_, ⟨rfl⟩⟩
      by_cases hz : q = 0
      · subst hz
        have HZ2 : Aside0 (∀ j, j < 2 → ckR hd rows j = 0) := ⟨fun j hj => by
          rcases Nat.lt_or_ge j 1 with h | h
          · exact HZ.out j h
          · rw [show j = 1 by omega]; exact hq.out⟩
        clear HZ
        go_wp2_with (go_at_call 61; refine HK.out.mono ?_; rintro e w1 ⟨rfl, hb⟩; rw [hq.out]; have HT1 := Aside0.mk (HT.out.below hb); have HC1 := Aside0.mk ((hb.block _ (lt_of_block HC.out)).trans HC.out); clear hb)
        go_roundw
        case rel => exact ⟨2, by first | rfl | go_num, by omega, HZ2, HT1, HC1⟩
        case measure => simp [intOf]
      · have HE := Aside0.mk (checkT_at (hd := hd) (rows := rows) (i := 1) (by omega) HZ.out (by rw [hq.out]; exact hz))
        go_wp2_with (go_at_call 61; refine HK.out.mono ?_; rintro e w1 ⟨rfl, hb⟩; rw [hq.out]; have HT1 := Aside0.mk (HT.out.below hb); clear hb)
        go_ret
        exact ⟨by rw [← hr.out, HE.out, hq.out]; rfl, HT1.out.lo⟩
    · -- 2
      have HK := Aside0.mk (ck_calls w A0 c0 hd A1 c1 rows w.heap.size wr HT.out hok 2 (by omega))
      have hcc : wr.cell? ⟨w.heap.size + 1, 2, none⟩ = some (.func (.func 64) #[] #[.pointer (some ⟨w.heap.size, 0, none⟩)]) := ckR_cell HC.out (by omega)
      obtain ⟨q, hq⟩ : ∃ q, Aside0 (ckR hd rows 2 = q) := ⟨_, ⟨rfl⟩⟩
      by_cases hz : q = 0
      · subst hz
        have HZ2 : Aside0 (∀ j, j < 3 → ckR hd rows j = 0) := ⟨fun j hj => by
          rcases Nat.lt_or_ge j 2 with h | h
          · exact HZ.out j h
          · rw [show j = 2 by omega]; exact hq.out⟩
        clear HZ
        go_wp2_with (go_at_call 64; refine HK.out.mono ?_; rintro e w1 ⟨rfl, hb⟩; rw [hq.out]; have HT1 := Aside0.mk (HT.out.below hb); have HC1 := Aside0.mk ((hb.block _ (lt_of_block HC.out)).trans HC.out); clear hb)
        go_roundw
        case rel => exact ⟨3, by first | rfl | go_num, by omega, HZ2, HT1, HC1⟩
        case measure => simp [intOf]
      · have HE := Aside0.mk (checkT_at (hd := hd) (rows := rows) (i := 2) (by omega) HZ.out (by rw [hq.out]; exact hz))
        go_wp2_with (go_at_call 64; refine HK.out.mono ?_; rintro e w1 ⟨rfl, hb⟩; rw [hq.out]; have HT1 := Aside0.mk (HT.out.below hb); clear hb)
        go_ret
        exact ⟨by rw [← hr.out, HE.out, hq.out]; rfl, HT1.out.lo⟩
    · -- 3
      have HK := Aside0.mk (ck_calls w A0 c0 hd A1 c1 rows w.heap.size wr HT.out hok 3 (by omega))
      have hcc : wr.cell? ⟨w.heap.size + 1, 3, none⟩ = some (.func (.func 65) #[] #[.pointer (some ⟨w.heap.size, 0, none⟩)]) := ckR_cell HC.out (by omega)
      obtain ⟨q, hq⟩ : ∃ q, Aside0 (ckR hd rows 3 = q) := ⟨_, ⟨rfl⟩⟩
      by_cases hz : q = 0
      · subst hz
        have HZ2 : Aside0 (∀ j, j < 4 → ckR hd rows j = 0) := ⟨fun j hj => by
          rcases Nat.lt_or_ge j 3 with h | h
          · exact HZ.out j h
          · rw [show j = 3 by omega]; exact hq.out⟩
        clear HZ
        go_wp2_with (go_at_call 65; refine HK.out.mono ?_; rintro e w1 ⟨rfl, hb⟩; rw [hq.out]; have HT1 := Aside0.mk (HT.out.below hb); have HC1 := Aside0.mk ((hb.block _ (lt_of_block HC.out)).trans HC.out); clear hb)
        go_roundw
        case rel => exact ⟨4, by first | rfl | go_num, by omega, HZ2, HT1, HC1⟩
        case measure => simp [intOf]
      · have HE := Aside0.mk (checkT_at (hd := hd) (rows := rows) (i := 3) (by omega) HZ.out (by rw [hq.out]; exact hz))
        go_wp2_with (go_at_call 65; refine HK.out.mono ?_; rintro e w1 ⟨rfl, hb⟩; rw [hq.out]; have HT1 := Aside0.mk (HT.out.below hb); clear hb)
        go_ret
        exact ⟨by rw [← hr.out, HE.out, hq.out]; rfl, HT1.out.lo⟩
    · have HE := Aside0.mk (checkT_none HZ.out)
      go_wp2
      go_ret
      exact ⟨by rw [← hr.out, HE.out]; rfl, HT.out.lo⟩
def table_Check.f (l0_0 : List ByteArray) (l0_1 : List (List ByteArray)) : Option Int := if okT l0_0 l0_1 = true then some (checkT l0_0 l0_1) else none
theorem table_Check.calls (A0_0 : Option Addr) (c0_0 : Nat) (l0_0 : List ByteArray) (A0_1 : Option Addr) (c0_1 : Nat) (l0_1 : List (List ByteArray)) (r : Int) (w : World) (hr0_0 : Kd.C Kd.string w A0_0 l0_0.length l0_0) (hc0_0 : l0_0.length ≤ c0_0) (hr0_1 : Kd.C (Kd.slice 9 Kd.string) w A0_1 l0_1.length l0_1) (hc0_1 : l0_1.length ≤ c0_1) (h : table_Check.f l0_0 l0_1 = some r) :
    Calls Try.prog 30 #[.agg #[.slice A0_0 l0_0.length c0_0, .slice A0_1 l0_1.length c0_1]] w fun e w' => e = .returned (.int .i64 r) ∧ Below w.heap.size w w' := by
  unfold table_Check.f at h
  split at h
  · rename_i hl
    have h1 := Option.some.inj h
    subst h1
    exact check_calls A0_0 c0_0 l0_0 A0_1 c0_1 l0_1 w hr0_0 hc0_0 hr0_1 hl
  · exact nomatch h
end Go.Proofs.Ytbcpaojciephmaa.X
