/- table.Records. -/
import Derived.Test.YtbcpaojciephmaaGCheck0
namespace Go.Proofs.Ytbcpaojciephmaa.X
open Go.RowKit Go.Maps Go.Shelf Go.Proofs.YtbcpaojciephmaaW.PrintWords Go.Proofs.YtbcpaojciephmaaW.PrintLast
set_option linter.unusedVariables false

theorem own_full {W : World} {base n : Nat} {v : Value} {cs : List Value} {e : TypeId} (ho : W.ownsRow base e 1 v n cs) (hn : 0 < n) : ∃ g cap cur, v = .slice (some ⟨g, 0, none⟩) n cap ∧ base ≤ g ∧ W.heap[g]? = some (.cells cur e (0, 0)) ∧ n ≤ cap ∧ cap ≤ maxLen ∧ cur.size = cap ∧ ∀ (i : Nat) (u : Value), cs[i]? = some u → cur[i]? = some u := by
  rcases ho.2 with ⟨_, h0⟩ | ⟨g, cap, cur, hv, hb, hh, hc, hm, hs, ht⟩
  · omega
  · refine ⟨g, cap, cur, hv, hb, hh, hc, hm, by omega, fun i u hi => ?_⟩
    have hlt : i < cs.length := (List.getElem?_eq_some_iff.1 hi).1
    rw [ho.1] at hlt
    rw [← ht, List.getElem?_take_of_lt (by omega), Array.getElem?_toList] at hi
    exact hi
/-- Records' loop: rows below i are clones, the others as they were handed over. -/
structure RecAt (w W : World) (g cap : Nat) (L : List (List ByteArray)) (i : Nat) (cur : Array Value) (f : Nat → Nat) : Prop where
  b : W.heap[g]? = some (.cells cur 22 (0, 0))
  z : cur.size = cap
  d : ∀ j x, L[j]? = some x → j < i → ∃ v, cur[j]? = some v ∧ Kd.R Kd.string 9 W w.heap.size (fun k => k ≠ g ∧ f k = j) v x
  u : ∀ j x, L[j]? = some x → i ≤ j → ∃ A c, cur[j]? = some (.slice A x.length c) ∧ x.length ≤ c ∧ Kd.C Kd.string w A x.length x
  lo : Below w.heap.size w W
theorem RecAt.step {w W W1 : World} {g cap : Nat} {L : List (List ByteArray)} {i : Nat} {cur : Array Value} {f : Nat → Nat} (h : RecAt w W g cap L i cur f) (hg : w.heap.size ≤ g) (hn : L.length ≤ cap) {v : Value} {x : List ByteArray} (hx : L[i]? = some x) (hb : Below W.heap.size W W1) (hv : Kd.R Kd.string 9 W1 W.heap.size (fun _ => True) v x) :
    RecAt w (W1.setCell ⟨g, i, none⟩ v) g cap L (i + 1) (cur.setIfInBounds i v) (fun k => if W.heap.size ≤ k then i else f k) := by
  have hgW := lt_of_block h.b
  have hiL := (List.getElem?_eq_some_iff.1 hx).1
  have hb1 : W1.heap[g]? = some (.cells cur 22 (0, 0)) := (hb.block _ hgW).trans h.b
  refine ⟨heap_setCell_same _ _ _ _ _ _ hb1, by rw [Array.size_setIfInBounds]; exact h.z, fun j y hy hj => ?_, fun j y hy hj => ?_, ?_⟩
  · rcases Nat.lt_or_ge j i with hlt | hge
    · obtain ⟨u, hu, hR⟩ := h.d j y hy hlt
      refine ⟨u, by rw [Array.getElem?_setIfInBounds_ne (by omega)]; exact hu, ?_⟩
      have h1 := Kd.R_below (Kd.R_bound hR) hb
      refine Kd.R_mono (Kd.R_far (p := ⟨g, i, none⟩) h1 (fun k hk => hk.1.1) v) (fun k hk => ⟨hk.1.1, ?_⟩)
      have := hk.2.2.1
      rw [if_neg (by omega)]; exact hk.1.2
    · obtain rfl : j = i := by omega
      rw [hx] at hy
      cases hy
      refine ⟨v, by rw [Array.getElem?_setIfInBounds_self_of_lt (by rw [h.z]; omega)], ?_⟩
      have h1 := Kd.R_bound hv
      refine Kd.R_lower (Kd.R_mono (Kd.R_far (p := ⟨g, j, none⟩) h1 (fun k hk => by have := hk.2.1; show k ≠ g; omega) v) (fun k hk => ?_)) h.lo.size
      have := hk.2.1
      exact ⟨by omega, if_pos this⟩
  · obtain ⟨A, c, h1, h2, h3⟩ := h.u j y hy (by omega)
    exact ⟨A, c, by rw [Array.getElem?_setIfInBounds_ne (by omega)]; exact h1, h2, h3⟩
  · exact (h.lo.trans (hb.mono h.lo.size)).setCell (by show w.heap.size ≤ g; exact hg) _
theorem RecAt.end_ {w W : World} {g cap : Nat} {L : List (List ByteArray)} {cur : Array Value} {f : Nat → Nat} (h : RecAt w W g cap L L.length cur f) (hg : w.heap.size ≤ g) (hn : L.length ≤ cap) (hm : cap ≤ maxLen) :
    Kd.S (Kd.slice 9 Kd.string) 22 W w.heap.size (fun _ => True) (.slice (some ⟨g, 0, none⟩) L.length cap) L := by
  have hz : cur.toList.length = cap := by rw [Array.length_toList]; exact h.z
  refine ⟨f, fun _ _ => trivial, cur.toList.take L.length, ⟨?_, .inr ⟨g, cap, cur, by rw [List.length_zipIdx], hg, h.b, by rw [List.length_zipIdx]; exact hn, hm, ?_, by rw [List.length_zipIdx]; congr 1; show L.length * 1 = L.length; omega⟩⟩, ?_, ?_⟩
  · rw [List.length_take, hz, List.length_zipIdx]
    show _ = L.length * 1
    omega
  · rw [h.z]; show cap = cap * 1; omega
  · rw [List.length_take, hz, List.length_zipIdx]
    show _ = L.length * 1
    omega
  · rintro j ⟨x, q⟩ hj
    rw [List.getElem?_zipIdx, Nat.zero_add] at hj
    obtain ⟨y, hy, e⟩ := Option.map_eq_some_iff.1 hj
    cases e
    have hjl := (List.getElem?_eq_some_iff.1 hy).1
    obtain ⟨v, hv, hR⟩ := h.d j x hy hjl
    refine ⟨v, ?_, Kd.R_mono hR (fun k hk => ⟨⟨trivial, fun e => hk.1 (by simpa [Value.ownBlock] using e)⟩, hk.2⟩)⟩
    show ((cur.toList.take L.length).drop (j * 1)).take 1 = [v]
    have hv2 : (cur.toList.take L.length)[j]? = some v := by rw [List.getElem?_take_of_lt hjl, Array.getElem?_toList]; exact hv
    obtain ⟨hlt, hv3⟩ := List.getElem?_eq_some_iff.1 hv2
    rw [Nat.mul_one, List.drop_eq_getElem_cons hlt, hv3]; rfl

def okRec (hd : List ByteArray) (rows : List (List ByteArray)) : Bool := decide (hd.length ≤ 1000000) && decide (rows.length ≤ 1000000) && rows.all fun r => decide (r.length ≤ 1000000)
theorem okRec_at {hd : List ByteArray} {rows : List (List ByteArray)} (h : okRec hd rows = true) {j : Nat} {x : List ByteArray} (hx : (hd :: rows)[j]? = some x) : x.length ≤ 1000000 := by
  simp only [okRec, Bool.and_eq_true, decide_eq_true_eq, List.all_eq_true] at h
  have := List.mem_of_getElem? hx
  rcases List.mem_cons.1 this with rfl | h1
  · exact h.1.1
  · exact h.2 x h1
def table_Records.f (l0_0 : List ByteArray) (l0_1 : List (List ByteArray)) : Option (List (List ByteArray)) := if okRec l0_0 l0_1 = true then some (l0_0 :: l0_1) else none
set_option maxRecDepth 100000 in
set_option maxHeartbeats 2000000 in
theorem records_calls (A0 : Option Addr) (c0 : Nat) (hd : List ByteArray) (A1 : Option Addr) (c1 : Nat) (rows : List (List ByteArray)) (w : World) (hr0 : Kd.C Kd.string w A0 hd.length hd) (hc0 : hd.length ≤ c0) (hr1 : Kd.C (Kd.slice 9 Kd.string) w A1 rows.length rows) (hok : okRec hd rows = true) :
    Calls Try.prog 38 #[.agg #[.slice A0 hd.length c0, .slice A1 rows.length c1]] w fun e w' => ∃ v, e = .returned v ∧ Kd.S (Kd.slice 9 Kd.string) 22 w' w.heap.size (fun _ => True) v (hd :: rows) ∧ Below w.heap.size w w' := by
  have HR := Aside0.mk (And.intro hr0 hr1)
  have HOK := Aside0.mk hok
  have hlr : rows.length ≤ 1000000 := by
    simp only [okRec, Bool.and_eq_true, decide_eq_true_eq] at hok; exact hok.1.2
  obtain ⟨L, hL⟩ : ∃ L, L = hd :: rows := ⟨_, rfl⟩
  have hLl : L.length ≤ 1000001 := by rw [hL]; simp; omega
  have hLp : 0 < L.length := by rw [hL]; simp
  have HL := Aside0.mk hL
  rw [← hL]
  clear hr0 hr1 hok hL
  go_enter Try.func38, Try.ntmps38
  go_wp2_with (first
    | (go_at_call 70; refine (lists_calls A0 c0 hd A1 c1 rows w _ (below_alloc (Below.refl _ _) _) HR.out.1 hc0 HR.out.2 hlr).mono ?_; rintro e w1 ⟨v, cs, rfl, hcs, ho, hb⟩; rw [← HL.out] at hcs; rw [hcs.1] at ho; obtain ⟨g, cap, cur, rfl, hg, hcur, hcap, hmax, hsz, hcell⟩ := own_full ho hLp))
  rw [World.size_alloc] at hg
  have hbw : Below w.heap.size w w1 := (below_alloc (Below.refl _ _) _).trans (hb.mono (by simp))
  have HA : Aside0 (RecAt w w1 g cap L 0 cur (fun _ => 0)) := ⟨⟨hcur, hsz, fun j x hx hj => by omega, fun j x hx _ => by
    obtain ⟨A, c, h1, h2, h3⟩ := hcs.2 j x hx
    exact ⟨A, c, hcell j _ h1, h2, h3⟩, hbw⟩⟩
  have hgw : w.heap.size ≤ g := by omega
  clear hcs ho hb hcur hsz hcell hbw hg
  go_loopw [12] (fun vi wr => ∃ (i : Nat) (cu : Array Value) (f : Nat → Nat), vi = .int .i64 i ∧ i ≤ L.length ∧ Aside0 (RecAt w wr g cap L i cu f))
    (fun vi _ => L.length - (intOf vi).toNat)
  case atStart => exact ⟨0, cur, _, rfl, Nat.zero_le _, HA⟩
  case round =>
    obtain ⟨i, cu, f, rfl, hi, HI⟩ := hrel
    by_cases hlt : i < L.length
    · obtain ⟨x, hx⟩ : ∃ x, L[i]? = some x := ⟨_, List.getElem?_eq_getElem hlt⟩
      have HX := Aside0.mk hx
      obtain ⟨A, c, h1, h2, h3⟩ := HI.out.u i x hx (Nat.le_refl _)
      have hxc : wr.cell? ⟨g, i, none⟩ = some (.slice A x.length c) := by rw [blk_cell HI.out.b i]; exact h1
      have hfr := blk_frozen HI.out.b i
      have hxl : x.length ≤ 1000000 := okRec_at HOK.out (by rw [← HL.out]; exact hx)
      have HK := Aside0.mk (clone_calls A c x wr (Kd.C_below h3 HI.out.lo) h2 hxl)
      have hiI : (i : Int) < (L.length : Int) := by omega
      have hgr := lt_of_block HI.out.b
      have H1 := Aside0.mk h1
      clear h1 h3 hx HA
      go_wp2_with (go_at_call 56; refine HK.out.mono ?_; rintro e w2 ⟨v, rfl, hv, hb2⟩; obtain ⟨Av, cv, rfl⟩ := Kd.R_slice hv; have HS := Aside0.mk (HI.out.step hgw hcap HX.out hb2 hv); have hcb := (blk_cell ((hb2.block _ hgr).trans HI.out.b) i).trans H1.out; have hfb := blk_frozen ((hb2.block _ hgr).trans HI.out.b) i; clear hv hb2)
      go_roundw
      case rel => exact ⟨i + 1, _, _, by go_num, by omega, HS⟩
      case measure => simp [intOf]; omega
    · obtain rfl : i = L.length := by omega
      clear HA
      go_wp2
      go_ret
      exact ⟨_, rfl, HI.out.end_ hgw hcap hmax, HI.out.lo⟩
theorem table_Records.calls (A0_0 : Option Addr) (c0_0 : Nat) (l0_0 : List ByteArray) (A0_1 : Option Addr) (c0_1 : Nat) (l0_1 : List (List ByteArray)) (r : List (List ByteArray)) (w : World) (hr0_0 : Kd.C Kd.string w A0_0 l0_0.length l0_0) (hc0_0 : l0_0.length ≤ c0_0) (hr0_1 : Kd.C (Kd.slice 9 Kd.string) w A0_1 l0_1.length l0_1) (hc0_1 : l0_1.length ≤ c0_1) (h : table_Records.f l0_0 l0_1 = some r) :
    Calls Try.prog 38 #[.agg #[.slice A0_0 l0_0.length c0_0, .slice A0_1 l0_1.length c0_1]] w fun e w' => ∃ v0_, e = .returned v0_ ∧ Kd.S (Kd.slice 9 Kd.string) 22 w' w.heap.size (fun _ => True) v0_ r ∧ Below w.heap.size w w' := by
  unfold table_Records.f at h
  split at h
  · rename_i hl
    have h1 := Option.some.inj h
    subst h1
    exact records_calls A0_0 c0_0 l0_0 A0_1 c0_1 l0_1 w hr0_0 hc0_0 hr0_1 hl
  · exact nomatch h
end Go.Proofs.Ytbcpaojciephmaa.X
