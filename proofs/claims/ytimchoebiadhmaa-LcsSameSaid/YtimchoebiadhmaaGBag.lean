/- Package bag: the counting map, its closure, and the three exported functions, with what they compute. -/
import Derived.Test.YtimchoebiadhmaaGMap
import Derived.Test.YtimchoebiadhmaaWMore
import Derived.Test.YtimchoebiadhmaaProg
import Derived.WalkKit
import Derived.WalkSpells
import Derived.Outline
import Derived.OneCell
import Derived.Laws.EntriesVeiled
namespace Go.Proofs.Ytimchoebiadhmaa.X
open Go.RowKit Go.WideMaps Go.Maps Go.Proofs.YtimchoebiadhmaaW.PrintWords Go.Proofs.Ytimchoebiadhmaa.GMap
set_option linter.unusedVariables false

theorem lawS : Keyed Try.prog 9 := string_keyed Try.underlying9
theorem zeroI (w : World) : (zeroValue 3).run Try.prog w = .ok (.int .i64 0) w := by kernel_rfl
abbrev MapS (w : World) (b s : Nat) (f : List UInt8 → Option Int) : Prop := MapO Try.prog 9 3 encB w b s f
abbrev bts (s : ByteArray) : List UInt8 := s.data.toList
theorem keyS {s : ByteArray} (hs : s.size ≤ maxLen) : keyOf Try.prog 9 (.string s) = some (encB.lit (bts s)) := keyOf_string_mk Try.underlying9 hs

theorem ha (w : World) (o : Obj) (i : Nat) : (w.alloc o).heap[i]? = if i = w.heap.size then some o else w.heap[i]? := Array.getElem?_push

theorem strAt {w : World} {A : Option Addr} {l : List ByteArray} (h : Kd.C Kd.string w A l.length l) {k : Nat} (hk : k < l.length) : ∃ ad, A = some ad ∧ w.cell? (ad.add k) = some (.string (rdOf ByteArray.empty l (k : Int))) := by
  obtain ⟨ad, e, hx⟩ := Kd.at_string h (k : Int) (by omega) (by omega)
  exact ⟨ad, e, hx⟩

/-- Lists of texts that are looked at. -/
def okS (l : List ByteArray) : Bool := decide (l.length ≤ 100000) && l.all fun s => decide (s.size ≤ maxLen)
theorem okS_len {l : List ByteArray} (h : okS l = true) : l.length ≤ 100000 := by
  simp only [okS, Bool.and_eq_true, decide_eq_true_eq] at h; exact h.1
theorem okS_mem {l : List ByteArray} (h : okS l = true) : ∀ s ∈ l, s.size ≤ maxLen := by
  simp only [okS, Bool.and_eq_true, List.all_eq_true, decide_eq_true_eq] at h; exact h.2
theorem rdOf_mem {l : List ByteArray} {k : Nat} (h : k < l.length) : rdOf ByteArray.empty l (k : Int) ∈ l := by
  unfold rdOf
  rw [show (k : Int).toNat = k from rfl, List.getD_eq_getElem?_getD, List.getElem?_eq_getElem h]
  exact List.getElem_mem h
theorem take_rd {l : List ByteArray} {k : Nat} (h : k < l.length) : l.take (k + 1) = l.take k ++ [rdOf ByteArray.empty l (k : Int)] := by
  unfold rdOf
  rw [show (k : Int).toNat = k from rfl, List.getD_eq_getElem?_getD, List.getElem?_eq_getElem h, List.take_succ_eq_append_getElem h]; rfl
theorem drop_rd {l : List ByteArray} {k : Nat} (h : k < l.length) : l.drop k = rdOf ByteArray.empty l (k : Int) :: l.drop (k + 1) := by
  unfold rdOf
  rw [show (k : Int).toNat = k from rfl, List.getD_eq_getElem?_getD, List.getElem?_eq_getElem h, List.drop_eq_getElem_cons h]; rfl

/-- What the map holds once a list is counted. -/
def cnt (l : List ByteArray) (k : List UInt8) : Nat := (l.filter fun s => decide (bts s = k)).length
def cntO (l : List ByteArray) (k : List UInt8) : Option Int := if cnt l k = 0 then none else some (cnt l k)
theorem cnt_le (l : List ByteArray) (k) : cnt l k ≤ l.length := List.length_filter_le _ _
theorem cnt_snoc (l : List ByteArray) (s : ByteArray) (k) : cnt (l ++ [s]) k = cnt l k + if bts s = k then 1 else 0 := by
  unfold cnt
  rw [List.filter_append]
  by_cases h : bts s = k <;> simp [h]
theorem cntO_getD (l : List ByteArray) (k) : (cntO l k).getD 0 = cnt l k := by
  unfold cntO; split <;> simp_all
theorem cntO_snoc (l : List ByteArray) (s : ByteArray) : cntO (l ++ [s]) = upd (cntO l) (bts s) ((cntO l (bts s)).getD 0 + 1) := by
  funext k
  unfold upd
  rw [cntO_getD]
  unfold cntO
  rw [cnt_snoc]
  by_cases h : k = bts s
  · subst h; simp
  · rw [if_neg h]; have h' : ¬ bts s = k := fun e => h e.symm
    simp [h']

theorem count1_calls (x : ByteArray) (B b n : Nat) (f : List UInt8 → Option Int) (v : Int) (w : World) (hv : Aside0 ((f (bts x)).getD 0 = v)) (hx : x.size ≤ maxLen)
    (hc : w.cell? ⟨B, 0, none⟩ = some (.map (some b))) (hm : MapS w b n f) :
    Calls Try.prog 31 #[.string x, .pointer (some ⟨B, 0, none⟩)] w fun e w' => e = .returned (.int .i64 v) ∧ w = w' := by
  go_enter Try.func31, Try.ntmps31
  go_wp2_with (first | (at_lookup; refine lookup_arm lawS Try.underlying38 Try.underlying3 zeroI rfl _ _ rfl b n f rfl hm _ _ rfl (keyS hx) ?_; intro hwc))
  go_ret
  exact ⟨by rw [← hv.out]; rfl, rfl⟩

set_option maxRecDepth 100000 in
set_option maxHeartbeats 400000 in
theorem count_calls (A : Option Addr) (c : Nat) (l : List ByteArray) (w : World) (hr : Kd.C Kd.string w A l.length l) (hl : okS l = true) :
    Calls Try.prog 26 #[.slice A l.length c] w fun e w' => ∃ B b s, e = .returned (.agg #[.map (some b), .func (.func 31) #[] #[.pointer (some ⟨B, 0, none⟩)]]) ∧ w.heap.size ≤ B ∧ w.heap.size ≤ b ∧ B ≠ b ∧ s ≤ l.length ∧
      w'.heap[B]? = some (.cells #[Value.map (some b)] 38 (0, 0)) ∧ MapS w' b s (cntO l) ∧ Below w.heap.size w w' := by
  have hmm := @run_makeMap Try.prog
  have hmf : ∀ (fn : Fn) (first cap : Array Value) (w : World), (Instr.makeFunc fn first cap).run Try.prog w = .ok (.func fn first cap) w := fun _ _ _ _ => rfl
  have HR := Aside0.mk hr
  have HL := Aside0.mk hl
  have hlen := okS_len hl
  clear hr hl
  go_enter Try.func26, Try.ntmps26
  go_wp2
  go_loopw [9] (fun i wr => ∃ k s : Nat, k ≤ l.length ∧ s ≤ k ∧ i = .int .i64 k ∧ MapS wr (w.heap.size + 1) s (cntO (l.take k)) ∧ wr.heap[w.heap.size + 1 + 1]? = some (.cells #[Value.map (some (w.heap.size + 1))] 38 (0, 0)) ∧ wr.heap[w.heap.size]? = some (.cells #[Value.map none, Value.nilFunc] 41 (0, 0)) ∧ Below w.heap.size w wr)
    (fun i _ => l.length - (intOf i).toNat)
  case atStart =>
    refine ⟨0, 0, Nat.zero_le _, Nat.le_refl _, rfl, ?_, ?_, ?_, ?_⟩
    · have h := (MapO.made Try.prog 9 3 encB (w.alloc (.cells #[Value.map none, Value.nilFunc] 41))).alloc (.cells #[Value.map (some (w.heap.size + 1))] 38)
      have e : cntO (l.take 0) = fun _ => none := by funext k; simp [cntO, cnt]
      rw [e]; simpa using h
    · rw [ha, if_pos (by simp)]
    · rw [ha, if_neg (by simp; omega), ha, if_neg (by simp), ha, if_pos rfl]
    · exact (((Below.refl _ _).alloc (Nat.le_refl _) _).alloc (by simp) _).alloc (by simp; omega) _
  case round =>
    obtain ⟨k, s, hk, hs, rfl, hm, hB, hR, hb⟩ := hrel
    by_cases hlt : k < l.length
    · have HR2 := Aside0.mk (Kd.C_below HR.out hb)
      have hsz := okS_mem HL.out _ (rdOf_mem hlt)
      have htk := Aside0.mk (take_rd hlt)
      obtain ⟨ad, eA, hx⟩ := strAt HR2.out hlt
      cases eA
      generalize hy : rdOf ByteArray.empty l (k : Int) = y at *
      have hc := cell_of_one hB
      go_wp2_with (first
        | (at_lookup; refine lookup_arm lawS Try.underlying38 Try.underlying3 zeroI rfl _ _ rfl _ s _ rfl hm _ _ rfl (keyS hsz) ?_; intro hwc)
        | (at_mapUpdate; refine store_arm lawS Try.underlying38 Try.underlying3 rfl _ _ _ rfl _ s _ rfl hm (by unfold maxLen; omega) _ _ rfl (keyS hsz) _ rfl (wrap64_wf _) ?_; intro w1 hm1 hg1))
      have hcl := cnt_le (l.take k) (bts y)
      rw [List.length_take] at hcl
      rw [cntO_getD, show wrap64 ((cnt (l.take k) (bts y) : Int) + 1) = (cntO (l.take k) (bts y)).getD 0 + 1 from by rw [cntO_getD]; unfold wrap64; omega, ← cntO_snoc, ← htk.out] at hm1
      have hg2 := grow_le (cntO (l.take k)) (bts y) s
      clear hm hx hwc
      go_roundw
      case rel =>
        refine ⟨k + 1, _, by omega, ?_, by go_num, hm1, ?_, ?_, ?_⟩
        · omega
        · exact (hg1.block _ (lt_of_block hB) (by simp)).trans hB
        · exact (hg1.block _ (lt_of_block hR) (by simp)).trans hR
        · exact hb.grown hg1 hb.size (fun j hj => by cases hj; omega)
      case measure => simp [intOf]; omega
    · have hk' : k = l.length := by omega
      subst hk'
      have hc := cell_of_one hB
      have hr0 : wr.cell? ⟨w.heap.size, 0, none⟩ = some (.map none) := by simp [World.cell?, hR]
      have hr1 : wr.cell? ⟨w.heap.size, 1, none⟩ = some .nilFunc := by simp [World.cell?, hR]
      have hf0 : wr.frozen? ⟨w.heap.size, 0, none⟩ = false := by simp [World.frozen?, hR]
      have hf1 : wr.frozen? ⟨w.heap.size, 1, none⟩ = false := by simp [World.frozen?, hR]
      go_wp2
      refine bodyPost_ret (v := .agg #[.map (some (w.heap.size + 1)), .func (.func 31) #[] #[.pointer (some ⟨w.heap.size + 1 + 1, 0, none⟩)]]) (by simp [results, Try.results26, go_sem, hr0, hr1]) rfl ?_
      refine ⟨_, _, s, rfl, by omega, by omega, by omega, hs, ?_, ?_, ?_⟩
      · rw [Below.heap_setCell _ _ _ _ (by show _ ≠ w.heap.size; omega), Below.heap_setCell _ _ _ _ (by show _ ≠ w.heap.size; omega)]; exact hB
      · rw [List.take_length] at hm
        exact (hm.setCell (by simp) _).setCell (by simp) _
      · exact (hb.setCell (by simp) _).setCell (by simp) _

def ovl : List ByteArray → (List UInt8 → Int) → Int
  | [], _ => 0
  | s :: l, f => if 0 < f (bts s) then ovl l (fun k => if k = bts s then f k - 1 else f k) + 1 else ovl l f
/-- What two have in common. -/
def bag_Overlap.f (a b : List ByteArray) : Option Int := if okS a && okS b then some (ovl a (fun k => cnt b k)) else none
theorem ovl_yes {s : ByteArray} {l f} (h : 0 < f (bts s)) : ovl (s :: l) f = ovl l (fun k => if k = bts s then f k - 1 else f k) + 1 := by rw [ovl, if_pos h]
theorem ovl_no {s : ByteArray} {l f} (h : ¬ 0 < f (bts s)) : ovl (s :: l) f = ovl l f := by rw [ovl, if_neg h]
theorem upd_getD (f : List UInt8 → Option Int) (y : List UInt8) (v : Int) : (fun k => (upd f y v k).getD 0) = fun k => if k = y then v else (f k).getD 0 := by
  funext k; unfold upd; split <;> rfl

/-- The loop of Overlap: how far it has come. -/
def OvlAt (a b : List ByteArray) (k n : Nat) (f : List UInt8 → Option Int) : Prop := n ≤ k ∧ (n : Int) + ovl (a.drop k) (fun x => (f x).getD 0) = ovl a (fun k => cnt b k) ∧ ∀ x, 0 ≤ (f x).getD 0 ∧ (f x).getD 0 ≤ 100000
theorem OvlAt.start {a b : List ByteArray} (hb : b.length ≤ 100000) : OvlAt a b 0 0 (cntO b) := by
  refine ⟨Nat.le_refl _, ?_, fun x => ?_⟩
  · have : (fun x => (cntO b x).getD 0) = fun k => (cnt b k : Int) := by funext x; rw [cntO_getD]
    rw [List.drop_zero, this, Int.natCast_zero, Int.zero_add]
  · have := cnt_le b x; rw [cntO_getD]; omega
theorem OvlAt.yes {a b : List ByteArray} {k n : Nat} {f} {s : ByteArray} {v : Int} (h : OvlAt a b k n f) (hd : a.drop k = s :: a.drop (k + 1)) (hv : (f (bts s)).getD 0 = v) (h0 : 0 < v) : OvlAt a b (k + 1) (n + 1) (upd f (bts s) (v - 1)) := by
  obtain ⟨h1, h2, h3⟩ := h
  rw [hd, ovl_yes (by rw [hv]; exact h0)] at h2
  refine ⟨by omega, ?_, fun x => ?_⟩
  · rw [upd_getD, ← h2]
    have : (fun k => if k = bts s then v - 1 else (f k).getD 0) = fun k => if k = bts s then (f k).getD 0 - 1 else (f k).getD 0 := by
      funext k; by_cases e : k = bts s
      · subst e; rw [if_pos rfl, if_pos rfl, hv]
      · rw [if_neg e, if_neg e]
    rw [this]; omega
  · have := congrFun (upd_getD f (bts s) (v - 1)) x
    rw [this]
    have h4 := h3 x
    have h5 := h3 (bts s)
    split <;> omega
theorem OvlAt.no {a b : List ByteArray} {k n : Nat} {f} {s : ByteArray} {v : Int} (h : OvlAt a b k n f) (hd : a.drop k = s :: a.drop (k + 1)) (hv : (f (bts s)).getD 0 = v) (h0 : ¬ 0 < v) : OvlAt a b (k + 1) n f := by
  obtain ⟨h1, h2, h3⟩ := h
  rw [hd, ovl_no (by rw [hv]; exact h0)] at h2
  exact ⟨by omega, h2, h3⟩
theorem OvlAt.end_ {a b : List ByteArray} {n : Nat} {f} (h : OvlAt a b a.length n f) : (n : Int) = ovl a (fun k => cnt b k) := by
  have := h.2.1
  rw [List.drop_length] at this
  simpa [ovl] using this
theorem OvlAt.val {a b : List ByteArray} {k n : Nat} {f} {x : List UInt8} {v : Int} (h : OvlAt a b k n f) (hv : (f x).getD 0 = v) : 0 ≤ v ∧ v ≤ 100000 := by
  rw [← hv]; exact h.2.2 x

set_option maxRecDepth 100000 in
set_option maxHeartbeats 400000 in
theorem bag_Overlap.calls (A0 : Option Addr) (c0 : Nat) (l0 : List ByteArray) (A1 : Option Addr) (c1 : Nat) (l1 : List ByteArray) (r : Int) (w : World) (hr0 : Kd.C Kd.string w A0 l0.length l0) (hc0 : l0.length ≤ c0) (hr1 : Kd.C Kd.string w A1 l1.length l1) (hc1 : l1.length ≤ c1) (h : bag_Overlap.f l0 l1 = some r) :
    Calls Try.prog 13 #[.slice A0 l0.length c0, .slice A1 l1.length c1] w fun e w' => e = .returned (.int .i64 r) ∧ Below w.heap.size w w' := by
  unfold bag_Overlap.f at h
  split at h
  · rename_i hok
    simp only [Bool.and_eq_true] at hok
    obtain ⟨hok0, hok1⟩ := hok
    have H := Aside0.mk (Option.some.inj h)
    have HR0 := Aside0.mk hr0
    have HR1 := Aside0.mk hr1
    have HL0 := Aside0.mk hok0
    have HL1 := Aside0.mk hok1
    have hlen := okS_len hok0
    clear h hr0 hr1 hok0 hok1 hc0 hc1
    go_enter Try.func13, Try.ntmps13
    go_wp2_with (go_at_call 26; refine (count_calls A1 c1 l1 _ HR1.out HL1.out).mono ?_; rintro e w1 ⟨B, b, s, rfl, hB0, hb0, hBb, hs, hB, hm, hb⟩)
    go_loopw [6, 13] (fun vn vi wr => ∃ k n s f, k ≤ l0.length ∧ s ≤ 100000 + k ∧ vi = .int .i64 (k : Nat) ∧ vn = .int .i64 (n : Nat) ∧ Aside0 (OvlAt l0 l1 k n f) ∧ Aside0 (MapS wr b s f) ∧
        wr.heap[B]? = some (.cells #[Value.map (some b)] 38 (0, 0)) ∧
        wr.heap[w1.heap.size]? = some (.cells #[Value.map (some b), .func (.func 31) #[] #[.pointer (some ⟨B, 0, none⟩)]] 41 (0, 0)) ∧ Below w.heap.size w wr)
      (fun _ vi _ => l0.length - (intOf vi).toNat)
    case atStart =>
      have hB1 := lt_of_block hB
      refine ⟨0, 0, s, cntO l1, Nat.zero_le _, ?_, rfl, rfl, ⟨OvlAt.start (okS_len HL1.out)⟩, ⟨hm.alloc _⟩, ?_, ?_, hb.alloc hb.size _⟩
      · have := okS_len HL1.out; omega
      · rw [ha, if_neg (by omega)]; exact hB
      · rw [ha, if_pos rfl]
    case round =>
      obtain ⟨k, n, s', f, hk, hs', rfl, rfl, HO, HM, hB', hT, hb'⟩ := hrel
      have hc := cell_of_one hB'
      have hr0 : wr.cell? ⟨w1.heap.size, 0, none⟩ = some (.map (some b)) := by simp [World.cell?, hT]
      have hr1 : wr.cell? ⟨w1.heap.size, 1, none⟩ = some (.func (.func 31) #[] #[.pointer (some ⟨B, 0, none⟩)]) := by simp [World.cell?, hT]
      by_cases hlt : k < l0.length
      · have HR2 := Aside0.mk (Kd.C_below HR0.out hb')
        have hsz := okS_mem HL0.out _ (rdOf_mem hlt)
        have hdr := Aside0.mk (drop_rd hlt)
        obtain ⟨ad, eA, hx⟩ := strAt HR2.out hlt
        cases eA
        generalize rdOf ByteArray.empty l0 (k : Int) = y at *
        obtain ⟨v, hv⟩ : ∃ v, Aside0 ((f (bts y)).getD 0 = v) := ⟨_, ⟨rfl⟩⟩
        have hvb := HO.out.val hv.out
        have hn := HO.out.1
        by_cases h0 : 0 < v
        · have HO2 := Aside0.mk (HO.out.yes hdr.out hv.out h0)
          go_wp2_with (first
            | (go_at_call 31; refine (count1_calls y B b s' f v _ hv hsz (by assumption) HM.out).mono ?_; rintro e w' ⟨rfl, rfl⟩)
            | (at_lookup; refine lookup_arm lawS Try.underlying38 Try.underlying3 zeroI rfl _ _ rfl _ s' _ rfl HM.out _ _ rfl (keyS hsz) ?_; rw [hv.out]; intro hwc)
            | (at_mapUpdate; refine store_arm lawS Try.underlying38 Try.underlying3 rfl _ _ _ rfl _ s' _ rfl HM.out (by unfold maxLen; omega) _ _ rfl (keyS hsz) (v - 1) rfl (by exact WalkArith.wf_i64 (by omega)) ?_; intro w2 hm1 hg1))
          have hgs := grow_le f (bts y) s'
          clear hc hr0 hr1 hx
          go_roundw
          case rel =>
            refine ⟨k + 1, n + 1, _, _, by omega, ?_, by go_num, by go_num, HO2, ⟨hm1⟩, ?_, ?_, hb'.grown hg1 hb'.size (fun j hj => by cases hj; omega)⟩
            · omega
            · exact (hg1.block _ (lt_of_block hB') (by simpa using fun e => hBb e)).trans hB'
            · exact (hg1.block _ (lt_of_block hT) (by have := hm.lt; simp; omega)).trans hT
          case measure => simp [intOf]; omega
        · have HO2 := Aside0.mk (HO.out.no hdr.out hv.out h0)
          go_wp2_with (first
            | (go_at_call 31; refine (count1_calls y B b s' f v _ hv hsz (by assumption) HM.out).mono ?_; rintro e w' ⟨rfl, rfl⟩))
          clear hc hr0 hr1 hx
          go_roundw
          case rel => exact ⟨k + 1, n, _, _, by omega, by omega, by go_num, rfl, HO2, HM, hB', hT, hb'⟩
          case measure => simp [intOf]; omega
      · have hk' : k = l0.length := by omega
        subst hk'
        go_wp2
        go_ret
        refine ⟨?_, hb'⟩
        rw [← H.out, ← HO.out.end_]; rfl
  · cases h

/-- How often a text is in a list. -/
def bag_Count.f (l : List ByteArray) (s : ByteArray) : Option Int := if okS l && decide (s.size ≤ maxLen) then some ((cnt l (bts s) : Nat) : Int) else none

set_option maxRecDepth 100000 in
theorem bag_Count.calls (A0 : Option Addr) (c0 : Nat) (l0 : List ByteArray) (a1 : ByteArray) (r : Int) (w : World) (hr0 : Kd.C Kd.string w A0 l0.length l0) (hc0 : l0.length ≤ c0) (h : bag_Count.f l0 a1 = some r) :
    Calls Try.prog 17 #[.slice A0 l0.length c0, .string a1] w fun e w' => e = .returned (.int .i64 r) ∧ Below w.heap.size w w' := by
  unfold bag_Count.f at h
  split at h
  · rename_i hok
    simp only [Bool.and_eq_true, decide_eq_true_eq] at hok
    obtain ⟨hok0, hsz⟩ := hok
    have H := Aside0.mk (Option.some.inj h)
    have HV := Aside0.mk (cntO_getD l0 (bts a1))
    have HR0 := Aside0.mk hr0
    have HL0 := Aside0.mk hok0
    clear h hr0 hok0 hc0
    have hfd : ∀ (x y : Value) (w : World), (Instr.field 41 (.agg #[x, y]) 1).run Try.prog w = .ok y w := fun _ _ _ => by rfl
    go_enter Try.func17, Try.ntmps17
    go_wp2_with (first
      | (go_at_call 26; refine (count_calls A0 c0 l0 _ HR0.out HL0.out).mono ?_; rintro e w1 ⟨B, b, s, rfl, hB0, hb0, hBb, hs, hB, hm, hb⟩; have hc := cell_of_one hB)
      | (go_at_call 31; refine (count1_calls a1 _ _ _ _ _ _ HV hsz (by assumption) (by assumption)).mono ?_; rintro e w2 ⟨rfl, rfl⟩))
    go_ret
    exact ⟨by rw [← H.out]; rfl, by assumption⟩
  · cases h
end Go.Proofs.Ytimchoebiadhmaa.X
