/- table.Check's third closure: no name twice. -/
import Derived.Test.YtbcpaojciephmaaGCheck0
import Derived.WalkSpells
import Derived.Outline
import Derived.OneCell
namespace Go.Proofs.Ytbcpaojciephmaa.X
open Go.RowKit Go.WideMaps Go.Maps Go.Shelf Go.Proofs.YtbcpaojciephmaaW.PrintWords Go.Proofs.YtbcpaojciephmaaW.PrintLast Go.Proofs.Ytbcpaojciephmaa.GMap
set_option linter.unusedVariables false

theorem lawS : Keyed Try.prog 9 := string_keyed Try.underlying9
theorem zeroI (w : World) : (zeroValue 3).run Try.prog w = .ok (.int .i64 0) w := by kernel_rfl
abbrev MapS (w : World) (b s : Nat) (f : List UInt8 → Option Int) : Prop := MapO Try.prog 9 3 encB w b s f
abbrev bts (s : ByteArray) : List UInt8 := s.data.toList
theorem keyS {s : ByteArray} (hs : s.size ≤ maxLen) : keyOf Try.prog 9 (.string s) = some (encB.lit (bts s)) := keyOf_string_mk Try.underlying9 hs
theorem bts_inj {a b : ByteArray} (h : bts a = bts b) : a = b := by
  cases a; cases b; simpa [bts] using h
def cnt (l : List ByteArray) (k : List UInt8) : Nat := (l.filter fun s => decide (bts s = k)).length
def cntO (l : List ByteArray) (k : List UInt8) : Option Int := if cnt l k = 0 then none else some (cnt l k)
theorem cnt_le (l : List ByteArray) (k) : cnt l k ≤ l.length := List.length_filter_le _ _
theorem cnt_snoc (l : List ByteArray) (s : ByteArray) (k) : cnt (l ++ [s]) k = cnt l k + if bts s = k then 1 else 0 := by
  unfold cnt
  rw [List.filter_append]
  by_cases h : bts s = k <;> simp [h]
theorem cntO_getD (l : List ByteArray) (k) : (cntO l k).getD 0 = cnt l k := by
  unfold cntO; split <;> simp_all
theorem cntO_snoc (l : List ByteArray) (s : ByteArray) : cntO (l ++ [s]) = upd (cntO l) (bts s) ((cntO l (bts s)).getD 0 + 1) := by
  funext k
  unfold upd
  rw [cntO_getD]
  unfold cntO
  rw [cnt_snoc]
  by_cases h : k = bts s
  · subst h; simp
  · rw [if_neg h]; have h' : ¬ bts s = k := fun e => h e.symm
    simp [h']
theorem cntO_mem (l : List ByteArray) (s : ByteArray) : (cntO l (bts s)).isSome = true ↔ s ∈ l := by
  unfold cntO cnt
  constructor
  · intro h
    split at h
    · cases h
    · rename_i h0
      obtain ⟨x, hx⟩ := List.exists_mem_of_length_pos (Nat.pos_of_ne_zero h0)
      rw [List.mem_filter, decide_eq_true_eq] at hx
      rw [← bts_inj hx.2]; exact hx.1
  · intro h
    rw [if_neg]
    · rfl
    · have : s ∈ l.filter fun t => decide (bts t = bts s) := by rw [List.mem_filter]; exact ⟨h, by simp⟩
      exact Nat.ne_of_gt (List.length_pos_of_mem this)
/-- So many keys from so many names. -/
def DisAt (l : List ByteArray) (s : Nat) : Prop := s ≤ l.length ∧ (s = l.length ↔ l.Nodup)
theorem DisAt.snoc {l : List ByteArray} {s : Nat} (h : DisAt l s) (x : ByteArray) : DisAt (l ++ [x]) (grow (cntO l) (bts x) s) := by
  obtain ⟨h1, h2⟩ := h
  unfold grow
  by_cases hx : x ∈ l
  · rw [if_pos ((cntO_mem l x).2 hx)]
    refine ⟨by simp; omega, ⟨fun h => by simp at h; omega, fun h => ?_⟩⟩
    rw [List.nodup_append] at h
    exact absurd rfl (h.2.2 x hx x (by simp))
  · rw [if_neg (fun h => hx ((cntO_mem l x).1 h))]
    refine ⟨by simp; omega, ?_⟩
    rw [List.nodup_append]
    constructor
    · intro h
      refine ⟨h2.1 (by simp at h; omega), by simp, ?_⟩
      intro a ha b hb
      simp at hb
      subst hb
      exact fun e => hx (e ▸ ha)
    · intro h
      have := h2.2 h.1
      simp; omega
theorem rdOf_mem {l : List ByteArray} {k : Nat} (h : k < l.length) : rdOf ByteArray.empty l (k : Int) ∈ l := by
  unfold rdOf
  rw [show (k : Int).toNat = k from rfl, List.getD_eq_getElem?_getD, List.getElem?_eq_getElem h]
  exact List.getElem_mem h
section
variable (w0 : World) (A0 : Option Addr) (c0 : Nat) (hd : List ByteArray) (A1 : Option Addr) (c1 : Nat) (rows : List (List ByteArray)) (tb : Nat) (W : World)
set_option maxRecDepth 100000 in
set_option maxHeartbeats 800000 in
theorem check3_calls (h : TAt w0 A0 c0 hd A1 c1 rows tb W) (hl : hd.length ≤ 100000) (hs : ∀ s ∈ hd, s.size ≤ maxLen) :
    Calls Try.prog 64 #[.pointer (some ⟨tb, 0, none⟩)] W fun e w' => e = .returned (.int .i64 (if hd.Nodup then 0 else 10)) ∧ Below W.heap.size W w' := by
  obtain ⟨r, hr⟩ : ∃ r : Int, Aside0 ((if hd.Nodup then 0 else 10) = r) := ⟨_, ⟨rfl⟩⟩
  rw [hr.out]
  have hmm := @run_makeMap Try.prog
  have h0 := blk_cell h.t 0
  have f0 := blk_frozen h.t 0
  have h0m : (W.alloc (Obj.map #[] 0)).cell? ⟨tb, 0, none⟩ = some (.slice A0 hd.length c0) := blk_cell (h.below (below_alloc (Below.refl _ _) _)).t 0
  have f0m : (W.alloc (Obj.map #[] 0)).frozen? ⟨tb, 0, none⟩ = false := blk_frozen (h.below (below_alloc (Below.refl _ _) _)).t 0
  have H := Aside0.mk h
  have HS := Aside0.mk hs
  clear h hs
  go_enter Try.func64, Try.ntmps64
  go_wp2
  go_loopw [9] (fun i wr => ∃ k s : Nat, k ≤ hd.length ∧ s ≤ k ∧ i = .int .i64 k ∧ MapS wr W.heap.size s (cntO (hd.take k)) ∧ Aside0 (DisAt (hd.take k) s) ∧ Below W.heap.size W wr)
    (fun i _ => hd.length - (intOf i).toNat)
  case atStart =>
    refine ⟨0, 0, Nat.zero_le _, Nat.le_refl _, rfl, ?_, ⟨⟨by simp, by simp⟩⟩, (Below.refl _ _).alloc (Nat.le_refl _) _⟩
    have h := MapO.made Try.prog 9 3 encB W
    have e : cntO (hd.take 0) = fun _ => none := by funext k; simp [cntO, cnt]
    rw [e]; exact h
  case round =>
    obtain ⟨k, s, hk, hsk, rfl, hm, HD, hb⟩ := hrel
    by_cases hlt : k < hd.length
    · have hsz := HS.out _ (rdOf_mem hlt)
      have htk := Aside0.mk (take_rdB hlt)
      obtain ⟨ad, eA, hx⟩ := strAtA (Kd.C_below H.out.r0 (H.out.lo.trans (hb.mono H.out.lo.size))) hlt
      cases eA
      have hltI : (k : Int) < (hd.length : Int) := by omega
      generalize hy : rdOf ByteArray.empty hd (k : Int) = y at *
      clear h0 f0 h0m f0m hy
      go_wp2_with (first
        | (at_lookup; refine lookup_arm lawS Try.underlying71 Try.underlying3 zeroI rfl _ _ rfl _ s _ rfl hm _ _ rfl (keyS hsz) ?_; intro hwc)
        | (at_mapUpdate; refine store_arm lawS Try.underlying71 Try.underlying3 rfl _ _ _ rfl _ s _ rfl hm (by unfold maxLen; omega) _ _ rfl (keyS hsz) _ rfl (wrap64_wf _) ?_; intro w1 hm1 hg1))
      have hcl := cnt_le (hd.take k) (bts y)
      rw [List.length_take] at hcl
      have HD2 := HD.out.snoc y
      rw [cntO_getD, show wrap64 ((cnt (hd.take k) (bts y) : Int) + 1) = (cntO (hd.take k) (bts y)).getD 0 + 1 from by rw [cntO_getD]; unfold wrap64; omega, ← cntO_snoc, ← htk.out] at hm1
      rw [← htk.out] at HD2
      have hg2 := grow_le (cntO (hd.take k)) (bts y) s
      clear hm hx hwc
      go_roundw
      case rel =>
        exact ⟨k + 1, _, by omega, by omega, by go_num, hm1, ⟨HD2⟩, hb.grown hg1 hb.size (fun j hj => by cases hj; omega)⟩
      case measure => simp [intOf]; omega
    · obtain rfl : k = hd.length := by omega
      have hln := hm.len Try.underlying71
      have h0' : wr.cell? ⟨tb, 0, none⟩ = some (.slice A0 hd.length c0) := blk_cell (H.out.below hb).t 0
      have f0' := blk_frozen (H.out.below hb).t 0
      clear hm
      have hD := HD.out
      rw [List.take_length] at hD
      obtain ⟨hd1, hd2⟩ := hD
      have HN := Aside0.mk hd2
      clear hd2 h0 f0 h0m f0m
      by_cases hq : s = hd.length
      · have HQ := Aside0.mk (HN.out.1 hq)
        subst hq
        go_wp2_with (first | (go_at_call 60; refine (unless_calls _ _ _).mono ?_; rintro e w1 ⟨rfl, ⟨nd, rfl⟩⟩))
        go_ret
        exact ⟨by rw [← hr.out, if_pos HQ.out]; rfl, pw_below_drewN hb nd⟩
      · have HQ := Aside0.mk (fun h => hq (HN.out.2 h))
        have hqI : ((s : Int) == (hd.length : Int)) = false := by simp; omega
        have hqJ : ¬ (s : Int) = (hd.length : Int) := by omega
        go_wp2_with (first | (go_at_call 60; refine (unless_calls _ _ _).mono ?_; rintro e w1 ⟨rfl, ⟨nd, rfl⟩⟩))
        go_ret
        exact ⟨by rw [← hr.out, if_neg HQ.out]; simp, pw_below_drewN hb nd⟩
end
end Go.Proofs.Ytbcpaojciephmaa.X
