/- order's iterator. -/
import Derived.Test.YthdfgkbfjpadbaaGChain
import Derived.ScopeJumps
import Derived.WalkMore
import Derived.RangeFuncNested
import Derived.RangeFuncBound
import Derived.RangeFuncCalls
import Derived.RangeFuncLeaves
import Derived.RangeFuncBox
import Derived.Shelf.Abstract
import Derived.OwnWalkIn
import Derived.TacticsInMore
import Derived.LoopNIn
import Derived.LoopIn
import Derived.Deep.RegionWith
namespace Go.Proofs.Ythdfgkbfjpadbaa.X
open Go.RowKit Go.WideMaps Go.Maps Go.ChangeMaps Go.Shelf Go.Proofs.YthdfgkbfjpadbaaW.PrintWords Go.Proofs.YthdfgkbfjpadbaaW.PrintLast Go.Proofs.Ythdfgkbfjpadbaa.GMap
set_option linter.unusedVariables false

theorem linked_get {fn : Int → Option Int} : ∀ {L : List Int} {i : Nat}, Linked fn L → i + 1 < L.length → (fn (L.getD i 0)).getD 0 = L.getD (i + 1) 0
  | a :: b :: r, 0, h, _ => h.1
  | a :: b :: r, i + 1, h, hi => by
    have := linked_get (L := b :: r) (i := i) h.2 (by simpa using hi)
    simpa using this
  | [], i, _, hi => by simp at hi
  | [a], i, _, hi => by simp at hi
theorem last_get {L : List Int} (hn : L.Nodup) {i : Nat} (hi : i < L.length) : lastV L (L.getD i 0) = if i + 1 = L.length then 2 else 1 := by
  have hg : L.getD i 0 = L[i] := by rw [List.getD_eq_getElem?_getD, List.getElem?_eq_getElem hi]; rfl
  rw [hg]
  unfold lastV
  rw [if_pos (List.getElem_mem hi)]
  have h1 : L.getLast? = some (L[L.length - 1]'(by omega)) := by
    rw [List.getLast?_eq_getElem?, List.getElem?_eq_getElem (by omega)]
  rw [h1]
  by_cases h : i + 1 = L.length
  · rw [if_pos h, if_pos]
    congr 2
    omega
  · rw [if_neg h, if_neg]
    intro e
    injection e with e
    have := (List.getElem_inj hn).1 e
    omega
theorem take_getD {L : List Int} {i : Nat} (h : i < L.length) : L.take (i + 1) = L.take i ++ [L.getD i 0] := by
  rw [List.take_succ_eq_append_getElem h, List.getD_eq_getElem?_getD, List.getElem?_eq_getElem h]; rfl
theorem idx_get {L : List Int} (hn : L.Nodup) {i : Nat} (hi : i < L.length) : L.idxOf (L.getD i 0) = i := by
  have hg : L.getD i 0 = L[i] := by rw [List.getD_eq_getElem?_getD, List.getElem?_eq_getElem hi]; rfl
  rw [hg]
  have h1 : L.idxOf L[i] < L.length := List.idxOf_lt_length_iff.2 (List.getElem_mem hi)
  exact (List.getElem_inj hn).1 (List.getElem_idxOf h1)
/-- What a round keeps: what lay before the call, and every block below hi but one. -/
def KpO (n₀ Bn hi : Nat) (A B : World) : Prop := Below n₀ A B ∧ ∀ k, k < hi → k ≠ Bn → B.heap[k]? = A.heap[k]?
theorem KpO.trans {n₀ Bn hi : Nat} {A B C : World} (h : KpO n₀ Bn hi A B) (k : KpO n₀ Bn hi B C) : KpO n₀ Bn hi A C := ⟨h.1.trans k.1, fun j hj hn => (k.2 j hj hn).trans (h.2 j hj hn)⟩
theorem KpO.put {n₀ Bn hi : Nat} {w : World} (hn : n₀ ≤ w.heap.size) (hhi : hi ≤ w.heap.size) (W : World) (l : Nat) (o o' : Obj) (hl : w.heap.size ≤ l) (h : W.heap[l]? = some o) (ho : o.isCells = false) (hw : o.isWalk = false) : KpO n₀ Bn hi W (W.putObj l o') :=
  ⟨belowK_b hn W l o o' hl h ho hw, fun k hk _ => World.putObj_heap_other (by omega)⟩
structure AllC (n0 : Nat) (w0 : World) (X nb lb : Nat) (L : List Int) (Bc : Nat) (W : World) : Prop where
  b : W.heap[Bc]? = some (.cells #[.pointer (some ⟨X, 0, none⟩)] 31 (0, 0))
  c : ChainAt n0 w0 X nb lb L W
theorem Ch.move {n0 : Nat} {w0 : World} {X nb lb sn sl : Nat} {fn fl : Int → Option Int} {L : List Int} {W W' : World} (h : Ch n0 w0 X nb lb sn sl fn fl L W) (hx : W'.heap[X]? = W.heap[X]?) (hn : W'.heap[nb]? = W.heap[nb]?) (hl : W'.heap[lb]? = W.heap[lb]?) (hb : LoX n0 w0 X nb lb W') : Ch n0 w0 X nb lb sn sl fn fl L W' :=
  ⟨hx.trans h.x, h.mn.block hn, h.ml.block hl, h.g, hb, h.bx, h.bn, h.bl, h.ne, h.sn, h.sl, h.wf⟩
theorem AllC.kp {n0 : Nat} {w0 : World} {X nb lb Bc Bn hi : Nat} {L : List Int} {W W' : World} (h : AllC n0 w0 X nb lb L Bc W) (hk : KpO n0 Bn hi W W') (h1 : Bc < hi ∧ X < hi ∧ nb < hi ∧ lb < hi) (h2 : Bc ≠ Bn ∧ X ≠ Bn ∧ nb ≠ Bn ∧ lb ≠ Bn) (h3 : w0.heap.size ≤ hi ∧ w0.heap.size ≤ Bn) : AllC n0 w0 X nb lb L Bc W' := by
  obtain ⟨b, sn, sl, fn, fl, hc⟩ := h
  exact ⟨(hk.2 _ h1.1 h2.1).trans b, sn, sl, fn, fl, hc.move (hk.2 _ h1.2.1 h2.2.1) (hk.2 _ h1.2.2.1 h2.2.2.1) (hk.2 _ h1.2.2.2 h2.2.2.2) ⟨hc.lo.b.trans hk.1, fun k hk1 q1 q2 q3 => (hk.2 k (by omega) (by omega)).trans (hc.lo.k k hk1 q1 q2 q3), hc.lo.n⟩⟩
set_option maxRecDepth 100000 in
set_option maxHeartbeats 4000000 in
theorem each_calls (n0 : Nat) (w0 : World) (Bn hi X nb lb Bc n l : Nat) (L : List Int) (hn : 1 ≤ n) (J Jx : List Int → World → Prop) (W : World) (hL : L.length ≤ 1000)
    (h1 : Bc < hi ∧ X < hi ∧ nb < hi ∧ lb < hi) (h2 : Bc ≠ Bn ∧ X ≠ Bn ∧ nb ≠ Bn ∧ lb ≠ Bn) (h3 : w0.heap.size ≤ hi ∧ w0.heap.size ≤ Bn)
    (hY : ∀ pre x W1, J pre W1 → pre.length < L.length → YieldAt Fence.wide (n - 1) Try.prog l #[.int .i64 x] W1 fun e W' =>
      (e = .returned (.bool true) ∧ J (pre ++ [x]) W' ∧ KpO n0 Bn hi W1 W') ∨ (e = .returned (.bool false) ∧ Jx (pre ++ [x]) W'))
    (hS : AllC n0 w0 X nb lb L Bc W) (h0 : J [] W) :
    Calls Try.prog 27 #[.func (.yield l) #[] #[], .pointer (some ⟨Bc, 0, none⟩)] W fun e W' => (∃ v, e = .returned v) ∧ ((∃ ys, ys = L ∧ J ys W') ∨ (∃ pre, pre <+: L ∧ Jx pre W')) := by
  have HY := Aside0.mk hY
  have HS := Aside0.mk hS
  have H0 := Aside0.mk h0
  have H12 := Aside0.mk (And.intro h1 (And.intro h2 h3))
  clear hY hS h0 h1 h2 h3
  have hb0 := blk_cell HS.out.b 0
  have hcc := HS.out.c
  obtain ⟨sn, sl, fn, fl, hc⟩ := hcc
  obtain ⟨c0, c1, c2, c3⟩ := hc.x.c
  clear hc
  by_cases hLe : L.length = 0
  · obtain rfl := List.eq_nil_of_length_eq_zero hLe
    clear sn sl fn fl
    go_enter Try.func27, Try.ntmps27
    go_wp2
    go_step3
    go_wp2
    (try simp only [Exit.noGoto])
    refine bodyPost_ret (results_none rfl _ _ _) rfl ?_
    exact ⟨⟨_, rfl⟩, .inl ⟨_, rfl, H0.out⟩⟩
  have hem : (!L.isEmpty) = true := by cases L with | nil => simp at hLe | cons c r => rfl
  rw [hem] at c3
  obtain ⟨hd, hhd⟩ : ∃ hd, hd = L.headD 0 := ⟨_, rfl⟩
  rw [← hhd] at c2
  have HHD := Aside0.mk hhd
  clear sn sl fn fl hem hhd
  go_enter Try.func27, Try.ntmps27
  go_wp2
  refine wp_scope_jumps 0 (fun a' w' => ∃ (i : Nat) (xi : Int) (u13 u14 u15 u16 u17 u18 u19 u20 u21 u22 u23 u24 u25 u26 u27 u28 u29 u30 : Value), a' = { tmps := #[.func (.yield l) #[] #[], .pointer (some ⟨Bc, 0, none⟩), undef, .int .i64 xi, .pointer (some ⟨X, 0, none⟩), .pointer (some ⟨X, 0, none⟩), .pointer (some ⟨X, 3, none⟩), .bool true, .bool false, .pointer (some ⟨X, 0, none⟩), .pointer (some ⟨X, 0, none⟩), .pointer (some ⟨X, 2, none⟩), .int .i64 hd, u13, u14, u15, u16, u17, u18, u19, u20, u21, u22, u23, u24, u25, u26, u27, u28, u29, u30], defers := [] } ∧ Aside0 (xi = L.getD i 0) ∧ i < L.length ∧ Aside0 (J (L.take i) w') ∧ Aside0 (AllC n0 w0 X nb lb L Bc w')) (fun a' _ => L.length - (L.idxOf (intOf (a'.tmps.getD 3 undef)))) (by rfl) ?first ?pass
  case pass =>
    rintro a' W1 ⟨i, xi, u13, u14, u15, u16, u17, u18, u19, u20, u21, u22, u23, u24, u25, u26, u27, u28, u29, u30, rfl, HXI, hi, HJ, HA⟩
    clear HS H0 hb0 c0 c1 c2 c3
    obtain ⟨fn', tmps', assign', body', hy, hR⟩ := HY.out (L.take i) xi _ HJ.out (by rw [List.length_take]; omega)
    refine (wpIn_wide (n := n)).1 ?_
    gi_wp2
    refine hR.mono ?_
    rintro e W3 (⟨rfl, hJ3, hk3⟩ | ⟨rfl, hJx3⟩)
    · have HA3 := Aside0.mk (HA.out.kp hk3 H12.out.1 H12.out.2.1 H12.out.2.2)
      have hb3 := blk_cell HA3.out.b 0
      have hc3 := HA3.out.c
      obtain ⟨sn, sl, fn, fl, hc3⟩ := hc3
      obtain ⟨c0, c1, c2, c3⟩ := hc3.x.c
      have hmem : L.getD i 0 ∈ L := by
        rw [List.getD_eq_getElem?_getD, List.getElem?_eq_getElem hi]; exact List.getElem_mem _
      have hwf := hc3.wf _ hmem
      have hlk := look_any hc3.ml hwf
      rw [hc3.g.last, last_get hc3.g.nd hi, ← HXI.out] at hlk
      have hnx := look_any hc3.mn hwf
      have hND := Aside0.mk hc3.g.nd
      have HT : Aside0 (J (L.take (i + 1)) W3) := ⟨by rw [take_getD hi, ← HXI.out]; exact hJ3⟩
      by_cases hl : i + 1 = L.length
      · rw [if_pos hl] at hlk
        clear hnx hc3 hJ3 hk3 hmem hwf
        gi_wp2
        (try simp only [Exit.jump])
        refine bodyPost_end (results_none rfl _ _ _) rfl ?_
        refine ⟨⟨_, rfl⟩, .inl ⟨_, rfl, ?_⟩⟩
        have h := HT.out
        rw [hl, List.take_of_length_le (Nat.le_refl _)] at h
        exact h
      · rw [if_neg hl] at hlk
        obtain ⟨y, hy2⟩ : ∃ y, y = L.getD (i + 1) 0 := ⟨_, rfl⟩
        rw [linked_get hc3.g.next (by omega), ← HXI.out, ← hy2] at hnx
        have HY2 := Aside0.mk hy2
        clear hy2
        clear hc3 hJ3 hk3 hmem hwf
        gi_wp2
        refine wpIn_goto ?_
        refine ⟨rfl, ⟨i + 1, y, _, _, _, _, _, _, _, _, _, _, _, _, _, _, _, _, _, _, rfl, HY2, by omega, HT, HA3⟩, ?_⟩
        show L.length - L.idxOf y < L.length - L.idxOf xi
        rw [HY2.out, HXI.out, idx_get hND.out (by omega), idx_get hND.out hi]
        omega
    · have HT : Aside0 (Jx (L.take (i + 1)) W3) := ⟨by rw [take_getD hi, ← HXI.out]; exact hJx3⟩
      clear hJx3
      gi_wp2
      (try simp only [Exit.jump])
      refine bodyPost_end (results_none rfl _ _ _) rfl ?_
      exact ⟨⟨_, rfl⟩, .inr ⟨_, List.take_prefix _ _, HT.out⟩⟩
  case first =>
    have hx0 : hd = L.getD 0 0 := by rw [HHD.out]; cases L <;> rfl
    have HXI := Aside0.mk hx0
    obtain ⟨i, hi0⟩ : ∃ i, i = 0 := ⟨_, rfl⟩
    have hi : i < L.length := by omega
    rw [← hi0] at HXI
    have HJ : Aside0 (J (L.take i) W) := ⟨by rw [hi0]; exact H0.out⟩
    have HA := HS
    have HI0 := Aside0.mk hi0
    clear hx0 hi0 H0
    go_wp2
    go_step3
    clear HS hb0 c0 c1 c2 c3
    rename_i Q_ K_ hK_
    refine hK_ _ _ ?_
    clear hK_
    obtain ⟨fn', tmps', assign', body', hy, hR⟩ := HY.out (L.take i) hd _ HJ.out (by rw [List.length_take]; omega)
    refine (wpIn_wide (n := n)).1 ?_
    gi_wp2
    refine hR.mono ?_
    rintro e W3 (⟨rfl, hJ3, hk3⟩ | ⟨rfl, hJx3⟩)
    · have HA3 := Aside0.mk (HA.out.kp hk3 H12.out.1 H12.out.2.1 H12.out.2.2)
      have hb3 := blk_cell HA3.out.b 0
      have hc3 := HA3.out.c
      obtain ⟨sn, sl, fn, fl, hc3⟩ := hc3
      obtain ⟨c0, c1, c2, c3⟩ := hc3.x.c
      have hmem : L.getD i 0 ∈ L := by
        rw [List.getD_eq_getElem?_getD, List.getElem?_eq_getElem hi]; exact List.getElem_mem _
      have hwf := hc3.wf _ hmem
      have hlk := look_any hc3.ml hwf
      rw [hc3.g.last, last_get hc3.g.nd hi, ← HXI.out] at hlk
      have hnx := look_any hc3.mn hwf
      have hND := Aside0.mk hc3.g.nd
      have HT : Aside0 (J (L.take (i + 1)) W3) := ⟨by rw [take_getD hi, ← HXI.out]; exact hJ3⟩
      by_cases hl : i + 1 = L.length
      · rw [if_pos hl] at hlk
        clear hnx hc3 hJ3 hk3 hmem hwf
        gi_wp2
        (try simp only [Exit.jump])
        refine bodyPost_end (results_none rfl _ _ _) rfl ?_
        refine ⟨⟨_, rfl⟩, .inl ⟨_, rfl, ?_⟩⟩
        have h := HT.out
        rw [hl, List.take_of_length_le (Nat.le_refl _)] at h
        exact h
      · rw [if_neg hl] at hlk
        obtain ⟨y, hy2⟩ : ∃ y, y = L.getD (i + 1) 0 := ⟨_, rfl⟩
        rw [linked_get hc3.g.next (by omega), ← HXI.out, ← hy2] at hnx
        have HY2 := Aside0.mk hy2
        clear hy2
        clear hc3 hJ3 hk3 hmem hwf
        gi_wp2
        refine wpIn_goto ?_
        exact ⟨rfl, i + 1, y, _, _, _, _, _, _, _, _, _, _, _, _, _, _, _, _, _, _, rfl, HY2, by omega, HT, HA3⟩
    · have HT : Aside0 (Jx (L.take (i + 1)) W3) := ⟨by rw [take_getD hi, ← HXI.out]; exact hJx3⟩
      clear hJx3
      gi_wp2
      (try simp only [Exit.jump])
      refine bodyPost_end (results_none rfl _ _ _) rfl ?_
      exact ⟨⟨_, rfl⟩, .inr ⟨_, List.take_prefix _ _, HT.out⟩⟩
end Go.Proofs.Ythdfgkbfjpadbaa.X
