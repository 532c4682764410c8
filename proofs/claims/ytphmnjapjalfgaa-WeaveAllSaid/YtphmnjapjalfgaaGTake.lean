/- weave.goneAhead's closure. -/
import Derived.Test.YtphmnjapjalfgaaGSplit
namespace Go.Proofs.Ytphmnjapjalfgaa.X
open Go.RowKit Go.Maps Go.Proofs.YtphmnjapjalfgaaW.PrintWords Go.Proofs.YtphmnjapjalfgaaW.PrintLast Go.Proofs.YtphmnjapjalfgaaW.PrintMore Go.Proofs.Ytphmnjapjalfgaa.GMap
set_option linter.unusedVariables false

theorem C_heap {W W' : World} {A : Option Addr} {n : Nat} {xs : List Int} (h : Kd.C (Kd.int .i64) W A n xs) (hA : ∀ ad, A = some ad → W'.heap[ad.block]? = W.heap[ad.block]?) : Kd.C (Kd.int .i64) W' A n xs := by
  obtain ⟨h1, h2, h3⟩ := h
  refine ⟨h1, h2, fun hp => ?_⟩
  obtain ⟨ad, rfl, hc⟩ := h3 hp
  refine ⟨ad, rfl, fun j p hj => ?_⟩
  obtain ⟨cs, hl, hK, hu⟩ := hc j p hj
  refine ⟨cs, hl, hK, fun i u hiu => ?_⟩
  rw [← hu i u hiu]
  refine World.cell?_of_block ?_
  have hb : (ad.add (j * (Kd.int .i64).sz + i)).block = ad.block := by unfold Addr.add; split <;> rfl
  rw [hb]
  exact hA ad rfl
/-- The list of gone ones, in its box. -/
structure GAt (gb : Nat) (G : List Int) (A : Option Addr) (c : Nat) (W : World) : Prop where
  blk : W.heap[gb]? = some (.cells #[.slice A G.length c] 31 (0, 0))
  C : Kd.C (Kd.int .i64) W A G.length G
  le : G.length ≤ c
  ne : ∀ ad, A = some ad → ad.block ≠ gb
  lt : ∀ ad, A = some ad → ad.block < W.heap.size
theorem grown_trans {a b c : World} {r : Option Nat} (h : a.grownBy b r) (k : b.grownBy c r) : a.grownBy c r :=
  ⟨k.os.trans h.os, k.tape.trans h.tape, k.output.trans h.output, Nat.le_trans h.size k.size, fun i hi hr => (k.block i (Nat.lt_of_lt_of_le hi h.size) hr).trans (h.block i hi hr)⟩
theorem grown_refl (a : World) (r : Option Nat) : a.grownBy a r := ⟨rfl, rfl, rfl, Nat.le_refl _, fun _ _ _ => rfl⟩
def glen (gb : Nat) (W : World) : Nat := match W.cell? ⟨gb, 0, none⟩ with
  | some (.slice _ n _) => n
  | _ => 0
theorem GAt.glen {gb : Nat} {G : List Int} {A : Option Addr} {c : Nat} {W : World} (h : GAt gb G A c W) : X.glen gb W = G.length := by
  unfold X.glen
  rw [show W.cell? ⟨gb, 0, none⟩ = some (.slice A G.length c) from blk_cell h.blk 0]
def mkG (a : Int) : PS := ⟨a, -1⟩

/-- What the closure hands back, and leaves. -/
def TakeP (W : World) (K gb : Nat) (G : List Int) (u : Int → Bool) (e : Ending) (w' : World) : Prop :=
  ∃ v t, e = .returned v ∧ t ≤ G.length ∧ (∀ x ∈ G.take t, u x = false) ∧ (∀ x xs, G.drop t = x :: xs → u x = true) ∧ w'.ownsRow W.heap.size 37 2 v ((G.take t).map mkG).length (cellsS ((G.take t).map mkG)) ∧ (∃ A' c', GAt gb (G.drop t) A' c' w' ∧ ∀ ad, A' = some ad → ad.block < K) ∧ W.grownBy w' (some gb)

set_option maxRecDepth 100000 in
set_option maxHeartbeats 4000000 in
theorem take1_calls (G : List Int) (A : Option Addr) (c : Nat) (W : World) (gb pb : Nat) (b0 : Int) (h : GAt gb G A c W) (hp : W.cell? ⟨pb, 0, none⟩ = some (.int .i64 b0)) (hne : pb ≠ gb) (hl : G.length ≤ 1000000) (K : Nat) (hK : ∀ ad, A = some ad → ad.block < K) (hKW : K ≤ W.heap.size) :
    Calls Try.prog 52 #[.func (.func 46) #[] #[.pointer (some ⟨pb, 0, none⟩)], .pointer (some ⟨gb, 0, none⟩)] W (TakeP W K gb G fun a => decide (a > b0)) := by
  obtain ⟨i0, hi, hz0, hz1, hz2⟩ := info_parts info37
  obtain ⟨j0, hj, hy0, hy1, hy2⟩ := info_parts info3
  have HG := Aside0.mk h
  have hltg := lt_of_block h.blk
  have hltp : pb < W.heap.size := by
    rcases hc : W.heap[pb]? with _ | o
    · simp [World.cell?, hc] at hp
    · exact lt_of_block hc
  clear h
  go_enter Try.func52, Try.ntmps52
  go_wp2
  go_loopw [4] (fun vo wr => ∃ t, t ≤ G.length ∧ wr.ownsRow W.heap.size 37 2 vo ((G.take t).map mkG).length (cellsS ((G.take t).map mkG)) ∧ (∃ A' c', GAt gb (G.drop t) A' c' wr ∧ ∀ ad, A' = some ad → ad.block < K) ∧ W.grownBy wr (some gb) ∧ ∀ x ∈ G.take t, decide (x > b0) = false)
    (fun _ wr => glen gb wr)
  case atStart => exact ⟨0, Nat.zero_le _, by simpa [cellsS] using World.ownsRow_nil _ _ _ _, ⟨A, c, HG.out, hK⟩, grown_refl _ _, fun x hx => by simp at hx⟩
  case round =>
    obtain ⟨t, ht, ho, ⟨A', c', hg, hlt'⟩, hgr, hall⟩ := hrel
    have hc0 : wr.cell? ⟨gb, 0, none⟩ = some (.slice A' (G.drop t).length c') := blk_cell hg.blk 0
    have hf0 : wr.frozen? ⟨gb, 0, none⟩ = false := blk_frozen hg.blk 0
    have hp0 : wr.cell? ⟨pb, 0, none⟩ = some (.int .i64 b0) := (World.cell?_of_block (hgr.block pb hltp (fun e => hne (by simpa using e)))).trans hp
    have HG2 := Aside0.mk hg
    have HO := Aside0.mk ho
    have HA := Aside0.mk hall
    have HW := Aside0.mk hgr
    have HD := Aside0.mk (show (G.drop t).length = G.length - t from List.length_drop)
    clear hg ho hall hgr
    by_cases hz : (G.drop t).length = 0
    · rw [hz] at hc0
      have HE : Aside0 (TakeP W K gb G (fun a => decide (a > b0)) (.returned u4) wr) := ⟨⟨u4, t, rfl, ht, HA.out, fun x xs e => by rw [e] at hz; simp at hz, HO.out, ⟨A', c', HG2.out, hlt'⟩, HW.out⟩⟩
      go_wp2
      go_ret
      exact HE.out
    · obtain ⟨ad, eA, hx0⟩ := intAt HG2.out.C (k := 0) (by omega)
      cases eA
      have hadl := hlt' ad rfl
      clear hlt'
      have htk : G.take (t + 1) = G.take t ++ [rd (G.drop t) ((0 : Nat) : Int)] := by
        rw [take_rdI (by have := HD.out; omega)]
        congr 2
        unfold rd
        rw [show ((0 : Nat) : Int).toNat = 0 from rfl, show ((t : Int)).toNat = t from rfl, List.getD_eq_getElem?_getD, List.getD_eq_getElem?_getD, List.getElem?_drop, Nat.add_zero]
      have HT := Aside0.mk htk
      have hcons : ∀ x xs, G.drop t = x :: xs → rd (G.drop t) ((0 : Nat) : Int) = x := by
        intro x xs e
        rw [e]; rfl
      have HC := Aside0.mk hcons
      clear htk hcons
      have hx1 : wr.cell? ad = some (.int .i64 (rd (G.drop t) ((0 : Nat) : Int))) := hx0
      generalize rd (G.drop t) ((0 : Nat) : Int) = g at *
      have hcut := cut_from (P := Try.prog) 31 3 .i64 Try.underlying31 hj 1 hy1 (some ad) (G.drop t).length c' 1 (by omega) (by omega)
      have hdl := HG2.out.le
      have hgw := HG2.out.glen
      generalize hn : (G.drop t).length = n at *
      have n1 : 0 < n := by omega
      have n2 : (0 : Int) < (n : Int) := by omega
      clear hx0
      by_cases hu : b0 < g
      · have HE : Aside0 (TakeP W K gb G (fun a => decide (a > b0)) (.returned u4) wr) := ⟨⟨u4, t, rfl, ht, HA.out, fun x xs e => decide_eq_true (by rw [← HC.out x xs e]; exact hu), HO.out, ⟨_, c', HG2.out, fun ad2 e => by cases e; exact hadl⟩, HW.out⟩⟩
        go_wp2
        go_ret
        exact HE.out
      · have hml : ((G.take t).map mkG).length + 1 ≤ maxLen := by rw [List.length_map, List.length_take]; unfold maxLen; omega
        have hml2 : (((G.take t).map mkG).length + 1) * 16 ≤ 140737488355328 := by rw [List.length_map, List.length_take]; omega
        have q3 : W.heap.size ≤ (wr.drew.alloc (.cells #[.int .i64 g, .int .i64 (-1)] 37)).heap.size := by have h1 := HW.out.size; rw [World.size_alloc]; exact Nat.le_trans h1 (Nat.le_succ _)
        obtain ⟨A2, hA2⟩ : ∃ A2, A2 = (if c' = (1 : Int).toNat then (some ad) else (some ad).map (·.add ((1 : Int).toNat * 1))) := ⟨_, rfl⟩
        rw [← hA2] at hcut
        have hcut2 : ∀ W, Sem.run Try.prog (Instr.slice 31 (.slice (some ad) n c') (some (.int .i64 1)) none none) W = .ok (.slice A2 (n - 1) (c' - 1)) W := hcut
        have HA2 := Aside0.mk hA2
        clear hcut hA2
        go_wp2
        have hu' : decide (g > b0) = false := decide_eq_false (by omega)
        refine start_ (n := 11) (S := fun w' => w'.cell? ⟨gb, 0, none⟩ = some (.slice (some ad) n c') ∧ w'.cell? ad = some (.int .i64 g)) (ds := [10]) #[false, false, false, false, false, false, false, false, false, false, false] (by kernel_rfl) rfl rfl ⟨hc0, hx1⟩ (fun hHeld => ?_)
        have HG3 : Aside0 (GAt gb (G.drop t) (some ad) c' wr.drew) := ⟨⟨HG2.out.blk, C_heap HG2.out.C (fun _ _ => rfl), HG2.out.le, HG2.out.ne, HG2.out.lt⟩⟩
        have HO3 : Aside0 (wr.drew.ownsRow W.heap.size 37 2 u4 ((G.take t).map mkG).length (cellsS ((G.take t).map mkG))) := ⟨HO.out⟩
        have HW3 : Aside0 (W.grownBy wr.drew (some gb)) := ⟨⟨HW.out.os, HW.out.tape, HW.out.output, HW.out.size, HW.out.block⟩⟩
        clear HG2 HO HW hc0 hx1 hp0 hf0
        generalize wr.drew = W3 at *
        refine pure_ (i := 0) (N := some 16) (v := ?_) (a' := ?_) #[true, false, false, false, false, false, false, false, false, false, false] rfl rfl (by kernel_rfl) (fun _ _ _ h => h) (Or.inl ⟨by rfl, ?_⟩) ?_ ?_
        rotate_left
        · intro w'
          go_simp
          with_reducible rfl
        rotate_left
        · simp only [Act.put, List.setIfInBounds_toArray, List.set_cons_zero, List.set_cons_succ]
          rfl
        refine take_ (i := 1) (N := some 17) (v := ?_) (a' := ?_) #[true, true, false, false, false, false, false, false, false, false, false] rfl rfl (by kernel_rfl) (fun _ _ _ h => h) (Or.inl ⟨by rfl, ?_⟩) hHeld ?_ ?_
        rotate_left
        · rintro w' ⟨s0, s1⟩
          go_simp
          with_reducible rfl
        rotate_left
        · simp only [Act.put, List.setIfInBounds_toArray, List.set_cons_zero, List.set_cons_succ]
          rfl
        refine pure_ (i := 2) (N := some 18) (v := ?_) (a' := ?_) #[true, true, true, false, false, false, false, false, false, false, false] rfl rfl (by kernel_rfl) (fun _ _ _ h => h) (Or.inl ⟨by rfl, ?_⟩) ?_ ?_
        rotate_left
        · intro w'
          go_simp
          with_reducible rfl
        rotate_left
        · simp only [Act.put, List.setIfInBounds_toArray, List.set_cons_zero, List.set_cons_succ]
          rfl
        refine take_ (i := 3) (N := some 19) (v := ?_) (a' := ?_) #[true, true, true, true, false, false, false, false, false, false, false] rfl rfl (by kernel_rfl) (fun _ _ _ h => h) (Or.inl ⟨by rfl, ?_⟩) hHeld ?_ ?_
        rotate_left
        · rintro w' ⟨s0, s1⟩
          go_simp
          with_reducible rfl
        rotate_left
        · simp only [Act.put, List.setIfInBounds_toArray, List.set_cons_zero, List.set_cons_succ]
          rfl
        refine pure_ (i := 4) (N := some 20) (v := ?_) (a' := ?_) #[true, true, true, true, true, false, false, false, false, false, false] rfl rfl (by kernel_rfl) (fun _ _ _ h => h) (Or.inl ⟨by rfl, ?_⟩) ?_ ?_
        rotate_left
        · intro w'
          go_simp
          with_reducible rfl
        rotate_left
        · simp only [Act.put, List.setIfInBounds_toArray, List.set_cons_zero, List.set_cons_succ]
          rfl
        refine take_ (i := 7) (N := some 23) (v := ?_) (a' := ?_) #[true, true, true, true, true, false, false, true, false, false, false] rfl rfl (by kernel_rfl) (fun _ _ _ h => h) (Or.inl ⟨by rfl, ?_⟩) hHeld ?_ ?_
        rotate_left
        · rintro w' ⟨s0, s1⟩
          go_simp
          with_reducible rfl
        rotate_left
        · simp only [Act.put, List.setIfInBounds_toArray, List.set_cons_zero, List.set_cons_succ]
          rfl
        refine pure_ (i := 8) (N := some 24) (v := ?_) (a' := ?_) #[true, true, true, true, true, false, false, true, true, false, false] rfl rfl (by kernel_rfl) (fun _ _ _ h => h) (Or.inl ⟨by rfl, ?_⟩) ?_ ?_
        rotate_left
        · intro w'
          go_simp
          with_reducible rfl
        rotate_left
        · simp only [Act.put, List.setIfInBounds_toArray, List.set_cons_zero, List.set_cons_succ]
          rfl
        refine one_ (i := 5) (N := some 21) #[true, true, true, true, true, true, false, true, true, false, false] rfl rfl (by kernel_rfl) (by decide) (fun K hK => ?_)
        refine lay_step (cs := #[.int .i64 g, .int .i64 (-1)]) (e := 37) rfl rfl ?hr ?_
        case hr => first | (go_simp; done) | (go_simp; rfl)
        obtain ⟨s0, s1⟩ := hHeld
        refine hK.out _ _ ⟨pw_cell_below ((Below.refl _ _).alloc (Nat.le_refl _) _) s0, pw_cell_below ((Below.refl _ _).alloc (Nat.le_refl _) _) s1⟩ (fun hHeld => ?_)
        clear hK K
        refine norm_ (a' := ?_) ?_ ?_
        rotate_left
        · show Act.put _ (some 21) _ = _
          simp only [Act.put, List.setIfInBounds_toArray, List.set_cons_zero, List.set_cons_succ]
          rfl
        refine one_ (i := 6) (N := some 22) #[true, true, true, true, true, true, true, true, true, false, false] rfl rfl (by kernel_rfl) (by decide) (fun K hK => ?_)
        refine append_step rfl rfl _ _ 22 rfl W.heap.size 37 i0 _ 2 16 Try.underlying22 hi hz0 hz1 hz2 rfl (by decide) _ _ _ rfl (HO3.out.alloc _) ⟨W3.heap.size, 0, none⟩ 1 1 [.int .i64 g, .int .i64 (-1)] rfl rfl (cell_two_at _ _ _ _ _ rfl) (by simp [Value.oneCell']) hml hml2 q3 ?_
        intro v' w5 hown' hgrow hat
        have hX5 : w5.heap[gb]? = some (.cells #[.slice (some ad) (G.drop t).length c'] 31 (0, 0)) := by
          have h1 := lt_of_block HG3.out.blk
          refine (hgrow.block gb (by rw [World.size_alloc]; omega) (fun e => ?_)).trans (by rw [ha, if_neg (by omega)]; exact HG3.out.blk)
          obtain ⟨cells, hc⟩ := own_typed HO3.out gb e.symm
          rw [HG3.out.blk] at hc; simp at hc
        have hA5 : w5.heap[ad.block]? = W3.heap[ad.block]? := by
          have h1 := HG3.out.lt ad rfl
          refine (hgrow.block ad.block (by rw [World.size_alloc]; omega) (fun e => ?_)).trans (by rw [ha, if_neg (by omega)])
          have h2 := own_base HO3.out ad.block e.symm
          omega
        rw [hn] at hX5
        obtain ⟨A4, c4, rfl⟩ := own_slice hown'
        have hc5 := blk_cell hX5 0
        have hf5 := blk_frozen hX5 0
        refine hK.out _ _ ⟨hc5, (World.cell?_of_block hA5).trans s1⟩ (fun hHeld => ?_)
        clear hK K
        refine norm_ (a' := ?_) ?_ ?_
        rotate_left
        · show Act.put _ (some 22) _ = _
          simp only [Act.put, List.setIfInBounds_toArray, List.set_cons_zero, List.set_cons_succ]
          rfl
        refine pure_ (i := 9) (N := some 4) (v := ?_) (a' := ?_) #[true, true, true, true, true, true, true, true, true, true, false] rfl rfl (by kernel_rfl) (fun _ _ _ h => h) (Or.inl ⟨by rfl, ?_⟩) ?_ ?_
        rotate_left
        · intro w'
          go_simp
          with_reducible rfl
        rotate_left
        · simp only [Act.put, List.setIfInBounds_toArray, List.set_cons_zero, List.set_cons_succ]
          rfl
        refine last_ (i := 10) (N := none) #[true, true, true, true, true, true, true, true, true, true, true] rfl rfl (by kernel_rfl) (by decide) (fun K hK => ?_)
        refine skip_ (w1 := w5.setCell ⟨gb, 0, none⟩ (.slice A2 (n - 1) (c' - 1))) rfl rfl ?hr2 ?_
        case hr2 => first | (go_simp; done) | (go_simp; rfl)
        refine hK.out _ _ ?_
        clear hK K
        refine done_ (by kernel_rfl) ?_
        have hb5 : W.grownBy w5 (some gb) := by
          refine ⟨hgrow.os.trans HW3.out.os, hgrow.tape.trans HW3.out.tape, hgrow.output.trans HW3.out.output, Nat.le_trans HW3.out.size (Nat.le_trans (by rw [World.size_alloc]; omega) hgrow.size), fun k hk hne' => ?_⟩
          have h1 := HW3.out.size
          refine (hgrow.block k (by rw [World.size_alloc]; omega) (fun e => ?_)).trans ?_
          · have h2 := own_base HO3.out k e.symm
            omega
          · rw [ha, if_neg (by omega)]; exact HW3.out.block k hk hne'
        have hgd : (G.drop (t + 1)).length = n - 1 := by rw [List.length_drop]; have := HD.out; rw [List.length_drop] at hn; omega
        have hA2b : ∀ ad2, A2 = some ad2 → ad2.block = ad.block := by
          intro ad2 e
          rw [HA2.out] at e
          split at e
          · injection e with e; rw [← e]
          · simp only [Option.map_some] at e
            injection e with e
            rw [← e]; unfold Addr.add; split <;> rfl
        have hCd : Kd.C (Kd.int .i64) W3 A2 (G.drop (t + 1)).length (G.drop (t + 1)) := by
          have h1 := Kd.C_drop (m := 1) (c := c') (by rw [← hn] at *; exact HG3.out.C) (by omega) (by omega)
          rw [List.drop_drop] at h1
          rw [HA2.out]
          exact h1
        have hgb : (w5.setCell ⟨gb, 0, none⟩ (.slice A2 (n - 1) (c' - 1))).heap[gb]? = some (.cells #[.slice A2 (n - 1) (c' - 1)] 31 (0, 0)) := (blk_set3 hX5 0 _).trans (by simp)
        have hGn : GAt gb (G.drop (t + 1)) A2 (c' - 1) (w5.setCell ⟨gb, 0, none⟩ (.slice A2 (n - 1) (c' - 1))) := by
          refine ⟨by rw [hgd]; exact hgb, C_heap hCd (fun ad2 e => ?_), by omega, fun ad2 e => ?_, fun ad2 e => ?_⟩
          · rw [hA2b ad2 e, heap_set_other _ _ _ _ (HG3.out.ne ad rfl)]; exact hA5
          · rw [hA2b ad2 e]; exact HG3.out.ne ad rfl
          · rw [hA2b ad2 e]
            show ad.block < (w5.heap.modify gb _).size
            rw [Array.size_modify]
            exact Nat.lt_of_lt_of_le hadl (Nat.le_trans hKW hb5.size)
        have hon : (w5.setCell ⟨gb, 0, none⟩ (.slice A2 (n - 1) (c' - 1))).ownsRow W.heap.size 37 2 (.slice A4 (((G.take t).map mkG).length + 1) c4) ((G.take (t + 1)).map mkG).length (cellsS ((G.take (t + 1)).map mkG)) := by
          rw [HT.out, List.map_append, List.map_cons, List.map_nil, cellsS_snoc, List.length_append, List.length_singleton]
          refine own_heap hown' fun q hq => heap_set_other _ _ _ _ (fun e => ?_)
          subst e
          obtain ⟨cells, hc⟩ := own_typed hown' q hq
          rw [hX5] at hc; simp at hc
        have hWn : W.grownBy (w5.setCell ⟨gb, 0, none⟩ (.slice A2 (n - 1) (c' - 1))) (some gb) := by
          refine ⟨hb5.os, hb5.tape, hb5.output, ?_, fun k hk hne' => ?_⟩
          · show W.heap.size ≤ (w5.heap.modify gb _).size
            rw [Array.size_modify]; exact hb5.size
          · rw [heap_set_other _ _ _ _ (fun e => hne' (by rw [e]))]; exact hb5.block k hk hne'
        have hgl : glen gb (w5.setCell ⟨gb, 0, none⟩ (.slice A2 (n - 1) (c' - 1))) = n - 1 := by rw [hGn.glen, hgd]
        go_step
        go_roundw
        case rel =>
          have hlt2 : ((G.take t).map mkG).length = t := by rw [List.length_map, List.length_take]; omega
          rw [hlt2] at hon
          refine ⟨_, _, _, _, _, _, _, _, _, _, _, _, _, _, _, _, _, _, _, _, _, ⟨t + 1, by have := HD.out; omega, hon, ⟨A2, c' - 1, hGn, fun ad2 e => by rw [hA2b ad2 e]; exact hadl⟩, hWn, fun x hx => ?_⟩, rfl⟩
          rw [HT.out] at hx
          rcases List.mem_append.1 hx with h | h
          · exact HA.out x h
          · simp only [List.mem_singleton] at h
            subst h; exact hu'
        case measure => rw [hgl, hgw]; omega
def uNo (_ : Int) : Bool := false

set_option maxRecDepth 100000 in
set_option maxHeartbeats 4000000 in
theorem take2_calls (G : List Int) (A : Option Addr) (c : Nat) (W : World) (gb : Nat) (h : GAt gb G A c W) (hl : G.length ≤ 1000000) (K : Nat) (hK : ∀ ad, A = some ad → ad.block < K) (hKW : K ≤ W.heap.size) :
    Calls Try.prog 52 #[.func (.func 47) #[] #[], .pointer (some ⟨gb, 0, none⟩)] W (TakeP W K gb G uNo) := by
  obtain ⟨i0, hi, hz0, hz1, hz2⟩ := info_parts info37
  obtain ⟨j0, hj, hy0, hy1, hy2⟩ := info_parts info3
  have HG := Aside0.mk h
  have hltg := lt_of_block h.blk
  clear h
  go_enter Try.func52, Try.ntmps52
  go_wp2
  go_loopw [4] (fun vo wr => ∃ t, t ≤ G.length ∧ wr.ownsRow W.heap.size 37 2 vo ((G.take t).map mkG).length (cellsS ((G.take t).map mkG)) ∧ (∃ A' c', GAt gb (G.drop t) A' c' wr ∧ ∀ ad, A' = some ad → ad.block < K) ∧ W.grownBy wr (some gb) ∧ ∀ x ∈ G.take t, uNo x = false)
    (fun _ wr => glen gb wr)
  case atStart => exact ⟨0, Nat.zero_le _, by simpa [cellsS] using World.ownsRow_nil _ _ _ _, ⟨A, c, HG.out, hK⟩, grown_refl _ _, fun x hx => by simp at hx⟩
  case round =>
    obtain ⟨t, ht, ho, ⟨A', c', hg, hlt'⟩, hgr, hall⟩ := hrel
    have hc0 : wr.cell? ⟨gb, 0, none⟩ = some (.slice A' (G.drop t).length c') := blk_cell hg.blk 0
    have hf0 : wr.frozen? ⟨gb, 0, none⟩ = false := blk_frozen hg.blk 0
    have HG2 := Aside0.mk hg
    have HO := Aside0.mk ho
    have HA := Aside0.mk hall
    have HW := Aside0.mk hgr
    have HD := Aside0.mk (show (G.drop t).length = G.length - t from List.length_drop)
    clear hg ho hall hgr
    by_cases hz : (G.drop t).length = 0
    · rw [hz] at hc0
      have HE : Aside0 (TakeP W K gb G (uNo) (.returned u4) wr) := ⟨⟨u4, t, rfl, ht, HA.out, fun x xs e => by rw [e] at hz; simp at hz, HO.out, ⟨A', c', HG2.out, hlt'⟩, HW.out⟩⟩
      go_wp2
      go_ret
      exact HE.out
    · obtain ⟨ad, eA, hx0⟩ := intAt HG2.out.C (k := 0) (by omega)
      cases eA
      have hadl := hlt' ad rfl
      clear hlt'
      have htk : G.take (t + 1) = G.take t ++ [rd (G.drop t) ((0 : Nat) : Int)] := by
        rw [take_rdI (by have := HD.out; omega)]
        congr 2
        unfold rd
        rw [show ((0 : Nat) : Int).toNat = 0 from rfl, show ((t : Int)).toNat = t from rfl, List.getD_eq_getElem?_getD, List.getD_eq_getElem?_getD, List.getElem?_drop, Nat.add_zero]
      have HT := Aside0.mk htk
      have hcons : ∀ x xs, G.drop t = x :: xs → rd (G.drop t) ((0 : Nat) : Int) = x := by
        intro x xs e
        rw [e]; rfl
      have HC := Aside0.mk hcons
      clear htk hcons
      have hx1 : wr.cell? ad = some (.int .i64 (rd (G.drop t) ((0 : Nat) : Int))) := hx0
      generalize rd (G.drop t) ((0 : Nat) : Int) = g at *
      have hcut := cut_from (P := Try.prog) 31 3 .i64 Try.underlying31 hj 1 hy1 (some ad) (G.drop t).length c' 1 (by omega) (by omega)
      have hdl := HG2.out.le
      have hgw := HG2.out.glen
      generalize hn : (G.drop t).length = n at *
      have n1 : 0 < n := by omega
      have n2 : (0 : Int) < (n : Int) := by omega
      clear hx0
      by_cases hu : uNo g = true
      · exact absurd hu (by simp [uNo])
      · have hml : ((G.take t).map mkG).length + 1 ≤ maxLen := by rw [List.length_map, List.length_take]; unfold maxLen; omega
        have hml2 : (((G.take t).map mkG).length + 1) * 16 ≤ 140737488355328 := by rw [List.length_map, List.length_take]; omega
        have q3 : W.heap.size ≤ (wr.drew.alloc (.cells #[.int .i64 g, .int .i64 (-1)] 37)).heap.size := by have h1 := HW.out.size; rw [World.size_alloc]; exact Nat.le_trans h1 (Nat.le_succ _)
        obtain ⟨A2, hA2⟩ : ∃ A2, A2 = (if c' = (1 : Int).toNat then (some ad) else (some ad).map (·.add ((1 : Int).toNat * 1))) := ⟨_, rfl⟩
        rw [← hA2] at hcut
        have hcut2 : ∀ W, Sem.run Try.prog (Instr.slice 31 (.slice (some ad) n c') (some (.int .i64 1)) none none) W = .ok (.slice A2 (n - 1) (c' - 1)) W := hcut
        have HA2 := Aside0.mk hA2
        clear hcut hA2
        go_wp2
        have hu' : uNo g = false := rfl
        refine start_ (n := 11) (S := fun w' => w'.cell? ⟨gb, 0, none⟩ = some (.slice (some ad) n c') ∧ w'.cell? ad = some (.int .i64 g)) (ds := [10]) #[false, false, false, false, false, false, false, false, false, false, false] (by kernel_rfl) rfl rfl ⟨hc0, hx1⟩ (fun hHeld => ?_)
        have HG3 : Aside0 (GAt gb (G.drop t) (some ad) c' wr.drew) := ⟨⟨HG2.out.blk, C_heap HG2.out.C (fun _ _ => rfl), HG2.out.le, HG2.out.ne, HG2.out.lt⟩⟩
        have HO3 : Aside0 (wr.drew.ownsRow W.heap.size 37 2 u4 ((G.take t).map mkG).length (cellsS ((G.take t).map mkG))) := ⟨HO.out⟩
        have HW3 : Aside0 (W.grownBy wr.drew (some gb)) := ⟨⟨HW.out.os, HW.out.tape, HW.out.output, HW.out.size, HW.out.block⟩⟩
        clear HG2 HO HW hc0 hx1 hf0
        generalize wr.drew = W3 at *
        refine pure_ (i := 0) (N := some 16) (v := ?_) (a' := ?_) #[true, false, false, false, false, false, false, false, false, false, false] rfl rfl (by kernel_rfl) (fun _ _ _ h => h) (Or.inl ⟨by rfl, ?_⟩) ?_ ?_
        rotate_left
        · intro w'
          go_simp
          with_reducible rfl
        rotate_left
        · simp only [Act.put, List.setIfInBounds_toArray, List.set_cons_zero, List.set_cons_succ]
          rfl
        refine take_ (i := 1) (N := some 17) (v := ?_) (a' := ?_) #[true, true, false, false, false, false, false, false, false, false, false] rfl rfl (by kernel_rfl) (fun _ _ _ h => h) (Or.inl ⟨by rfl, ?_⟩) hHeld ?_ ?_
        rotate_left
        · rintro w' ⟨s0, s1⟩
          go_simp
          with_reducible rfl
        rotate_left
        · simp only [Act.put, List.setIfInBounds_toArray, List.set_cons_zero, List.set_cons_succ]
          rfl
        refine pure_ (i := 2) (N := some 18) (v := ?_) (a' := ?_) #[true, true, true, false, false, false, false, false, false, false, false] rfl rfl (by kernel_rfl) (fun _ _ _ h => h) (Or.inl ⟨by rfl, ?_⟩) ?_ ?_
        rotate_left
        · intro w'
          go_simp
          with_reducible rfl
        rotate_left
        · simp only [Act.put, List.setIfInBounds_toArray, List.set_cons_zero, List.set_cons_succ]
          rfl
        refine take_ (i := 3) (N := some 19) (v := ?_) (a' := ?_) #[true, true, true, true, false, false, false, false, false, false, false] rfl rfl (by kernel_rfl) (fun _ _ _ h => h) (Or.inl ⟨by rfl, ?_⟩) hHeld ?_ ?_
        rotate_left
        · rintro w' ⟨s0, s1⟩
          go_simp
          with_reducible rfl
        rotate_left
        · simp only [Act.put, List.setIfInBounds_toArray, List.set_cons_zero, List.set_cons_succ]
          rfl
        refine pure_ (i := 4) (N := some 20) (v := ?_) (a' := ?_) #[true, true, true, true, true, false, false, false, false, false, false] rfl rfl (by kernel_rfl) (fun _ _ _ h => h) (Or.inl ⟨by rfl, ?_⟩) ?_ ?_
        rotate_left
        · intro w'
          go_simp
          with_reducible rfl
        rotate_left
        · simp only [Act.put, List.setIfInBounds_toArray, List.set_cons_zero, List.set_cons_succ]
          rfl
        refine take_ (i := 7) (N := some 23) (v := ?_) (a' := ?_) #[true, true, true, true, true, false, false, true, false, false, false] rfl rfl (by kernel_rfl) (fun _ _ _ h => h) (Or.inl ⟨by rfl, ?_⟩) hHeld ?_ ?_
        rotate_left
        · rintro w' ⟨s0, s1⟩
          go_simp
          with_reducible rfl
        rotate_left
        · simp only [Act.put, List.setIfInBounds_toArray, List.set_cons_zero, List.set_cons_succ]
          rfl
        refine pure_ (i := 8) (N := some 24) (v := ?_) (a' := ?_) #[true, true, true, true, true, false, false, true, true, false, false] rfl rfl (by kernel_rfl) (fun _ _ _ h => h) (Or.inl ⟨by rfl, ?_⟩) ?_ ?_
        rotate_left
        · intro w'
          go_simp
          with_reducible rfl
        rotate_left
        · simp only [Act.put, List.setIfInBounds_toArray, List.set_cons_zero, List.set_cons_succ]
          rfl
        refine one_ (i := 5) (N := some 21) #[true, true, true, true, true, true, false, true, true, false, false] rfl rfl (by kernel_rfl) (by decide) (fun K hK => ?_)
        refine lay_step (cs := #[.int .i64 g, .int .i64 (-1)]) (e := 37) rfl rfl ?hr ?_
        case hr => first | (go_simp; done) | (go_simp; rfl)
        obtain ⟨s0, s1⟩ := hHeld
        refine hK.out _ _ ⟨pw_cell_below ((Below.refl _ _).alloc (Nat.le_refl _) _) s0, pw_cell_below ((Below.refl _ _).alloc (Nat.le_refl _) _) s1⟩ (fun hHeld => ?_)
        clear hK K
        refine norm_ (a' := ?_) ?_ ?_
        rotate_left
        · show Act.put _ (some 21) _ = _
          simp only [Act.put, List.setIfInBounds_toArray, List.set_cons_zero, List.set_cons_succ]
          rfl
        refine one_ (i := 6) (N := some 22) #[true, true, true, true, true, true, true, true, true, false, false] rfl rfl (by kernel_rfl) (by decide) (fun K hK => ?_)
        refine append_step rfl rfl _ _ 22 rfl W.heap.size 37 i0 _ 2 16 Try.underlying22 hi hz0 hz1 hz2 rfl (by decide) _ _ _ rfl (HO3.out.alloc _) ⟨W3.heap.size, 0, none⟩ 1 1 [.int .i64 g, .int .i64 (-1)] rfl rfl (cell_two_at _ _ _ _ _ rfl) (by simp [Value.oneCell']) hml hml2 q3 ?_
        intro v' w5 hown' hgrow hat
        have hX5 : w5.heap[gb]? = some (.cells #[.slice (some ad) (G.drop t).length c'] 31 (0, 0)) := by
          have h1 := lt_of_block HG3.out.blk
          refine (hgrow.block gb (by rw [World.size_alloc]; omega) (fun e => ?_)).trans (by rw [ha, if_neg (by omega)]; exact HG3.out.blk)
          obtain ⟨cells, hc⟩ := own_typed HO3.out gb e.symm
          rw [HG3.out.blk] at hc; simp at hc
        have hA5 : w5.heap[ad.block]? = W3.heap[ad.block]? := by
          have h1 := HG3.out.lt ad rfl
          refine (hgrow.block ad.block (by rw [World.size_alloc]; omega) (fun e => ?_)).trans (by rw [ha, if_neg (by omega)])
          have h2 := own_base HO3.out ad.block e.symm
          omega
        rw [hn] at hX5
        obtain ⟨A4, c4, rfl⟩ := own_slice hown'
        have hc5 := blk_cell hX5 0
        have hf5 := blk_frozen hX5 0
        refine hK.out _ _ ⟨hc5, (World.cell?_of_block hA5).trans s1⟩ (fun hHeld => ?_)
        clear hK K
        refine norm_ (a' := ?_) ?_ ?_
        rotate_left
        · show Act.put _ (some 22) _ = _
          simp only [Act.put, List.setIfInBounds_toArray, List.set_cons_zero, List.set_cons_succ]
          rfl
        refine pure_ (i := 9) (N := some 4) (v := ?_) (a' := ?_) #[true, true, true, true, true, true, true, true, true, true, false] rfl rfl (by kernel_rfl) (fun _ _ _ h => h) (Or.inl ⟨by rfl, ?_⟩) ?_ ?_
        rotate_left
        · intro w'
          go_simp
          with_reducible rfl
        rotate_left
        · simp only [Act.put, List.setIfInBounds_toArray, List.set_cons_zero, List.set_cons_succ]
          rfl
        refine last_ (i := 10) (N := none) #[true, true, true, true, true, true, true, true, true, true, true] rfl rfl (by kernel_rfl) (by decide) (fun K hK => ?_)
        refine skip_ (w1 := w5.setCell ⟨gb, 0, none⟩ (.slice A2 (n - 1) (c' - 1))) rfl rfl ?hr2 ?_
        case hr2 => first | (go_simp; done) | (go_simp; rfl)
        refine hK.out _ _ ?_
        clear hK K
        refine done_ (by kernel_rfl) ?_
        have hb5 : W.grownBy w5 (some gb) := by
          refine ⟨hgrow.os.trans HW3.out.os, hgrow.tape.trans HW3.out.tape, hgrow.output.trans HW3.out.output, Nat.le_trans HW3.out.size (Nat.le_trans (by rw [World.size_alloc]; omega) hgrow.size), fun k hk hne' => ?_⟩
          have h1 := HW3.out.size
          refine (hgrow.block k (by rw [World.size_alloc]; omega) (fun e => ?_)).trans ?_
          · have h2 := own_base HO3.out k e.symm
            omega
          · rw [ha, if_neg (by omega)]; exact HW3.out.block k hk hne'
        have hgd : (G.drop (t + 1)).length = n - 1 := by rw [List.length_drop]; have := HD.out; rw [List.length_drop] at hn; omega
        have hA2b : ∀ ad2, A2 = some ad2 → ad2.block = ad.block := by
          intro ad2 e
          rw [HA2.out] at e
          split at e
          · injection e with e; rw [← e]
          · simp only [Option.map_some] at e
            injection e with e
            rw [← e]; unfold Addr.add; split <;> rfl
        have hCd : Kd.C (Kd.int .i64) W3 A2 (G.drop (t + 1)).length (G.drop (t + 1)) := by
          have h1 := Kd.C_drop (m := 1) (c := c') (by rw [← hn] at *; exact HG3.out.C) (by omega) (by omega)
          rw [List.drop_drop] at h1
          rw [HA2.out]
          exact h1
        have hgb : (w5.setCell ⟨gb, 0, none⟩ (.slice A2 (n - 1) (c' - 1))).heap[gb]? = some (.cells #[.slice A2 (n - 1) (c' - 1)] 31 (0, 0)) := (blk_set3 hX5 0 _).trans (by simp)
        have hGn : GAt gb (G.drop (t + 1)) A2 (c' - 1) (w5.setCell ⟨gb, 0, none⟩ (.slice A2 (n - 1) (c' - 1))) := by
          refine ⟨by rw [hgd]; exact hgb, C_heap hCd (fun ad2 e => ?_), by omega, fun ad2 e => ?_, fun ad2 e => ?_⟩
          · rw [hA2b ad2 e, heap_set_other _ _ _ _ (HG3.out.ne ad rfl)]; exact hA5
          · rw [hA2b ad2 e]; exact HG3.out.ne ad rfl
          · rw [hA2b ad2 e]
            show ad.block < (w5.heap.modify gb _).size
            rw [Array.size_modify]
            exact Nat.lt_of_lt_of_le hadl (Nat.le_trans hKW hb5.size)
        have hon : (w5.setCell ⟨gb, 0, none⟩ (.slice A2 (n - 1) (c' - 1))).ownsRow W.heap.size 37 2 (.slice A4 (((G.take t).map mkG).length + 1) c4) ((G.take (t + 1)).map mkG).length (cellsS ((G.take (t + 1)).map mkG)) := by
          rw [HT.out, List.map_append, List.map_cons, List.map_nil, cellsS_snoc, List.length_append, List.length_singleton]
          refine own_heap hown' fun q hq => heap_set_other _ _ _ _ (fun e => ?_)
          subst e
          obtain ⟨cells, hc⟩ := own_typed hown' q hq
          rw [hX5] at hc; simp at hc
        have hWn : W.grownBy (w5.setCell ⟨gb, 0, none⟩ (.slice A2 (n - 1) (c' - 1))) (some gb) := by
          refine ⟨hb5.os, hb5.tape, hb5.output, ?_, fun k hk hne' => ?_⟩
          · show W.heap.size ≤ (w5.heap.modify gb _).size
            rw [Array.size_modify]; exact hb5.size
          · rw [heap_set_other _ _ _ _ (fun e => hne' (by rw [e]))]; exact hb5.block k hk hne'
        have hgl : glen gb (w5.setCell ⟨gb, 0, none⟩ (.slice A2 (n - 1) (c' - 1))) = n - 1 := by rw [hGn.glen, hgd]
        go_step
        go_roundw
        case rel =>
          have hlt2 : ((G.take t).map mkG).length = t := by rw [List.length_map, List.length_take]; omega
          rw [hlt2] at hon
          refine ⟨_, _, _, _, _, _, _, _, _, _, _, _, _, _, _, _, _, _, _, _, _, ⟨t + 1, by have := HD.out; omega, hon, ⟨A2, c' - 1, hGn, fun ad2 e => by rw [hA2b ad2 e]; exact hadl⟩, hWn, fun x hx => ?_⟩, rfl⟩
          rw [HT.out] at hx
          rcases List.mem_append.1 hx with h | h
          · exact HA.out x h
          · simp only [List.mem_singleton] at h
            subst h; exact hu'
        case measure => rw [hgl, hgw]; omega
end Go.Proofs.Ytphmnjapjalfgaa.X
