/- The iterator over all names and cells of a table. -/
import Derived.Test.YtbcpaojciephmaaGLists
namespace Go.Proofs.Ytbcpaojciephmaa.X
open Go.RowKit Go.Maps Go.Shelf Go.Proofs.YtbcpaojciephmaaW.PrintWords Go.Proofs.YtbcpaojciephmaaW.PrintLast
set_option linter.unusedVariables false

/-- What a round keeps: what lay before, and every row but one. -/
def KpC (n₀ Bn : Nat) (A B : World) : Prop := Below n₀ A B ∧ ∀ (k : Nat) (cs : Array Value) (t : TypeId) (fr : Nat × Nat), k ≠ Bn → A.heap[k]? = some (.cells cs t fr) → B.heap[k]? = some (.cells cs t fr)
theorem KpC.trans {n₀ Bn : Nat} {A B C : World} (h : KpC n₀ Bn A B) (k : KpC n₀ Bn B C) : KpC n₀ Bn A C := ⟨h.1.trans k.1, fun j cs t fr hj hc => k.2 j cs t fr hj (h.2 j cs t fr hj hc)⟩
theorem KpC.below {n₀ Bn : Nat} {A B : World} (hb : Below A.heap.size A B) (hn : n₀ ≤ A.heap.size) : KpC n₀ Bn A B := ⟨hb.mono hn, fun k cs t fr _ hc => (hb.block k (lt_of_block hc)).trans hc⟩
theorem KpC.put {n₀ Bn : Nat} {w : World} (hn : n₀ ≤ w.heap.size) (W : World) (l : Nat) (o o' : Obj) (hl : w.heap.size ≤ l) (h : W.heap[l]? = some o) (ho : o.isCells = false) (hw : o.isWalk = false) : KpC n₀ Bn W (W.putObj l o') := by
  refine ⟨belowK_b hn W l o o' hl h ho hw, fun k cs t fr _ hc => ?_⟩
  have hne : k ≠ l := by
    rintro rfl
    rw [h] at hc
    injection hc with hc
    subst hc
    cases ho
  have hg := grownBy_putObj' W l o'
  rw [hg.block k (lt_of_block hc) (fun e => hne (by cases e; rfl)), hc]
/-- All names, and all cells. -/
def seqR (hd : List ByteArray) (rows : List (List ByteArray)) : List ByteArray := (hd :: rows).flatten
theorem seq_pre (L : List (List ByteArray)) (i j : Nat) (hi : i < L.length) : (L.take i).flatten ++ (L.getD i []).take j <+: L.flatten := by
  have e : L = L.take i ++ L.getD i [] :: L.drop (i + 1) := by
    rw [List.getD_eq_getElem?_getD, List.getElem?_eq_getElem hi]
    show L = L.take i ++ L[i] :: L.drop (i + 1)
    rw [List.getElem_cons_drop, List.take_append_drop]
  conv => rhs; rw [e]
  rw [List.flatten_append, List.flatten_cons]
  refine (List.prefix_append_right_inj _).2 ?_
  exact (List.take_prefix _ _).trans (List.prefix_append _ _)
theorem seq_next (L : List (List ByteArray)) (i : Nat) (hi : i < L.length) : (L.take i).flatten ++ L.getD i [] = (L.take (i + 1)).flatten := by
  rw [List.take_succ_eq_append_getElem hi, List.flatten_append, List.getD_eq_getElem?_getD, List.getElem?_eq_getElem hi]
  simp
/-- What lies for the iterator. -/
structure AllS (w0 : World) (A0 : Option Addr) (c0 : Nat) (hd : List ByteArray) (A1 : Option Addr) (c1 : Nat) (rows : List (List ByteArray)) (Bt : Nat) (W : World) : Prop where
  t : W.heap[Bt]? = some (.cells #[.slice A0 hd.length c0, .slice A1 rows.length c1] 25 (0, 0))
  lo : Below w0.heap.size w0 W
theorem AllS.below {w0 : World} {A0 : Option Addr} {c0 : Nat} {hd : List ByteArray} {A1 : Option Addr} {c1 : Nat} {rows : List (List ByteArray)} {Bt : Nat} {W W' : World} (h : AllS w0 A0 c0 hd A1 c1 rows Bt W) (hb : Below W.heap.size W W') : AllS w0 A0 c0 hd A1 c1 rows Bt W' :=
  ⟨(hb.block _ (lt_of_block h.t)).trans h.t, h.lo.trans (hb.mono h.lo.size)⟩
theorem strAtA {w : World} {A : Option Addr} {l : List ByteArray} (h : Kd.C Kd.string w A l.length l) {k : Nat} (hk : k < l.length) : ∃ ad, A = some ad ∧ w.cell? (ad.add k) = some (.string (rdOf ByteArray.empty l (k : Int))) := by
  obtain ⟨ad, e, hx⟩ := Kd.at_string h (k : Int) (by omega) (by omega)
  exact ⟨ad, e, hx⟩
theorem take_rdB {l : List ByteArray} {k : Nat} (h : k < l.length) : l.take (k + 1) = l.take k ++ [rdOf ByteArray.empty l (k : Int)] := by
  unfold rdOf
  rw [show ((k : Int)).toNat = k from rfl, List.take_succ_eq_append_getElem h, List.getD_eq_getElem?_getD, List.getElem?_eq_getElem h]; rfl
theorem own_cellAt {W : World} {base n : Nat} {v : Value} {cs : List Value} {e : TypeId} (ho : W.ownsRow base e 1 v n cs) (hn : 0 < n) : ∃ g cap, v = .slice (some ⟨g, 0, none⟩) n cap ∧ base ≤ g ∧ (∀ (i : Nat) (u : Value), cs[i]? = some u → W.cell? ⟨g, i, none⟩ = some u) ∧ ∃ cur, W.heap[g]? = some (.cells cur e (0, 0)) ∧ n ≤ cap := by
  rcases ho.2 with ⟨_, h0⟩ | ⟨g, cap, cur, hv, hb, hh, hc, hm, hs, ht⟩
  · omega
  · refine ⟨g, cap, hv, hb, fun i u hi => ?_, cur, hh, hc⟩
    have hlt : i < cs.length := (List.getElem?_eq_some_iff.1 hi).1
    rw [ho.1] at hlt
    rw [← ht, List.getElem?_take_of_lt (by omega), Array.getElem?_toList] at hi
    simp [World.cell?, hh, hi]

set_option maxRecDepth 100000 in
set_option maxHeartbeats 4000000 in
theorem all1_calls (w0 : World) (Bn : Nat) (A0 : Option Addr) (c0 : Nat) (hd : List ByteArray) (A1 : Option Addr) (c1 : Nat) (rows : List (List ByteArray)) (Bt n l : Nat) (hr0 : Kd.C Kd.string w0 A0 hd.length hd) (hc0 : hd.length ≤ c0) (hr1 : Kd.C (Kd.slice 9 Kd.string) w0 A1 rows.length rows) (hl : rows.length ≤ 100000)
    (hn : 1 ≤ n) (J Jx : List ByteArray → World → Prop) (W : World)
    (hJ : ∀ s W W', J s W → Below W.heap.size W W' → J s W')
    (hY : ∀ pre x W1, J pre W1 → pre.length < (seqR hd rows).length → YieldAt Fence.wide (n - 1) Try.prog l #[.string x] W1 fun e W' =>
      (e = .returned (.bool true) ∧ J (pre ++ [x]) W' ∧ KpC w0.heap.size Bn W1 W') ∨ (e = .returned (.bool false) ∧ Jx (pre ++ [x]) W'))
    (hS : AllS w0 A0 c0 hd A1 c1 rows Bt W) (hBt : Bt ≠ Bn) (hBn : Bn < W.heap.size) (hw0 : w0.heap.size ≤ W.heap.size) (h0 : J [] W) :
    Calls Try.prog 75 #[.func (.yield l) #[] #[], .pointer (some ⟨Bt, 0, none⟩)] W fun e W' => (∃ v, e = .returned v) ∧ ((∃ ys, ys = seqR hd rows ∧ J ys W') ∨ (∃ pre, pre <+: seqR hd rows ∧ Jx pre W')) := by
  obtain ⟨L, hL⟩ : ∃ L, L = hd :: rows := ⟨_, rfl⟩
  have hLl : L.length ≤ 100001 := by rw [hL]; simp; omega
  have hLp : 0 < L.length := by rw [hL]; simp
  unfold seqR at hY ⊢
  rw [← hL] at hY ⊢
  have HY := Aside0.mk hY
  have HJ := Aside0.mk hJ
  have HR := Aside0.mk (And.intro hr0 hr1)
  have HS := Aside0.mk hS
  have HL := Aside0.mk hL
  have HT0 := blk_cell hS.t 0
  have HT1 := blk_cell hS.t 1
  have hf0 := blk_frozen hS.t 0
  have hf1 := blk_frozen hS.t 1
  have H0 := Aside0.mk h0
  clear hY hJ hr0 hr1 hS h0 hL
  go_enter Try.func75, Try.ntmps75
  go_wp2_with (first
    | (go_at_call 70; refine (lists_calls A0 c0 hd A1 c1 rows w0 _ HS.out.lo HR.out.1 hc0 HR.out.2 (by omega)).mono ?_; rintro e w1 ⟨v, cs, rfl, hcs, ho, hb⟩; rw [← HL.out] at hcs; rw [hcs.1] at ho; obtain ⟨g, cap, rfl, hg, hcell, cur, hcur, hcap⟩ := own_cellAt ho hLp))
  have HS1 := Aside0.mk (HS.out.below hb)
  have HJ1 := Aside0.mk (HJ.out _ _ _ H0.out hb)
  have HCS := Aside0.mk hcs
  have hgn : g ≠ Bn := by omega
  have HCE := Aside0.mk hcell
  have HCU := Aside0.mk hcur
  have hw1 : w0.heap.size ≤ w1.heap.size := Nat.le_trans hw0 hb.size
  clear HS H0 ho hb hcs hcell hcur HT0 HT1 hf0 hf1
  go_loopw [13] (fun vi wr => ∃ i : Nat, vi = .int .i64 i ∧ i ≤ L.length ∧ Aside0 (J ((L.take i).flatten) wr) ∧ Aside0 (AllS w0 A0 c0 hd A1 c1 rows Bt wr) ∧ Aside0 (wr.heap[g]? = some (.cells cur 22 (0, 0))))
    (fun vi _ => L.length - (intOf vi).toNat)
  case atStart => exact ⟨0, rfl, Nat.zero_le _, HJ1, HS1, HCU⟩
  case round =>
    clear HJ1 HS1
    obtain ⟨i, rfl, hi, HJi, HSi, HGi⟩ := hrel
    by_cases hlt : i < L.length
    · obtain ⟨Ax, cx, hx, hcx, hCx⟩ := HCS.out.2 i (L.getD i []) (by rw [List.getD_eq_getElem?_getD, List.getElem?_eq_getElem hlt]; rfl)
      have hxc : wr.cell? ⟨g, i, none⟩ = some (.slice Ax (L.getD i []).length cx) := by
        have h1 := HCE.out i _ hx
        rw [← h1]
        refine World.cell?_of_block ?_
        rw [HGi.out, HCU.out]
      have HSN := Aside0.mk (seq_next L i hlt)
      have HSP := Aside0.mk (fun j => seq_pre L i j hlt)
      have HCx := Aside0.mk hCx
      obtain ⟨x, hxd⟩ : ∃ x, x = L.getD i [] := ⟨_, rfl⟩
      rw [← hxd] at hxc HSN HSP HCx hcx
      have hltI : (i : Int) < (L.length : Int) := by omega
      have hxm : x.length ≤ 9223372036854775807 := HCx.out.2.1
      clear hx hCx hxd
      go_wp2
      go_loopw [19] (fun vj wk => ∃ j : Nat, vj = .int .i64 j ∧ j ≤ x.length ∧ Aside0 (J ((L.take i).flatten ++ x.take j) wk) ∧ Aside0 (AllS w0 A0 c0 hd A1 c1 rows Bt wk) ∧ Aside0 (wk.heap[g]? = some (.cells cur 22 (0, 0))))
        (fun vj _ => x.length - (intOf vj).toNat)
      case atStart => exact ⟨0, rfl, Nat.zero_le _, ⟨by rw [List.take_zero, List.append_nil]; exact HJi.out⟩, HSi, HGi⟩
      case round =>
        clear HJi HSi HGi hxc
        obtain ⟨j, rfl, hj, HJj, HSj, HGj⟩ := hrel
        by_cases hjl : j < x.length
        · obtain ⟨ax, eA, hxs⟩ := strAtA (Kd.C_below HCx.out HSj.out.lo) hjl
          cases eA
          have hjI : (j : Int) < (x.length : Int) := by omega
          have HTK := Aside0.mk (take_rdB hjl)
          have hpre := HSP.out (j + 1)
          rw [HTK.out, ← List.append_assoc] at hpre
          have hlt2 : ((L.take i).flatten ++ x.take j).length < L.flatten.length := by
            have := hpre.length_le
            rw [List.length_append, List.length_singleton] at this
            omega
          have HP := Aside0.mk hpre
          have HYq := Aside0.mk (HY.out _ (rdOf ByteArray.empty x (j : Int)) wr HJj.out hlt2)
          clear hpre hlt2
          generalize rdOf ByteArray.empty x (j : Int) = s at *
          obtain ⟨fn, tmps, assign, body, hy, hR⟩ := HYq.out
          refine (wpIn_wide (n := n)).1 ?_
          gi_wp2
          refine hR.mono ?_
          rintro e W3 (⟨rfl, hJ3, hk3⟩ | ⟨rfl, hJx3⟩)
          · have hS3 : AllS w0 A0 c0 hd A1 c1 rows Bt W3 := ⟨hk3.2 _ _ _ _ hBt HSj.out.t, HSj.out.lo.trans hk3.1⟩
            have hG3 := hk3.2 _ _ _ _ hgn HGj.out
            have HJ3 : Aside0 (J ((L.take i).flatten ++ x.take (j + 1)) W3) := ⟨by rw [HTK.out, ← List.append_assoc]; exact hJ3⟩
            clear hJ3 hk3
            gi_wp2
            go_roundw
            case rel => exact ⟨j + 1, by go_num, by omega, HJ3, ⟨hS3⟩, ⟨hG3⟩⟩
            case measure => simp [intOf]; omega
          · gi_wp2
            refine bodyPost_ret (results_none rfl _ _ _) rfl ?_
            exact ⟨⟨_, rfl⟩, .inr ⟨_, HP.out, hJx3⟩⟩
        · obtain rfl : j = x.length := by omega
          have HE : Aside0 (J ((L.take (i + 1)).flatten) wr) := ⟨by have := HJj.out; rwa [List.take_of_length_le (Nat.le_refl _), HSN.out] at this⟩
          go_wp2
          go_roundw
          case rel => exact ⟨i + 1, by go_num, by omega, HE, HSj, HGj⟩
          case measure => simp [intOf]; omega
    · obtain rfl : i = L.length := by omega
      have HE : Aside0 (J L.flatten wr) := ⟨by have := HJi.out; rwa [List.take_of_length_le (Nat.le_refl _)] at this⟩
      go_wp2
      refine bodyPost_end (results_none rfl _ _ _) rfl ?_
      exact ⟨⟨_, rfl⟩, .inl ⟨_, rfl, HE.out⟩⟩
end Go.Proofs.Ytbcpaojciephmaa.X
