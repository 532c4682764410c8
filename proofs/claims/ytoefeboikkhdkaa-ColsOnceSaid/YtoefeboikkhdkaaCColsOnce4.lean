/- The texts that the law ColsOnce wants, part 4 of 7: what is kept of them. -/
import Derived.Laws.AppendOwnNone
import Derived.RangeFuncNested
import Derived.RangeFuncBound
import Derived.RangeFuncCalls
import Derived.RangeFuncLeaves
import Derived.RangeFuncBox
import Derived.Shelf.Abstract
import Derived.OwnWalkIn
import Derived.TacticsInMore
import Derived.LoopNIn
import Derived.LoopIn
import Derived.Deep.RegionWith
import Derived.Laws.EntriesVeiled
import Derived.Deep.RegionHeld3
import Derived.Deep.QuietTactic
import Derived.BigQuiet
import Derived.WalkSpells
import Derived.Outline
import Derived.OneCell
import Derived.Test.YtoefeboikkhdkaaCColsOnce3
section
namespace Go.Proofs.Ytoefeboikkhdkaa.X
open Go.RowKit Go.Maps Go.Shelf Go.Proofs.YtoefeboikkhdkaaW.PrintWords Go.Proofs.YtoefeboikkhdkaaW.PrintLast
set_option linter.unusedVariables false
/-- Rows' cells: each a slice that reads as its row. -/
def CellsOf (w : World) (xs : List (List ByteArray)) (cs : List Value) : Prop := cs.length = xs.length ∧ ∀ (i : Nat) (x : List ByteArray), xs[i]? = some x → ∃ (A : Option Addr) (c : Nat), cs[i]? = some (Value.slice A x.length c) ∧ x.length ≤ c ∧ Kd.C Kd.string w A x.length x
theorem CellsOf.below {w w' : World} {xs : List (List ByteArray)} {cs : List Value} (h : CellsOf w xs cs) (hb : Below w.heap.size w w') : CellsOf w' xs cs :=
  ⟨h.1, fun i x hx => by obtain ⟨A, c, h1, h2, h3⟩ := h.2 i x hx; exact ⟨A, c, h1, h2, Kd.C_below h3 hb⟩⟩
theorem CellsOf.cons {w : World} {x : List ByteArray} {xs : List (List ByteArray)} {A : Option Addr} {c : Nat} {cs : List Value} (hx : Kd.C Kd.string w A x.length x) (hc : x.length ≤ c) (h : CellsOf w xs cs) : CellsOf w (x :: xs) (Value.slice A x.length c :: cs) := by
  refine ⟨by simp [h.1], fun i y hy => ?_⟩
  cases i with
  | zero => simp at hy; subst hy; exact ⟨A, c, rfl, hc, hx⟩
  | succ i => simp at hy; exact h.2 i y hy
theorem CellsOf.one {w : World} {xs : List (List ByteArray)} {cs : List Value} (h : CellsOf w xs cs) : ∀ u ∈ cs, u.oneCell' = true := by
  intro u hu
  obtain ⟨i, hi⟩ := List.getElem?_of_mem hu
  have hlt := (List.getElem?_eq_some_iff.1 hi).1
  have hlt' : i < xs.length := by rw [← h.1]; exact hlt
  obtain ⟨A, c, h1, _⟩ := h.2 i xs[i] (List.getElem?_eq_getElem hlt')
  rw [hi] at h1
  injection h1 with h1
  subst h1
  rfl
theorem cellsOf_mk {w : World} {ad : Addr} {rows : List (List ByteArray)} (h : Kd.C (Kd.slice 9 Kd.string) w (some ad) rows.length rows) : ∃ cs, CellsOf w rows cs ∧ ∀ j u, cs[j]? = some u → w.cell? (ad.add j) = some u := by
  have each : ∀ j x, rows[j]? = some x → ∃ (A : Option Addr) (c : Nat), w.cell? (ad.add j) = some (Value.slice A x.length c) ∧ x.length ≤ c ∧ Kd.C Kd.string w A x.length x := by
    intro j x hx
    have hlt := (List.getElem?_eq_some_iff.1 hx).1
    obtain ⟨ad', e, hc⟩ := h.2.2 (by omega)
    cases e
    obtain ⟨cs, hl, hK, hu⟩ := hc j x hx
    obtain ⟨A, c, rfl, h1, h2⟩ := hK
    have := hu 0 _ rfl
    refine ⟨A, c, ?_, h1, h2⟩
    have e2 : j * (Kd.slice 9 Kd.string).sz + 0 = j := by show j * 1 + 0 = j; omega
    rw [e2] at this
    exact this
  refine ⟨(List.range rows.length).map fun j => (w.cell? (ad.add j)).getD undef, ⟨by simp, fun i x hx => ?_⟩, fun j u hu => ?_⟩
  · obtain ⟨A, c, h1, h2, h3⟩ := each i x hx
    have hlt := (List.getElem?_eq_some_iff.1 hx).1
    refine ⟨A, c, ?_, h2, h3⟩
    rw [List.getElem?_map, List.getElem?_range hlt]
    simp [h1]
  · rw [List.getElem?_map] at hu
    rcases Nat.lt_or_ge j rows.length with hlt | hge
    · rw [List.getElem?_range hlt] at hu
      obtain ⟨A, c, h1, _⟩ := each j rows[j] (List.getElem?_eq_getElem hlt)
      simp [h1] at hu
      rw [h1, hu]
    · rw [List.getElem?_eq_none (by simpa using hge)] at hu
      cases hu
theorem infoSS : (Try.prog.info? 22).map (fun i => (i.zero, i.size, i.bytes)) = some (some (.slice none 0 0), 1, 24) := by kernel_rfl
theorem one_ownsRow (w : World) (u : Value) (e : TypeId) : (w.alloc (.cells #[u] e)).ownsRow w.heap.size e 1 (.slice (some ⟨w.heap.size, 0, none⟩) 1 1) 1 [u] :=
  ⟨rfl, .inr ⟨w.heap.size, 1, #[u], rfl, Nat.le_refl _, blk_new w _, Nat.le_refl _, by decide, rfl, rfl⟩⟩
theorem below_own_grown {w w1 w2 : World} {v : Value} {base n z : Nat} {e : TypeId} {xs : List Value} (ho : w1.ownsRow base e z v n xs) (hbs : base ≤ w1.heap.size) (hb : Below base w w1) (hg : w1.grownBy w2 v.ownBlock) : Below base w w2 :=
  hb.grown hg hbs (fun k hk => own_base ho k hk)
set_option maxRecDepth 100000 in
set_option maxHeartbeats 800000 in
theorem lists_calls (A0 : Option Addr) (c0 : Nat) (hd : List ByteArray) (A1 : Option Addr) (c1 : Nat) (rows : List (List ByteArray)) (w0 w : World) (hlo : Below w0.heap.size w0 w) (hr0 : Kd.C Kd.string w0 A0 hd.length hd) (hc0 : hd.length ≤ c0) (hr1 : Kd.C (Kd.slice 9 Kd.string) w0 A1 rows.length rows) (hl : rows.length ≤ 1000000) :
    Calls Try.prog 76 #[.slice A0 hd.length c0, .slice A1 rows.length c1] w fun e w' => ∃ v cs, e = .returned v ∧ CellsOf w0 (hd :: rows) cs ∧ w'.ownsRow w.heap.size 22 1 v cs.length cs ∧ Below w.heap.size w w' := by
  obtain ⟨i0, hi, hz0, hz1, hz2⟩ := info_parts infoSS
  have h1 := Aside0.mk (one_ownsRow w (.slice A0 hd.length c0) 22)
  have hB := Aside0.mk (below_alloc (Below.refl w.heap.size w) (.cells #[.slice A0 hd.length c0] 22))
  rcases A1 with _ | ad
  · have h0 : rows.length = 0 := by
      rcases Nat.eq_zero_or_pos rows.length with h | h
      · exact h
      · obtain ⟨ad, e, _⟩ := hr1.2.2 h; cases e
    obtain rfl := List.eq_nil_of_length_eq_zero h0
    have HC := Aside0.mk (CellsOf.cons hr0 hc0 (⟨rfl, fun i x hx => by simp at hx⟩ : CellsOf w0 [] []))
    clear hr0 hr1
    go_enter Try.func76, Try.ntmps76
    go_wp2_with (first
      | (at_builtin; refine wpList_append_own_none rfl _ _ 23 rfl w.heap.size 22 i0 1 Try.underlying23 hi _ _ _ rfl h1.out rfl ?_))
    go_ret
    exact ⟨_, _, rfl, HC.out, h1.out, hB.out⟩
  · obtain ⟨cs, hcs, hcell⟩ := cellsOf_mk hr1
    have HC := Aside0.mk (CellsOf.cons hr0 hc0 hcs)
    have HN := Aside0.mk (fun j u (hu : cs[j]? = some u) => ((hlo.trans (hB.out.mono hlo.size)).cell (World.block_lt_of_cell? _ _ (hcell j u hu))).trans (hcell j u hu))
    have HO := Aside0.mk hcs.one
    have hcl := hcs.1
    have hml : 1 + rows.length ≤ maxLen := by unfold maxLen; omega
    have hml2 : (1 + rows.length) * 24 ≤ 140737488355328 := by omega
    have hbs := hB.out.size
    clear hr0 hr1 hcs hcell
    go_enter Try.func76, Try.ntmps76
    go_wp2_with (first
      | (at_builtin; refine wpList_append_own _ rfl _ _ 23 rfl w.heap.size 22 i0 _ 1 24 Try.underlying23 hi hz0 hz1 hz2 rfl (by decide) _ _ _ rfl h1.out ad rows.length c1 cs rfl (by rw [hcl]; omega) HN.out HO.out hml hml2 hbs ?_; intro v' w1 hown' hgrow _))
    go_ret
    refine ⟨_, _, rfl, HC.out, ?_, below_own_grown h1.out hbs hB.out hgrow⟩
    rw [List.length_cons, hcl, Nat.add_comm]
    exact hown'
end Go.Proofs.Ytoefeboikkhdkaa.X
end
section
namespace Go.Proofs.Ytoefeboikkhdkaa.X
open Go.RowKit Go.Maps Go.Shelf Go.Proofs.YtoefeboikkhdkaaW.PrintWords Go.Proofs.YtoefeboikkhdkaaW.PrintLast
set_option linter.unusedVariables false
/-- What a round keeps: what lay before, and every row but one. -/
def KpC (n₀ Bn : Nat) (A B : World) : Prop := Below n₀ A B ∧ ∀ (k : Nat) (cs : Array Value) (t : TypeId) (fr : Nat × Nat), k ≠ Bn → A.heap[k]? = some (.cells cs t fr) → B.heap[k]? = some (.cells cs t fr)
theorem KpC.trans {n₀ Bn : Nat} {A B C : World} (h : KpC n₀ Bn A B) (k : KpC n₀ Bn B C) : KpC n₀ Bn A C := ⟨h.1.trans k.1, fun j cs t fr hj hc => k.2 j cs t fr hj (h.2 j cs t fr hj hc)⟩
theorem KpC.below {n₀ Bn : Nat} {A B : World} (hb : Below A.heap.size A B) (hn : n₀ ≤ A.heap.size) : KpC n₀ Bn A B := ⟨hb.mono hn, fun k cs t fr _ hc => (hb.block k (lt_of_block hc)).trans hc⟩
theorem KpC.put {n₀ Bn : Nat} {w : World} (hn : n₀ ≤ w.heap.size) (W : World) (l : Nat) (o o' : Obj) (hl : w.heap.size ≤ l) (h : W.heap[l]? = some o) (ho : o.isCells = false) (hw : o.isWalk = false) : KpC n₀ Bn W (W.putObj l o') := by
  refine ⟨belowK_b hn W l o o' hl h ho hw, fun k cs t fr _ hc => ?_⟩
  have hne : k ≠ l := by
    rintro rfl
    rw [h] at hc
    injection hc with hc
    subst hc
    cases ho
  have hg := grownBy_putObj' W l o'
  rw [hg.block k (lt_of_block hc) (fun e => hne (by cases e; rfl)), hc]
/-- All names, and all cells. -/
def seqR (hd : List ByteArray) (rows : List (List ByteArray)) : List ByteArray := (hd :: rows).flatten
theorem seq_pre (L : List (List ByteArray)) (i j : Nat) (hi : i < L.length) : (L.take i).flatten ++ (L.getD i []).take j <+: L.flatten := by
  have e : L = L.take i ++ L.getD i [] :: L.drop (i + 1) := by
    rw [List.getD_eq_getElem?_getD, List.getElem?_eq_getElem hi]
    show L = L.take i ++ L[i] :: L.drop (i + 1)
    rw [List.getElem_cons_drop, List.take_append_drop]
  conv => rhs; rw [e]
  rw [List.flatten_append, List.flatten_cons]
  refine (List.prefix_append_right_inj _).2 ?_
  exact (List.take_prefix _ _).trans (List.prefix_append _ _)
theorem seq_next (L : List (List ByteArray)) (i : Nat) (hi : i < L.length) : (L.take i).flatten ++ L.getD i [] = (L.take (i + 1)).flatten := by
  rw [List.take_succ_eq_append_getElem hi, List.flatten_append, List.getD_eq_getElem?_getD, List.getElem?_eq_getElem hi]
  simp
/-- What lies for the iterator. -/
structure AllS (w0 : World) (A0 : Option Addr) (c0 : Nat) (hd : List ByteArray) (A1 : Option Addr) (c1 : Nat) (rows : List (List ByteArray)) (Bt : Nat) (W : World) : Prop where
  t : W.heap[Bt]? = some (.cells #[.slice A0 hd.length c0, .slice A1 rows.length c1] 25 (0, 0))
  lo : Below w0.heap.size w0 W
theorem AllS.below {w0 : World} {A0 : Option Addr} {c0 : Nat} {hd : List ByteArray} {A1 : Option Addr} {c1 : Nat} {rows : List (List ByteArray)} {Bt : Nat} {W W' : World} (h : AllS w0 A0 c0 hd A1 c1 rows Bt W) (hb : Below W.heap.size W W') : AllS w0 A0 c0 hd A1 c1 rows Bt W' :=
  ⟨(hb.block _ (lt_of_block h.t)).trans h.t, h.lo.trans (hb.mono h.lo.size)⟩
theorem strAtA {w : World} {A : Option Addr} {l : List ByteArray} (h : Kd.C Kd.string w A l.length l) {k : Nat} (hk : k < l.length) : ∃ ad, A = some ad ∧ w.cell? (ad.add k) = some (.string (rdOf ByteArray.empty l (k : Int))) := by
  obtain ⟨ad, e, hx⟩ := Kd.at_string h (k : Int) (by omega) (by omega)
  exact ⟨ad, e, hx⟩
theorem take_rdB {l : List ByteArray} {k : Nat} (h : k < l.length) : l.take (k + 1) = l.take k ++ [rdOf ByteArray.empty l (k : Int)] := by
  unfold rdOf
  rw [show ((k : Int)).toNat = k from rfl, List.take_succ_eq_append_getElem h, List.getD_eq_getElem?_getD, List.getElem?_eq_getElem h]; rfl
theorem own_cellAt {W : World} {base n : Nat} {v : Value} {cs : List Value} {e : TypeId} (ho : W.ownsRow base e 1 v n cs) (hn : 0 < n) : ∃ g cap, v = .slice (some ⟨g, 0, none⟩) n cap ∧ base ≤ g ∧ (∀ (i : Nat) (u : Value), cs[i]? = some u → W.cell? ⟨g, i, none⟩ = some u) ∧ ∃ cur, W.heap[g]? = some (.cells cur e (0, 0)) ∧ n ≤ cap := by
  rcases ho.2 with ⟨_, h0⟩ | ⟨g, cap, cur, hv, hb, hh, hc, hm, hs, ht⟩
  · omega
  · refine ⟨g, cap, hv, hb, fun i u hi => ?_, cur, hh, hc⟩
    have hlt : i < cs.length := (List.getElem?_eq_some_iff.1 hi).1
    rw [ho.1] at hlt
    rw [← ht, List.getElem?_take_of_lt (by omega), Array.getElem?_toList] at hi
    simp [World.cell?, hh, hi]
set_option maxRecDepth 100000 in
set_option maxHeartbeats 4000000 in
theorem all1_calls (w0 : World) (Bn : Nat) (A0 : Option Addr) (c0 : Nat) (hd : List ByteArray) (A1 : Option Addr) (c1 : Nat) (rows : List (List ByteArray)) (Bt n l : Nat) (hr0 : Kd.C Kd.string w0 A0 hd.length hd) (hc0 : hd.length ≤ c0) (hr1 : Kd.C (Kd.slice 9 Kd.string) w0 A1 rows.length rows) (hl : rows.length ≤ 100000)
    (hn : 1 ≤ n) (J Jx : List ByteArray → World → Prop) (W : World)
    (hJ : ∀ s W W', J s W → Below W.heap.size W W' → J s W')
    (hY : ∀ pre x W1, J pre W1 → pre.length < (seqR hd rows).length → YieldAt Fence.wide (n - 1) Try.prog l #[.string x] W1 fun e W' =>
      (e = .returned (.bool true) ∧ J (pre ++ [x]) W' ∧ KpC w0.heap.size Bn W1 W') ∨ (e = .returned (.bool false) ∧ Jx (pre ++ [x]) W'))
    (hS : AllS w0 A0 c0 hd A1 c1 rows Bt W) (hBt : Bt ≠ Bn) (hBn : Bn < W.heap.size) (hw0 : w0.heap.size ≤ W.heap.size) (h0 : J [] W) :
    Calls Try.prog 75 #[.func (.yield l) #[] #[], .pointer (some ⟨Bt, 0, none⟩)] W fun e W' => (∃ v, e = .returned v) ∧ ((∃ ys, ys = seqR hd rows ∧ J ys W') ∨ (∃ pre, pre <+: seqR hd rows ∧ Jx pre W')) := by
  obtain ⟨L, hL⟩ : ∃ L, L = hd :: rows := ⟨_, rfl⟩
  have hLl : L.length ≤ 100001 := by rw [hL]; simp; omega
  have hLp : 0 < L.length := by rw [hL]; simp
  unfold seqR at hY ⊢
  rw [← hL] at hY ⊢
  have HY := Aside0.mk hY
  have HJ := Aside0.mk hJ
  have HR := Aside0.mk (And.intro hr0 hr1)
  have HS := Aside0.mk hS
  have HL := Aside0.mk hL
  have HT0 := blk_cell hS.t 0
  have HT1 := blk_cell hS.t 1
  have hf0 := blk_frozen hS.t 0
  have hf1 := blk_frozen hS.t 1
  have H0 := Aside0.mk h0
  clear hY hJ hr0 hr1 hS h0 hL
  go_enter Try.func75, Try.ntmps75
  go_wp2_with (first
    | (go_at_call 76; refine (lists_calls A0 c0 hd A1 c1 rows w0 _ HS.out.lo HR.out.1 hc0 HR.out.2 (by omega)).mono ?_; rintro e w1 ⟨v, cs, rfl, hcs, ho, hb⟩; rw [← HL.out] at hcs; rw [hcs.1] at ho; obtain ⟨g, cap, rfl, hg, hcell, cur, hcur, hcap⟩ := own_cellAt ho hLp))
  have HS1 := Aside0.mk (HS.out.below hb)
  have HJ1 := Aside0.mk (HJ.out _ _ _ H0.out hb)
  have HCS := Aside0.mk hcs
  have hgn : g ≠ Bn := by omega
  have HCE := Aside0.mk hcell
  have HCU := Aside0.mk hcur
  have hw1 : w0.heap.size ≤ w1.heap.size := Nat.le_trans hw0 hb.size
  clear HS H0 ho hb hcs hcell hcur HT0 HT1 hf0 hf1
  go_loopw [13] (fun vi wr => ∃ i : Nat, vi = .int .i64 i ∧ i ≤ L.length ∧ Aside0 (J ((L.take i).flatten) wr) ∧ Aside0 (AllS w0 A0 c0 hd A1 c1 rows Bt wr) ∧ Aside0 (wr.heap[g]? = some (.cells cur 22 (0, 0))))
    (fun vi _ => L.length - (intOf vi).toNat)
  case atStart => exact ⟨0, rfl, Nat.zero_le _, HJ1, HS1, HCU⟩
  case round =>
    clear HJ1 HS1
    obtain ⟨i, rfl, hi, HJi, HSi, HGi⟩ := hrel
    by_cases hlt : i < L.length
    · obtain ⟨Ax, cx, hx, hcx, hCx⟩ := HCS.out.2 i (L.getD i []) (by rw [List.getD_eq_getElem?_getD, List.getElem?_eq_getElem hlt]; rfl)
      have hxc : wr.cell? ⟨g, i, none⟩ = some (.slice Ax (L.getD i []).length cx) := by
        have h1 := HCE.out i _ hx
        rw [← h1]
        refine World.cell?_of_block ?_
        rw [HGi.out, HCU.out]
      have HSN := Aside0.mk (seq_next L i hlt)
      have HSP := Aside0.mk (fun j => seq_pre L i j hlt)
      have HCx := Aside0.mk hCx
      obtain ⟨x, hxd⟩ : ∃ x, x = L.getD i [] := ⟨_, rfl⟩
      rw [← hxd] at hxc HSN HSP HCx hcx
      have hltI : (i : Int) < (L.length : Int) := by omega
      have hxm : x.length ≤ 9223372036854775807 := HCx.out.2.1
      clear hx hCx hxd
      go_wp2
      go_loopw [19] (fun vj wk => ∃ j : Nat, vj = .int .i64 j ∧ j ≤ x.length ∧ Aside0 (J ((L.take i).flatten ++ x.take j) wk) ∧ Aside0 (AllS w0 A0 c0 hd A1 c1 rows Bt wk) ∧ Aside0 (wk.heap[g]? = some (.cells cur 22 (0, 0))))
        (fun vj _ => x.length - (intOf vj).toNat)
      case atStart => exact ⟨0, rfl, Nat.zero_le _, ⟨by rw [List.take_zero, List.append_nil]; exact HJi.out⟩, HSi, HGi⟩
      case round =>
        clear HJi HSi HGi hxc
        obtain ⟨j, rfl, hj, HJj, HSj, HGj⟩ := hrel
        by_cases hjl : j < x.length
        · obtain ⟨ax, eA, hxs⟩ := strAtA (Kd.C_below HCx.out HSj.out.lo) hjl
          cases eA
          have hjI : (j : Int) < (x.length : Int) := by omega
          have HTK := Aside0.mk (take_rdB hjl)
          have hpre := HSP.out (j + 1)
          rw [HTK.out, ← List.append_assoc] at hpre
          have hlt2 : ((L.take i).flatten ++ x.take j).length < L.flatten.length := by
            have := hpre.length_le
            rw [List.length_append, List.length_singleton] at this
            omega
          have HP := Aside0.mk hpre
          have HYq := Aside0.mk (HY.out _ (rdOf ByteArray.empty x (j : Int)) wr HJj.out hlt2)
          clear hpre hlt2
          generalize rdOf ByteArray.empty x (j : Int) = s at *
          obtain ⟨fn, tmps, assign, body, hy, hR⟩ := HYq.out
          refine (wpIn_wide (n := n)).1 ?_
          gi_wp2
          refine hR.mono ?_
          rintro e W3 (⟨rfl, hJ3, hk3⟩ | ⟨rfl, hJx3⟩)
          · have hS3 : AllS w0 A0 c0 hd A1 c1 rows Bt W3 := ⟨hk3.2 _ _ _ _ hBt HSj.out.t, HSj.out.lo.trans hk3.1⟩
            have hG3 := hk3.2 _ _ _ _ hgn HGj.out
            have HJ3 : Aside0 (J ((L.take i).flatten ++ x.take (j + 1)) W3) := ⟨by rw [HTK.out, ← List.append_assoc]; exact hJ3⟩
            clear hJ3 hk3
            gi_wp2
            go_roundw
            case rel => exact ⟨j + 1, by go_num, by omega, HJ3, ⟨hS3⟩, ⟨hG3⟩⟩
            case measure => simp [intOf]; omega
          · gi_wp2
            refine bodyPost_ret (results_none rfl _ _ _) rfl ?_
            exact ⟨⟨_, rfl⟩, .inr ⟨_, HP.out, hJx3⟩⟩
        · obtain rfl : j = x.length := by omega
          have HE : Aside0 (J ((L.take (i + 1)).flatten) wr) := ⟨by have := HJj.out; rwa [List.take_of_length_le (Nat.le_refl _), HSN.out] at this⟩
          go_wp2
          go_roundw
          case rel => exact ⟨i + 1, by go_num, by omega, HE, HSj, HGj⟩
          case measure => simp [intOf]; omega
    · obtain rfl : i = L.length := by omega
      have HE : Aside0 (J L.flatten wr) := ⟨by have := HJi.out; rwa [List.take_of_length_le (Nat.le_refl _)] at this⟩
      go_wp2
      refine bodyPost_end (results_none rfl _ _ _) rfl ?_
      exact ⟨⟨_, rfl⟩, .inl ⟨_, rfl, HE.out⟩⟩
end Go.Proofs.Ytoefeboikkhdkaa.X
end
section
namespace Go.Proofs.Ytoefeboikkhdkaa.X
open Go.RowKit Go.Maps Go.Shelf Go.Proofs.YtoefeboikkhdkaaW.PrintWords Go.Proofs.YtoefeboikkhdkaaW.PrintLast
set_option linter.unusedVariables false
/-- What a round keeps: every row but a box, and those of scored pairs. -/
def KpW (n₀ Bn : Nat) (A B : World) : Prop := Below n₀ A B ∧ ∀ (k : Nat) (cs : Array Value) (t : TypeId) (fr : Nat × Nat), k ≠ Bn → t ≠ 57 → A.heap[k]? = some (.cells cs t fr) → B.heap[k]? = some (.cells cs t fr)
theorem KpW.trans {n₀ Bn : Nat} {A B C : World} (h : KpW n₀ Bn A B) (k : KpW n₀ Bn B C) : KpW n₀ Bn A C := ⟨h.1.trans k.1, fun j cs t fr hj ht hc => k.2 j cs t fr hj ht (h.2 j cs t fr hj ht hc)⟩
theorem KpW.put {n₀ Bn : Nat} {w : World} (hn : n₀ ≤ w.heap.size) (W : World) (l : Nat) (o o' : Obj) (hl : w.heap.size ≤ l) (h : W.heap[l]? = some o) (ho : o.isCells = false) (hw : o.isWalk = false) : KpW n₀ Bn W (W.putObj l o') := by
  have hk := KpC.put (Bn := Bn) hn W l o o' hl h ho hw
  exact ⟨hk.1, fun k cs t fr hj _ hc => hk.2 k cs t fr hj hc⟩
theorem KpW.below {n₀ Bn : Nat} {A B : World} (hb : Below A.heap.size A B) (hn : n₀ ≤ A.heap.size) : KpW n₀ Bn A B :=
  ⟨hb.mono hn, fun k cs t fr _ _ hc => (hb.block k (lt_of_block hc)).trans hc⟩
/-- What lies for the iterator. -/
structure LeftS (w0 : World) (A : Option Addr) (c : Nat) (l : List PS) (na nb : Int) (Bl Ba Bb : Nat) (W : World) : Prop where
  l : W.heap[Bl]? = some (.cells #[.slice A l.length c] 28 (0, 0))
  a : W.heap[Ba]? = some (.cells #[.int .i64 na] 3 (0, 0))
  b : W.heap[Bb]? = some (.cells #[.int .i64 nb] 3 (0, 0))
  lo : Below w0.heap.size w0 W
section
variable {w0 : World} {A : Option Addr} {c : Nat} {l : List PS} {na nb : Int} {Bl Ba Bb : Nat} {W W' : World}
theorem LeftS.below (h : LeftS w0 A c l na nb Bl Ba Bb W) (hb : Below W.heap.size W W') : LeftS w0 A c l na nb Bl Ba Bb W' :=
  ⟨(hb.block _ (lt_of_block h.l)).trans h.l, (hb.block _ (lt_of_block h.a)).trans h.a, (hb.block _ (lt_of_block h.b)).trans h.b, h.lo.trans (hb.mono h.lo.size)⟩
theorem LeftS.kp {Bn : Nat} (h : LeftS w0 A c l na nb Bl Ba Bb W) (hk : KpW w0.heap.size Bn W W') (hne : Bl ≠ Bn ∧ Ba ≠ Bn ∧ Bb ≠ Bn) : LeftS w0 A c l na nb Bl Ba Bb W' :=
  ⟨hk.2 _ _ _ _ hne.1 (by decide) h.l, hk.2 _ _ _ _ hne.2.1 (by decide) h.a, hk.2 _ _ _ _ hne.2.2 (by decide) h.b, h.lo.trans hk.1⟩
end
/-- A row of numbers of the iterator's own. -/
structure RowI (Bn : Nat) (v : Value) (xs : List Int) (W : World) : Prop where
  own : W.ownsRow 0 3 1 v xs.length (encs (Value.int .i64) xs)
  ne : ∀ k, v.ownBlock = some k → k ≠ Bn
section
variable {Bn : Nat} {v : Value} {xs : List Int} {W W' : World}
theorem RowI.block (h : RowI Bn v xs W) {k : Nat} (hk : v.ownBlock = some k) : ∃ cs, W.heap[k]? = some (.cells cs 3 (0, 0)) := by
  rcases h.own.2 with ⟨rfl, _⟩ | ⟨g, cap, cur, rfl, _, hg, _⟩
  · cases hk
  · obtain rfl : g = k := by simpa [Value.ownBlock] using hk
    exact ⟨cur, hg⟩
theorem RowI.below (h : RowI Bn v xs W) (hb : Below W.heap.size W W') : RowI Bn v xs W' := by
  refine ⟨own_move h.own (fun k hk => ?_), h.ne⟩
  obtain ⟨cs, hcs⟩ := h.block hk
  exact hb.block k (lt_of_block hcs)
theorem RowI.kp {n₀ : Nat} (h : RowI Bn v xs W) (hk : KpW n₀ Bn W W') : RowI Bn v xs W' := by
  refine ⟨own_move h.own (fun k hv => ?_), h.ne⟩
  obtain ⟨cs, hcs⟩ := h.block hv
  rw [hk.2 k cs _ _ (h.ne k hv) (by decide) hcs, hcs]
theorem RowI.new (h : Kd.R (Kd.int .i64) 3 W' W.heap.size (fun _ => True) v xs) (hBn : Bn < W.heap.size) : RowI Bn v xs W' := by
  have hown := Kd.own_of_R h
  refine ⟨Go.Proofs.YtoefeboikkhdkaaW.PrintWords.own_weaken hown (Nat.zero_le _), fun k hk => ?_⟩
  rcases hown.2 with ⟨rfl, _⟩ | ⟨g, cap, cur, rfl, hg, _⟩
  · cases hk
  · obtain rfl : g = k := by simpa [Value.ownBlock] using hk
    omega
theorem RowI.at {A : Option Addr} {c : Nat} (h : RowI Bn (.slice A xs.length c) xs W) {i : Nat} (hi : i < xs.length) : ∃ ad, A = some ad ∧ W.cell? (ad.add i) = some (.int .i64 (rd xs (i : Int))) :=
  intAt (Kd.R_reads' (Kd.R_of_own (ok := fun _ => True) (h1 := fun _ => rfl) h.own (fun _ _ => trivial))).2.2 hi
end
/-- Each of the one, with each of the other. -/
def leftR (ps qs : List Int) : List (Int × Int) := ps.flatMap fun p => qs.map fun q => (p, q)
theorem left_next (ps qs : List Int) (i : Nat) (hi : i < ps.length) : leftR (ps.take i) qs ++ qs.map (fun q => (rd ps (i : Int), q)) = leftR (ps.take (i + 1)) qs := by
  unfold leftR
  rw [take_rdI hi, List.flatMap_append]
  simp
theorem left_pre (ps qs : List Int) (i j : Nat) (hi : i < ps.length) : leftR (ps.take i) qs ++ (qs.take j).map (fun q => (rd ps (i : Int), q)) <+: leftR ps qs := by
  have h1 : leftR (ps.take i) qs ++ (qs.take j).map (fun q => (rd ps (i : Int), q)) <+: leftR (ps.take (i + 1)) qs := by
    rw [← left_next ps qs i hi]
    refine (List.prefix_append_right_inj _).2 ?_
    exact (List.take_prefix j qs).map _
  refine h1.trans ?_
  have e : ps = ps.take (i + 1) ++ ps.drop (i + 1) := (List.take_append_drop _ _).symm
  conv => rhs; rw [e]
  unfold leftR
  rw [List.flatMap_append]
  exact List.prefix_append _ _
set_option maxRecDepth 100000 in
set_option maxHeartbeats 4000000 in
theorem left1_calls (w0 : World) (Bn : Nat) (A : Option Addr) (c : Nat) (l : List PS) (na nb : Int) (Bl Ba Bb n lp : Nat) (ps qs : List Int) (hr : Kd.C k37 w0 A l.length l) (hc : l.length ≤ c) (hpa : pairs_RestA.f l na = some ps) (hpb : pairs_RestB.f l nb = some qs) (hpl : ps.length ≤ 100000) (hql : qs.length ≤ 100000)
    (hn : 1 ≤ n) (J Jx : List (Int × Int) → World → Prop) (W : World)
    (hJ : ∀ s W W', J s W → Below W.heap.size W W' → J s W')
    (hY : ∀ pre x W1, J pre W1 → pre.length < (leftR ps qs).length → YieldAt Fence.wide (n - 1) Try.prog lp #[.int .i64 x.1, .int .i64 x.2] W1 fun e W' =>
      (e = .returned (.bool true) ∧ J (pre ++ [x]) W' ∧ KpW w0.heap.size Bn W1 W') ∨ (e = .returned (.bool false) ∧ Jx (pre ++ [x]) W'))
    (hS : LeftS w0 A c l na nb Bl Ba Bb W) (hne : Bl ≠ Bn ∧ Ba ≠ Bn ∧ Bb ≠ Bn) (hBn : Bn < W.heap.size) (h0 : J [] W) :
    Calls Try.prog 54 #[.func (.yield lp) #[] #[], .pointer (some ⟨Bl, 0, none⟩), .pointer (some ⟨Ba, 0, none⟩), .pointer (some ⟨Bb, 0, none⟩)] W fun e W' => (∃ v, e = .returned v) ∧ ((∃ ys, ys = leftR ps qs ∧ J ys W') ∨ (∃ pre, pre <+: leftR ps qs ∧ Jx pre W')) := by
  have HY := Aside0.mk hY
  have HJ := Aside0.mk hJ
  have HR := Aside0.mk hr
  have HPA := Aside0.mk hpa
  have HPB := Aside0.mk hpb
  have HS := Aside0.mk hS
  have HL0 := blk_cell hS.l 0
  have HA0 := blk_cell hS.a 0
  have hf0 := blk_frozen hS.l 0
  have hf1 := blk_frozen hS.a 0
  have H0 := Aside0.mk h0
  have HNE := Aside0.mk hne
  clear hY hJ hr hpa hpb hS h0 hne
  go_enter Try.func54, Try.ntmps54
  go_wp2_with (first
    | (go_at_call 55; refine (pairs_RestA.calls A c l na ps _ (Kd.C_below HR.out HS.out.lo) hc HPA.out).mono ?_; rintro e w1 ⟨v, rfl, ho, hb⟩; obtain ⟨Ap, cp, rfl⟩ := Kd.R_slice ho; have HS1 := Aside0.mk (HS.out.below hb); have HJ1 := Aside0.mk (HJ.out _ _ _ H0.out hb); have HP1 := Aside0.mk (RowI.new ho hBn); have hB1 : Bn < w1.heap.size := Nat.lt_of_lt_of_le hBn hb.size; clear ho hb))
  clear HS H0 HL0 HA0 hf0 hf1
  go_loopw [13] (fun vi wr => ∃ i : Nat, vi = .int .i64 i ∧ i ≤ ps.length ∧ Aside0 (J (leftR (ps.take i) qs) wr) ∧ Aside0 (LeftS w0 A c l na nb Bl Ba Bb wr) ∧ Aside0 (RowI Bn (.slice Ap ps.length cp) ps wr) ∧ Bn < wr.heap.size)
    (fun vi _ => ps.length - (intOf vi).toNat)
  case atStart => exact ⟨0, rfl, Nat.zero_le _, HJ1, HS1, HP1, hB1⟩
  case round =>
    clear HJ1 HS1 HP1
    obtain ⟨i, rfl, hi, HJi, HSi, HPi, hBi⟩ := hrel
    by_cases hlt : i < ps.length
    · obtain ⟨ad, eA, hx⟩ := HPi.out.at hlt
      cases eA
      have HSN := Aside0.mk (left_next ps qs i hlt)
      have HSP := Aside0.mk (fun j => left_pre ps qs i j hlt)
      have hltI : (i : Int) < (ps.length : Int) := by omega
      have HL0 := blk_cell HSi.out.l 0
      have HB0 := blk_cell HSi.out.b 0
      have hf0 := blk_frozen HSi.out.l 0
      have hf1 := blk_frozen HSi.out.b 0
      generalize rd ps (i : Int) = p at *
      go_wp2_with (first
        | (go_at_call 56; refine (pairs_RestB.calls A c l nb qs _ (Kd.C_below HR.out HSi.out.lo) hc HPB.out).mono ?_; rintro e w2 ⟨v, rfl, ho, hb⟩; obtain ⟨Aq, cq, rfl⟩ := Kd.R_slice ho; have HS2 := Aside0.mk (HSi.out.below hb); have HJ2 := Aside0.mk (HJ.out _ _ _ HJi.out hb); have HP2 := Aside0.mk (HPi.out.below hb); have HQ2 := Aside0.mk (RowI.new ho hBi); have hB2 : Bn < w2.heap.size := Nat.lt_of_lt_of_le hBi hb.size; clear ho hb))
      clear HL0 HB0 hf0 hf1 hx HJi HSi HPi
      go_loopw [21] (fun vj wk => ∃ j : Nat, vj = .int .i64 j ∧ j ≤ qs.length ∧ Aside0 (J (leftR (ps.take i) qs ++ (qs.take j).map (fun q => (p, q))) wk) ∧ Aside0 (LeftS w0 A c l na nb Bl Ba Bb wk) ∧ Aside0 (RowI Bn (.slice (some ad) ps.length cp) ps wk) ∧ Aside0 (RowI Bn (.slice Aq qs.length cq) qs wk) ∧ Bn < wk.heap.size)
        (fun vj _ => qs.length - (intOf vj).toNat)
      case atStart => exact ⟨0, rfl, Nat.zero_le _, ⟨by rw [List.take_zero, List.map_nil, List.append_nil]; exact HJ2.out⟩, HS2, HP2, HQ2, hB2⟩
      case round =>
        clear HJ2 HS2 HP2 HQ2
        obtain ⟨j, rfl, hj, HJj, HSj, HPj, HQj, hBj⟩ := hrel
        by_cases hjl : j < qs.length
        · obtain ⟨ax, eA, hxs⟩ := HQj.out.at hjl
          cases eA
          have hjI : (j : Int) < (qs.length : Int) := by omega
          have HTK := Aside0.mk (take_rdI hjl)
          have hpre := HSP.out (j + 1)
          rw [HTK.out, List.map_append, ← List.append_assoc] at hpre
          have hlt2 : (leftR (ps.take i) qs ++ (qs.take j).map (fun q => (p, q))).length < (leftR ps qs).length := by
            have := hpre.length_le
            rw [List.length_append, List.map_singleton, List.length_singleton] at this
            omega
          have HP := Aside0.mk hpre
          have HYq := Aside0.mk (HY.out _ (p, rd qs (j : Int)) wr HJj.out hlt2)
          clear hpre hlt2
          generalize rd qs (j : Int) = q at *
          obtain ⟨fn, tmps, assign, body, hy, hR⟩ := HYq.out
          refine (wpIn_wide (n := n)).1 ?_
          gi_wp2
          refine hR.mono ?_
          rintro e W3 (⟨rfl, hJ3, hk3⟩ | ⟨rfl, hJx3⟩)
          · have hS3 := HSj.out.kp hk3 HNE.out
            have hP3 := HPj.out.kp hk3
            have hQ3 := HQj.out.kp hk3
            have HJ3 : Aside0 (J (leftR (ps.take i) qs ++ (qs.take (j + 1)).map (fun q => (p, q))) W3) := ⟨by rw [HTK.out, List.map_append, ← List.append_assoc]; exact hJ3⟩
            have hB3 : Bn < W3.heap.size := Nat.lt_of_lt_of_le hBj hk3.1.size
            clear hJ3 hk3
            gi_wp2
            go_roundw
            case rel => exact ⟨j + 1, by go_num, by omega, HJ3, ⟨hS3⟩, ⟨hP3⟩, ⟨hQ3⟩, hB3⟩
            case measure => simp [intOf]; omega
          · gi_wp2
            refine bodyPost_ret (results_none rfl _ _ _) rfl ?_
            exact ⟨⟨_, rfl⟩, .inr ⟨_, HP.out, hJx3⟩⟩
        · obtain rfl : j = qs.length := by omega
          have HE : Aside0 (J (leftR (ps.take (i + 1)) qs) wr) := ⟨by have := HJj.out; rwa [List.take_of_length_le (Nat.le_refl _), HSN.out] at this⟩
          go_wp2
          go_roundw
          case rel => exact ⟨i + 1, by go_num, by omega, HE, HSj, HPj, hBj⟩
          case measure => simp [intOf]; omega
    · obtain rfl : i = ps.length := by omega
      have HE : Aside0 (J (leftR ps qs) wr) := ⟨by have := HJi.out; rwa [List.take_of_length_le (Nat.le_refl _)] at this⟩
      go_wp2
      refine bodyPost_end (results_none rfl _ _ _) rfl ?_
      exact ⟨⟨_, rfl⟩, .inl ⟨_, rfl, HE.out⟩⟩
end Go.Proofs.Ytoefeboikkhdkaa.X
end
section
namespace Go.Proofs.Ytoefeboikkhdkaa.X
open Go.RowKit Go.Maps Go.Shelf Go.Proofs.YtoefeboikkhdkaaW.PrintWords Go.Proofs.YtoefeboikkhdkaaW.PrintLast
set_option linter.unusedVariables false
theorem grown_belowT {W W' : World} (hb : Below W.heap.size W W') : W.grownBy W' none := ⟨hb.os, hb.tape, hb.output, hb.size, fun k hk _ => hb.block k hk⟩
set_option maxRecDepth 100000 in
theorem all_calls (T0 T1 : Value) (w : World) :
    Calls Try.prog 40 #[.agg #[T0, T1]] w fun e w' => ∃ Bt, e = .returned (.func (.func 75) #[] #[.pointer (some ⟨Bt, 0, none⟩)]) ∧ w'.heap[Bt]? = some (.cells #[T0, T1] 25 (0, 0)) ∧ w.heap.size ≤ Bt ∧ Below w.heap.size w w' := by
  go_enter Try.func40, Try.ntmps40
  go_wp2
  go_ret
  exact ⟨_, rfl, blk_new w _, Nat.le_refl _, below_alloc (Below.refl _ _) _⟩
theorem all_stops (w : World) (Bn : Nat) (A0 : Option Addr) (c0 : Nat) (hd : List ByteArray) (A1 : Option Addr) (c1 : Nat) (rows : List (List ByteArray)) (Bt n : Nat) (hr0 : Kd.C Kd.string w A0 hd.length hd) (hc0 : hd.length ≤ c0) (hr1 : Kd.C (Kd.slice 9 Kd.string) w A1 rows.length rows) (hl : rows.length ≤ 100000)
    (hn : 1 ≤ n) (w1 : World) (hS : AllS w A0 c0 hd A1 c1 rows Bt w1) (hBt : Bt ≠ Bn) (hBn : Bn < w1.heap.size) :
    SeqStopsK Fence.wide n Try.prog 75 #[.pointer (some ⟨Bt, 0, none⟩)] (fun x : ByteArray => #[.string x]) (KpC w.heap.size Bn) (fun ys => ys = seqR hd rows) (fun pre => pre <+: seqR hd rows) (seqR hd rows).length w1 := fun l J Jx W hW hJ _ hY h0 =>
  callsIn_wide.2 (all1_calls w Bn A0 c0 hd A1 c1 rows Bt n l hr0 hc0 hr1 hl hn J Jx W (fun s A B h hb => hJ s A B none h (grown_belowT hb) (by simp)) hY (hS.below hW) hBt (Nat.lt_of_lt_of_le hBn hW.size) (Nat.le_trans hS.lo.size hW.size) h0)
attribute [local go_sem] Oper.semAt_some
def sumR (l : List ByteArray) : Int := l.foldl (fun n c => wrap64 (n + c.size)) 0
theorem sumR_snoc (l : List ByteArray) (x : ByteArray) : sumR (l ++ [x]) = wrap64 (sumR l + x.size) := by unfold sumR; rw [List.foldl_append]; rfl
def totalR (hd : List ByteArray) (rows : List (List ByteArray)) : Int := sumR (seqR hd rows)
set_option maxRecDepth 100000 in
set_option maxHeartbeats 2000000 in
theorem total_calls (A0 : Option Addr) (c0 : Nat) (hd : List ByteArray) (A1 : Option Addr) (c1 : Nat) (rows : List (List ByteArray)) (w : World) (hr0 : Kd.C Kd.string w A0 hd.length hd) (hc0 : hd.length ≤ c0) (hr1 : Kd.C (Kd.slice 9 Kd.string) w A1 rows.length rows) (hl : rows.length ≤ 100000) :
    Calls Try.prog 41 #[.agg #[.slice A0 hd.length c0, .slice A1 rows.length c1]] w fun e w' => e = .returned (.int .i64 (totalR hd rows)) ∧ Below w.heap.size w w' := by
  refine (callsIn_wide (n := 4)).1 ?_
  have HR := Aside0.mk (And.intro hr0 hr1)
  clear hr0 hr1
  refine callsIn_of_wp_marks Try.func41 rfl trivial ?_ rfl
  simp only [Try.ntmps41, List.size_toArray, List.length_cons, List.length_nil, Nat.reduceAdd, Nat.reduceSub, Array.replicate_succ, Array.replicate_zero, List.push_toArray, List.append_toArray, List.nil_append, List.cons_append]
  gi_wp2_with (refine ⟨trivial, ?_⟩; gi_at_call 40; refine (callsIn_wide.2 (all_calls _ _ _)).mono ?_; rintro e w1 ⟨Bt, rfl, hT, hge, hb⟩)
  rw [World.size_alloc, World.size_alloc] at hge
  have hb0 := below_alloc (below_alloc (Below.refl w.heap.size w) (.cells #[.slice A0 hd.length c0, .slice A1 rows.length c1] 25)) (.cells #[.int .i64 0] 3)
  have hbw : Below w.heap.size w w1 := hb0.trans (hb.mono (by simp; omega))
  have bO : Boxed w1 (w.heap.size + 1) 3 (.int .i64 0) := (hb.block _ (by simp)).trans (by
    have h := blk_new (w.alloc (.cells #[.slice A0 hd.length c0, .slice A1 rows.length c1] 25)) (.cells #[.int .i64 0] 3)
    rw [World.size_alloc] at h
    exact h)
  have lB := bO.lt
  have hS : AllS w A0 c0 hd A1 c1 rows Bt w1 := ⟨hT, hbw⟩
  refine wpIn_rangeFunc_ownG rfl (by omega) (gf := 75) (lb := #[.pointer (some ⟨Bt, 0, none⟩)]) rfl trivial (enters_of Try.func75 (by kernel_rfl) rfl)
    (all_stops w (w.heap.size + 1) A0 c0 hd A1 c1 rows Bt 3 HR.out.1 hc0 HR.out.2 hl (by omega) w1 hS (by omega) lB)
    (fun {A B C} h k => h.trans k)
    (fun W l o o' hl h1 h2 h3 => KpC.put (w := w1) hbw.size W l o o' hl h1 h2 h3)
    (Below.refl _ _) (fun _ => rfl)
    (fun pre W => Boxed W (w.heap.size + 1) 3 (.int .i64 (sumR pre)) ∧ Below w.heap.size w W)
    (fun _ _ _ => False)
    (OwnFrom.and (Own.from (boxed_own (w.heap.size + 1) 3 (fun pre => .int .i64 (sumR pre))) _) (ownFrom_below (Nat.le_refl _) (by omega)))
    (fun _ _ _ _ _ hs _ _ => hs)
    ⟨bO, hbw⟩
    (fun x => { tmps := #[.agg #[.slice A0 hd.length c0, .slice A1 rows.length c1], .pointer (some ⟨w.heap.size, 0, none⟩), .int .i64 0, .pointer (some ⟨w.heap.size + 1, 0, none⟩), .string x, .agg #[.slice A0 hd.length c0, .slice A1 rows.length c1],
      .func (.func 75) #[] #[.pointer (some ⟨Bt, 0, none⟩)], .string x, undef, undef, undef, undef, undef], defers := [] }) ?assign ?body ?done ?stop
  case assign =>
    intro l x W K hK
    gi_wp2
    exact hK
  case body =>
    rintro l pre x W ⟨hv, hB⟩ hlt
    have hc := hv.cell
    have hf := hv.frozen
    gi_wp2
    have hv2 : Boxed (W.setCell ⟨w.heap.size + 1, 0, none⟩ (.int .i64 (sumR (pre ++ [x])))) (w.heap.size + 1) 3 (.int .i64 (sumR (pre ++ [x]))) := hv.set _
    refine ⟨(KeepsOthers.setCell _ _ _).from _, ⟨?_, fun k cs t fr hk hc2 => ?_⟩, ?_, ?_⟩
    · exact (Below.refl _ _).setCell (by simp) _
    · rw [Below.heap_setCell _ _ _ _ (by show k ≠ w.heap.size + 1; exact hk)]; exact hc2
    · rw [sumR_snoc] at hv2 ⊢; exact hv2
    · exact hB.setCell (by simp) _
  case done =>
    rintro D ys W hD rfl ⟨hv, hB⟩ hK
    have hc := hv.cell
    gi_wp2
    refine ⟨by simp, .inl ⟨_, _, rfl, run_takeDeferred hK, ?_⟩⟩
    refine ⟨_, results_tmp rfl _ _ _, rfl, hB.trans (belowK_b (w := w) (Nat.le_refl _) W D _ _ (by omega) hK rfl rfl)⟩
  case stop =>
    rintro D c pre W _ _ h _
    exact h.elim
end Go.Proofs.Ytoefeboikkhdkaa.X
end
section
namespace Go.Proofs.Ytoefeboikkhdkaa.X
open Go.RowKit Go.Maps Go.Shelf Go.Proofs.YtoefeboikkhdkaaW.PrintWords Go.Proofs.YtoefeboikkhdkaaW.PrintLast Go.Proofs.YtoefeboikkhdkaaW.PrintMore
set_option linter.unusedVariables false
set_option maxRecDepth 100000 in
theorem left_calls (A : Option Addr) (c n : Nat) (na nb : Int) (w : World) :
    Calls Try.prog 23 #[.slice A n c, .int .i64 na, .int .i64 nb] w fun e w' => ∃ Bl Ba Bb, e = .returned (.func (.func 54) #[] #[.pointer (some ⟨Bl, 0, none⟩), .pointer (some ⟨Ba, 0, none⟩), .pointer (some ⟨Bb, 0, none⟩)]) ∧
      w'.heap[Bl]? = some (.cells #[.slice A n c] 28 (0, 0)) ∧ w'.heap[Ba]? = some (.cells #[.int .i64 na] 3 (0, 0)) ∧ w'.heap[Bb]? = some (.cells #[.int .i64 nb] 3 (0, 0)) ∧ (w.heap.size ≤ Bl ∧ w.heap.size ≤ Ba ∧ w.heap.size ≤ Bb) ∧ Below w.heap.size w w' := by
  go_enter Try.func23, Try.ntmps23
  go_wp2
  go_ret
  have h1 := blk_new w (.cells #[.slice A n c] 28)
  have h2 := blk_new (w.alloc (.cells #[.slice A n c] 28)) (.cells #[.int .i64 na] 3)
  have h3 := blk_new ((w.alloc (.cells #[.slice A n c] 28)).alloc (.cells #[.int .i64 na] 3)) (.cells #[.int .i64 nb] 3)
  rw [World.size_alloc] at h2
  rw [World.size_alloc, World.size_alloc] at h3
  exact ⟨_, _, _, rfl, blk_alloc (blk_alloc h1 _) _, blk_alloc h2 _, h3, ⟨Nat.le_refl _, by omega, by omega⟩, below_alloc (below_alloc (below_alloc (Below.refl _ _) _) _) _⟩
theorem left_stops (w0 : World) (Bn : Nat) (A : Option Addr) (c : Nat) (l : List PS) (na nb : Int) (Bl Ba Bb n : Nat) (ps qs : List Int) (hr : Kd.C k37 w0 A l.length l) (hc : l.length ≤ c) (hpa : pairs_RestA.f l na = some ps) (hpb : pairs_RestB.f l nb = some qs) (hpl : ps.length ≤ 100000) (hql : qs.length ≤ 100000)
    (hn : 1 ≤ n) (w1 : World) (hS : LeftS w0 A c l na nb Bl Ba Bb w1) (hne : Bl ≠ Bn ∧ Ba ≠ Bn ∧ Bb ≠ Bn) (hBn : Bn < w1.heap.size) :
    SeqStopsK Fence.wide n Try.prog 54 #[.pointer (some ⟨Bl, 0, none⟩), .pointer (some ⟨Ba, 0, none⟩), .pointer (some ⟨Bb, 0, none⟩)] (fun x : Int × Int => #[.int .i64 x.1, .int .i64 x.2]) (KpW w0.heap.size Bn) (fun ys => ys = leftR ps qs) (fun pre => pre <+: leftR ps qs) (leftR ps qs).length w1 := fun l_ J Jx W hW hJ _ hY h0 =>
  callsIn_wide.2 (left1_calls w0 Bn A c l na nb Bl Ba Bb n l_ ps qs hr hc hpa hpb hpl hql hn J Jx W (fun s A B h hb => hJ s A B none h (grown_belowT hb) (by simp)) hY (hS.below hW) hne (Nat.lt_of_lt_of_le hBn hW.size) h0)
/-- Whether so many texts are enough. -/
def mayR (n ra rb : Int) : Bool := decide (wrap64 (2 * n) > max ra rb)
set_option maxRecDepth 100000 in
theorem may_calls (n : Int) (A0 A1 : Value) (B0 : Option Addr) (n0 c0 : Nat) (B1 : Option Addr) (n1 c1 : Nat) (Ba Bb : Nat) (W : World) (ha : W.heap[Ba]? = some (.cells #[A0, .slice B0 n0 c0] 25 (0, 0))) (hb : W.heap[Bb]? = some (.cells #[A1, .slice B1 n1 c1] 25 (0, 0))) :
    Calls Try.prog 22 #[.int .i64 n, .pointer (some ⟨Ba, 0, none⟩), .pointer (some ⟨Bb, 0, none⟩)] W fun e w' => e = .returned (.bool (mayR n n0 n1)) ∧ Below W.heap.size W w' := by
  have h1 := blk_cell ha 1
  have h2 := blk_cell hb 1
  have f1 := blk_frozen ha 1
  have f2 := blk_frozen hb 1
  have hm := fun W => maxI (n0 : Int) (n1 : Int) W
  have HB := Aside0.mk (Below.refl W.heap.size W)
  clear ha hb
  go_enter Try.func22, Try.ntmps22
  go_wp2
  go_ret
  exact ⟨rfl, by first | exact HB.out | exact below_drew1 HB.out⟩
end Go.Proofs.Ytoefeboikkhdkaa.X
end
section
namespace Go.Proofs.Ytoefeboikkhdkaa.X
open Go.RowKit Go.Maps Go.Shelf Go.Proofs.YtoefeboikkhdkaaW.PrintWords Go.Proofs.YtoefeboikkhdkaaW.PrintLast Go.Proofs.Ytoefeboikkhdkaa.GMap
set_option linter.unusedVariables false
theorem unless_calls (so : Bool) (e : Int) (w : World) : Calls Try.prog 34 #[.bool so, .int .i64 e] w fun r w' => r = .returned (.int .i64 (if so then 0 else e)) ∧ Drawn0 w w' :=
  table_unless.calls so e (if so then 0 else e) w (by unfold table_unless.f; cases so <;> rfl)
set_option maxRecDepth 100000 in
theorem odd_calls (A : Option Addr) (n c : Nat) (A0 : Option Addr) (m c0 : Nat) (T1 : Value) (tb : Nat) (W : World) (hT : W.heap[tb]? = some (.cells #[.slice A0 m c0, T1] 25 (0, 0))) :
    Calls Try.prog 36 #[.slice A n c, .pointer (some ⟨tb, 0, none⟩)] W fun e w' => e = .returned (.bool (decide (n ≠ m))) ∧ w' = W := by
  have h0 := blk_cell hT 0
  have f0 := blk_frozen hT 0
  clear hT
  by_cases h : n = m
  · subst h
    go_enter Try.func36, Try.ntmps36
    go_wp2
    go_ret
    simp
  · have hI : ((n : Int) == (m : Int)) = false := by simp; omega
    have hI2 : ¬ (n : Int) = (m : Int) := by omega
    go_enter Try.func36, Try.ntmps36
    go_wp2
    go_ret
    simp [h, hI2]
theorem rowAt {w : World} {A : Option Addr} {rows : List (List ByteArray)} (h : Kd.C (Kd.slice 9 Kd.string) w A rows.length rows) {i : Nat} (hi : i < rows.length) : ∃ (ad : Addr) (Ax : Option Addr) (cx : Nat), A = some ad ∧ w.cell? (ad.add i) = some (.slice Ax (rows.getD i []).length cx) ∧ (rows.getD i []).length ≤ cx ∧ Kd.C Kd.string w Ax (rows.getD i []).length (rows.getD i []) := by
  rcases A with _ | ad
  · obtain ⟨_, _, h3⟩ := h
    obtain ⟨ad, e, _⟩ := h3 (by omega)
    cases e
  · obtain ⟨cs, hcs, hc⟩ := cellsOf_mk h
    obtain ⟨Ax, cx, h1, h2, h3⟩ := hcs.2 i (rows.getD i []) (by rw [List.getD_eq_getElem?_getD, List.getElem?_eq_getElem hi]; rfl)
    exact ⟨ad, Ax, cx, rfl, hc i _ h1, h2, h3⟩
def wideR (rows : List (List ByteArray)) (m : Nat) : Bool := rows.any fun r => decide (r.length ≠ m)
theorem wide_yes {rows : List (List ByteArray)} {m i : Nat} (hi : i < rows.length) (h : (rows.getD i []).length ≠ m) : wideR rows m = true := by
  unfold wideR
  rw [List.any_eq_true]
  refine ⟨rows[i], List.getElem_mem hi, ?_⟩
  rw [List.getD_eq_getElem?_getD, List.getElem?_eq_getElem hi] at h
  simpa using h
theorem wide_no {rows : List (List ByteArray)} {m : Nat} (h : ∀ i, i < rows.length → (rows.getD i []).length = m) : wideR rows m = false := by
  unfold wideR
  rw [List.any_eq_false]
  intro r hr
  obtain ⟨i, hi, rfl⟩ := List.getElem_of_mem hr
  have := h i hi
  rw [List.getD_eq_getElem?_getD, List.getElem?_eq_getElem hi] at this
  simpa using this
set_option maxRecDepth 100000 in
set_option maxHeartbeats 800000 in
theorem idx_calls (A0 : Option Addr) (m c0 : Nat) (T1 : Value) (tb : Nat) (A1 : Option Addr) (c1 : Nat) (rows : List (List ByteArray)) (W : World) (hT : W.heap[tb]? = some (.cells #[.slice A0 m c0, T1] 25 (0, 0))) (hr : Kd.C (Kd.slice 9 Kd.string) W A1 rows.length rows) (hl : rows.length ≤ 1000000) :
    Calls Try.prog 74 #[.slice A1 rows.length c1, .func (.func 36) #[] #[.pointer (some ⟨tb, 0, none⟩)]] W fun e w' => (∃ i : Int, e = .returned (.int .i64 i) ∧ wideR rows m = decide (0 ≤ i)) ∧ w' = W := by
  have HT := Aside0.mk hT
  have HR := Aside0.mk hr
  clear hT hr
  go_enter Try.func74, Try.ntmps74
  go_wp2
  go_loopw [8] (fun vi wr => ∃ i : Nat, vi = .int .i64 i ∧ i ≤ rows.length ∧ (∀ j, j < i → (rows.getD j []).length = m) ∧ wr = W)
    (fun vi _ => rows.length - (intOf vi).toNat)
  case atStart => exact ⟨0, rfl, Nat.zero_le _, fun j hj => by omega, rfl⟩
  case round =>
    obtain ⟨i, rfl, hi, hall, rfl⟩ := hrel
    by_cases hlt : i < rows.length
    · obtain ⟨ad, Ax, cx, eA, hx, hcx, hCx⟩ := rowAt HR.out hlt
      cases eA
      have hlI : (i : Int) < (rows.length : Int) := by omega
      by_cases hm : (rows.getD i []).length = m
      · have hd : decide ((rows.getD i []).length ≠ m) = false := decide_eq_false (fun h => h hm)
        have HM := Aside0.mk hm
        have HA := Aside0.mk hall
        generalize (rows.getD i []).length = q at hx hcx hd
        clear hm hall hCx
        go_wp2_with (first
          | (go_at_call 36; refine (odd_calls Ax q cx A0 m c0 T1 tb _ HT.out).mono ?_; rintro e w1 ⟨rfl, rfl⟩; rw [hd]))
        go_roundw
        case rel =>
          refine ⟨i + 1, by go_num, by omega, fun j hj => ?_, by first | rfl | trivial⟩
          rcases Nat.lt_or_ge j i with h | h
          · exact HA.out j h
          · obtain rfl : j = i := by omega
            exact HM.out
        case measure => simp [intOf]; omega
      · have hd : decide ((rows.getD i []).length ≠ m) = true := decide_eq_true hm
        have hw := Aside0.mk (wide_yes hlt hm)
        generalize (rows.getD i []).length = q at hx hcx hd
        clear hm hall hCx
        go_wp2_with (first
          | (go_at_call 36; refine (odd_calls Ax q cx A0 m c0 T1 tb _ HT.out).mono ?_; rintro e w1 ⟨rfl, rfl⟩; rw [hd]))
        go_ret
        exact ⟨⟨(i : Int), rfl, by rw [hw.out]; simp⟩, rfl⟩
    · obtain rfl : i = rows.length := by omega
      have hw := Aside0.mk (wide_no hall)
      clear hall
      go_wp2
      go_ret
      exact ⟨⟨-1, rfl, by rw [hw.out]; rfl⟩, rfl⟩
set_option maxRecDepth 100000 in
theorem has_calls (A0 : Option Addr) (m c0 : Nat) (T1 : Value) (tb : Nat) (A1 : Option Addr) (c1 : Nat) (rows : List (List ByteArray)) (W : World) (hT : W.heap[tb]? = some (.cells #[.slice A0 m c0, T1] 25 (0, 0))) (hr : Kd.C (Kd.slice 9 Kd.string) W A1 rows.length rows) (hl : rows.length ≤ 1000000) :
    Calls Try.prog 37 #[.slice A1 rows.length c1, .func (.func 36) #[] #[.pointer (some ⟨tb, 0, none⟩)]] W fun e w' => e = .returned (.bool (wideR rows m)) ∧ w' = W := by
  have HT := Aside0.mk hT
  have HR := Aside0.mk hr
  clear hT hr
  go_enter Try.func37, Try.ntmps37
  go_wp2_with (first
    | (go_at_call 74; refine (idx_calls A0 m c0 T1 tb A1 c1 rows _ HT.out HR.out hl).mono ?_; rintro e w1 ⟨⟨i, rfl, hw⟩, rfl⟩; have HW := Aside0.mk hw; clear hw))
  go_ret
  exact ⟨by rw [HW.out]; rfl, rfl⟩
/-- Where the table lies, boxed. -/
structure TAt (w0 : World) (A0 : Option Addr) (c0 : Nat) (hd : List ByteArray) (A1 : Option Addr) (c1 : Nat) (rows : List (List ByteArray)) (tb : Nat) (W : World) : Prop where
  t : W.heap[tb]? = some (.cells #[.slice A0 hd.length c0, .slice A1 rows.length c1] 25 (0, 0))
  lo : Below w0.heap.size w0 W
  r0 : Kd.C Kd.string w0 A0 hd.length hd
  c0 : hd.length ≤ c0
  r1 : Kd.C (Kd.slice 9 Kd.string) w0 A1 rows.length rows
theorem TAt.below {w0 : World} {A0 : Option Addr} {c0 : Nat} {hd : List ByteArray} {A1 : Option Addr} {c1 : Nat} {rows : List (List ByteArray)} {tb : Nat} {W W' : World} (h : TAt w0 A0 c0 hd A1 c1 rows tb W) (hb : Below W.heap.size W W') : TAt w0 A0 c0 hd A1 c1 rows tb W' :=
  ⟨(hb.block _ (lt_of_block h.t)).trans h.t, h.lo.trans (hb.mono h.lo.size), h.r0, h.c0, h.r1⟩
section
variable (w0 : World) (A0 : Option Addr) (c0 : Nat) (hd : List ByteArray) (A1 : Option Addr) (c1 : Nat) (rows : List (List ByteArray)) (tb : Nat) (W : World)
set_option maxRecDepth 100000 in
theorem check1_calls (h : TAt w0 A0 c0 hd A1 c1 rows tb W) :
    Calls Try.prog 33 #[.pointer (some ⟨tb, 0, none⟩)] W fun e w' => e = .returned (.int .i64 (if hd.length = 0 then 8 else 0)) ∧ Below W.heap.size W w' := by
  have h0 := blk_cell h.t 0
  have f0 := blk_frozen h.t 0
  clear h
  by_cases hz : hd.length = 0
  · rw [hz] at h0
    go_enter Try.func33, Try.ntmps33
    go_wp2_with (first | (go_at_call 34; refine (unless_calls _ _ _).mono ?_; rintro e w1 ⟨rfl, ⟨nd, rfl⟩⟩))
    go_ret
    exact ⟨by simp, pw_below_drewN (Below.refl _ _) nd⟩
  · have hp : 0 < hd.length := by omega
    have hpI : (0 : Int) < (hd.length : Int) := by omega
    go_enter Try.func33, Try.ntmps33
    go_wp2_with (first | (go_at_call 34; refine (unless_calls _ _ _).mono ?_; rintro e w1 ⟨rfl, ⟨nd, rfl⟩⟩))
    go_ret
    exact ⟨by simp, pw_below_drewN (Below.refl _ _) nd⟩
set_option maxRecDepth 100000 in
theorem check2_calls (h : TAt w0 A0 c0 hd A1 c1 rows tb W) (hl : rows.length ≤ 100000) :
    Calls Try.prog 35 #[.pointer (some ⟨tb, 0, none⟩)] W fun e w' => e = .returned (.int .i64 (if wideR rows hd.length = true then 9 else 0)) ∧ Below W.heap.size W w' := by
  have h1 := blk_cell h.t 1
  have f1 := blk_frozen h.t 1
  have H := Aside0.mk h
  clear h
  rcases Bool.eq_false_or_eq_true (wideR rows hd.length) with hw | hw
  all_goals (
    rw [hw]
    have HW := Aside0.mk hw
    clear hw
    go_enter Try.func35, Try.ntmps35
    go_wp2_with (first
      | (go_at_call 37; refine (has_calls A0 hd.length c0 _ tb A1 c1 rows _ H.out.t (Kd.C_below H.out.r1 H.out.lo) (by omega)).mono ?_; rintro e w1 ⟨rfl, rfl⟩; rw [HW.out])
      | (go_at_call 34; refine (unless_calls _ _ _).mono ?_; rintro e w1 ⟨rfl, ⟨nd, rfl⟩⟩))
    go_ret
    exact ⟨rfl, pw_below_drewN (Below.refl _ _) nd⟩)
end
end Go.Proofs.Ytoefeboikkhdkaa.X
end
section
namespace Go.Proofs.Ytoefeboikkhdkaa.X
open Go.RowKit Go.WideMaps Go.Maps Go.Shelf Go.Proofs.YtoefeboikkhdkaaW.PrintWords Go.Proofs.YtoefeboikkhdkaaW.PrintLast Go.Proofs.Ytoefeboikkhdkaa.GMap
set_option linter.unusedVariables false
theorem lawS : Keyed Try.prog 9 := string_keyed Try.underlying9
abbrev MapS (w : World) (b s : Nat) (f : List UInt8 → Option Int) : Prop := MapO Try.prog 9 3 encB w b s f
abbrev bts (s : ByteArray) : List UInt8 := s.data.toList
theorem keyS {s : ByteArray} (hs : s.size ≤ maxLen) : keyOf Try.prog 9 (.string s) = some (encB.lit (bts s)) := keyOf_string_mk Try.underlying9 hs
theorem bts_inj {a b : ByteArray} (h : bts a = bts b) : a = b := by
  cases a; cases b; simpa [bts] using h
def cnt (l : List ByteArray) (k : List UInt8) : Nat := (l.filter fun s => decide (bts s = k)).length
def cntO (l : List ByteArray) (k : List UInt8) : Option Int := if cnt l k = 0 then none else some (cnt l k)
theorem cnt_le (l : List ByteArray) (k) : cnt l k ≤ l.length := List.length_filter_le _ _
theorem cnt_snoc (l : List ByteArray) (s : ByteArray) (k) : cnt (l ++ [s]) k = cnt l k + if bts s = k then 1 else 0 := by
  unfold cnt
  rw [List.filter_append]
  by_cases h : bts s = k <;> simp [h]
theorem cntO_getD (l : List ByteArray) (k) : (cntO l k).getD 0 = cnt l k := by
  unfold cntO; split <;> simp_all
theorem cntO_snoc (l : List ByteArray) (s : ByteArray) : cntO (l ++ [s]) = upd (cntO l) (bts s) ((cntO l (bts s)).getD 0 + 1) := by
  funext k
  unfold upd
  rw [cntO_getD]
  unfold cntO
  rw [cnt_snoc]
  by_cases h : k = bts s
  · subst h; simp
  · rw [if_neg h]; have h' : ¬ bts s = k := fun e => h e.symm
    simp [h']
theorem cntO_mem (l : List ByteArray) (s : ByteArray) : (cntO l (bts s)).isSome = true ↔ s ∈ l := by
  unfold cntO cnt
  constructor
  · intro h
    split at h
    · cases h
    · rename_i h0
      obtain ⟨x, hx⟩ := List.exists_mem_of_length_pos (Nat.pos_of_ne_zero h0)
      rw [List.mem_filter, decide_eq_true_eq] at hx
      rw [← bts_inj hx.2]; exact hx.1
  · intro h
    rw [if_neg]
    · rfl
    · have : s ∈ l.filter fun t => decide (bts t = bts s) := by rw [List.mem_filter]; exact ⟨h, by simp⟩
      exact Nat.ne_of_gt (List.length_pos_of_mem this)
/-- So many keys from so many names. -/
def DisAt (l : List ByteArray) (s : Nat) : Prop := s ≤ l.length ∧ (s = l.length ↔ l.Nodup)
theorem DisAt.snoc {l : List ByteArray} {s : Nat} (h : DisAt l s) (x : ByteArray) : DisAt (l ++ [x]) (grow (cntO l) (bts x) s) := by
  obtain ⟨h1, h2⟩ := h
  unfold grow
  by_cases hx : x ∈ l
  · rw [if_pos ((cntO_mem l x).2 hx)]
    refine ⟨by simp; omega, ⟨fun h => by simp at h; omega, fun h => ?_⟩⟩
    rw [List.nodup_append] at h
    exact absurd rfl (h.2.2 x hx x (by simp))
  · rw [if_neg (fun h => hx ((cntO_mem l x).1 h))]
    refine ⟨by simp; omega, ?_⟩
    rw [List.nodup_append]
    constructor
    · intro h
      refine ⟨h2.1 (by simp at h; omega), by simp, ?_⟩
      intro a ha b hb
      simp at hb
      subst hb
      exact fun e => hx (e ▸ ha)
    · intro h
      have := h2.2 h.1
      simp; omega
theorem rdOf_mem {l : List ByteArray} {k : Nat} (h : k < l.length) : rdOf ByteArray.empty l (k : Int) ∈ l := by
  unfold rdOf
  rw [show (k : Int).toNat = k from rfl, List.getD_eq_getElem?_getD, List.getElem?_eq_getElem h]
  exact List.getElem_mem h
section
variable (w0 : World) (A0 : Option Addr) (c0 : Nat) (hd : List ByteArray) (A1 : Option Addr) (c1 : Nat) (rows : List (List ByteArray)) (tb : Nat) (W : World)
set_option maxRecDepth 100000 in
set_option maxHeartbeats 800000 in
theorem check3_calls (h : TAt w0 A0 c0 hd A1 c1 rows tb W) (hl : hd.length ≤ 100000) (hs : ∀ s ∈ hd, s.size ≤ maxLen) :
    Calls Try.prog 38 #[.pointer (some ⟨tb, 0, none⟩)] W fun e w' => e = .returned (.int .i64 (if hd.Nodup then 0 else 10)) ∧ Below W.heap.size W w' := by
  obtain ⟨r, hr⟩ : ∃ r : Int, Aside0 ((if hd.Nodup then 0 else 10) = r) := ⟨_, ⟨rfl⟩⟩
  rw [hr.out]
  have hmm := @run_makeMap Try.prog
  have h0 := blk_cell h.t 0
  have f0 := blk_frozen h.t 0
  have h0m : (W.alloc (Obj.map #[] 0)).cell? ⟨tb, 0, none⟩ = some (.slice A0 hd.length c0) := blk_cell (h.below (below_alloc (Below.refl _ _) _)).t 0
  have f0m : (W.alloc (Obj.map #[] 0)).frozen? ⟨tb, 0, none⟩ = false := blk_frozen (h.below (below_alloc (Below.refl _ _) _)).t 0
  have H := Aside0.mk h
  have HS := Aside0.mk hs
  clear h hs
  go_enter Try.func38, Try.ntmps38
  go_wp2
  go_loopw [9] (fun i wr => ∃ k s : Nat, k ≤ hd.length ∧ s ≤ k ∧ i = .int .i64 k ∧ MapS wr W.heap.size s (cntO (hd.take k)) ∧ Aside0 (DisAt (hd.take k) s) ∧ Below W.heap.size W wr)
    (fun i _ => hd.length - (intOf i).toNat)
  case atStart =>
    refine ⟨0, 0, Nat.zero_le _, Nat.le_refl _, rfl, ?_, ⟨⟨by simp, by simp⟩⟩, (Below.refl _ _).alloc (Nat.le_refl _) _⟩
    have h := MapO.made Try.prog 9 3 encB W
    have e : cntO (hd.take 0) = fun _ => none := by funext k; simp [cntO, cnt]
    rw [e]; exact h
  case round =>
    obtain ⟨k, s, hk, hsk, rfl, hm, HD, hb⟩ := hrel
    by_cases hlt : k < hd.length
    · have hsz := HS.out _ (rdOf_mem hlt)
      have htk := Aside0.mk (take_rdB hlt)
      obtain ⟨ad, eA, hx⟩ := strAtA (Kd.C_below H.out.r0 (H.out.lo.trans (hb.mono H.out.lo.size))) hlt
      cases eA
      have hltI : (k : Int) < (hd.length : Int) := by omega
      generalize hy : rdOf ByteArray.empty hd (k : Int) = y at *
      clear h0 f0 h0m f0m hy
      go_wp2_with (first
        | (at_lookup; refine lookup_arm lawS Try.underlying66 Try.underlying3 zeroI rfl _ _ rfl _ s _ rfl hm _ _ rfl (keyS hsz) ?_; intro hwc)
        | (at_mapUpdate; refine store_arm lawS Try.underlying66 Try.underlying3 rfl _ _ _ rfl _ s _ rfl hm (by unfold maxLen; omega) _ _ rfl (keyS hsz) _ rfl (wrap64_wf _) ?_; intro w1 hm1 hg1))
      have hcl := cnt_le (hd.take k) (bts y)
      rw [List.length_take] at hcl
      have HD2 := HD.out.snoc y
      rw [cntO_getD, show wrap64 ((cnt (hd.take k) (bts y) : Int) + 1) = (cntO (hd.take k) (bts y)).getD 0 + 1 from by rw [cntO_getD]; unfold wrap64; omega, ← cntO_snoc, ← htk.out] at hm1
      rw [← htk.out] at HD2
      have hg2 := grow_le (cntO (hd.take k)) (bts y) s
      clear hm hx hwc
      go_roundw
      case rel =>
        exact ⟨k + 1, _, by omega, by omega, by go_num, hm1, ⟨HD2⟩, hb.grown hg1 hb.size (fun j hj => by cases hj; omega)⟩
      case measure => simp [intOf]; omega
    · obtain rfl : k = hd.length := by omega
      have hln := hm.len Try.underlying66
      have h0' : wr.cell? ⟨tb, 0, none⟩ = some (.slice A0 hd.length c0) := blk_cell (H.out.below hb).t 0
      have f0' := blk_frozen (H.out.below hb).t 0
      clear hm
      have hD := HD.out
      rw [List.take_length] at hD
      obtain ⟨hd1, hd2⟩ := hD
      have HN := Aside0.mk hd2
      clear hd2 h0 f0 h0m f0m
      by_cases hq : s = hd.length
      · have HQ := Aside0.mk (HN.out.1 hq)
        subst hq
        go_wp2_with (first | (go_at_call 34; refine (unless_calls _ _ _).mono ?_; rintro e w1 ⟨rfl, ⟨nd, rfl⟩⟩))
        go_ret
        exact ⟨by rw [← hr.out, if_pos HQ.out]; rfl, pw_below_drewN hb nd⟩
      · have HQ := Aside0.mk (fun h => hq (HN.out.2 h))
        have hqI : ((s : Int) == (hd.length : Int)) = false := by simp; omega
        have hqJ : ¬ (s : Int) = (hd.length : Int) := by omega
        go_wp2_with (first | (go_at_call 34; refine (unless_calls _ _ _).mono ?_; rintro e w1 ⟨rfl, ⟨nd, rfl⟩⟩))
        go_ret
        exact ⟨by rw [← hr.out, if_neg HQ.out]; simp, pw_below_drewN hb nd⟩
end
end Go.Proofs.Ytoefeboikkhdkaa.X
end
section
namespace Go.Proofs.Ytoefeboikkhdkaa.X
open Go.RowKit Go.Maps Go.Shelf Go.Proofs.YtoefeboikkhdkaaW.PrintWords Go.Proofs.YtoefeboikkhdkaaW.PrintLast
set_option linter.unusedVariables false
attribute [local go_sem] Oper.semAt_some
theorem results_box {fn : Func} {p B : Nat} {t : TypeId} {i : Int} {P : Program} (h : fn.results = #[.cell p t]) (ht : ∀ w, (isAgg t).run P w = .ok false w) (tmps : Array Value) (w : World) (hp : tmps.getD p undef = .pointer (some ⟨B, 0, none⟩)) (hB : Boxed w B t (.int .i64 i)) :
    (results fn tmps).run P w = .ok (.int .i64 i) w := by
  have hc := hB.cell
  have hp' : tmps[p]?.getD undef = .pointer (some ⟨B, 0, none⟩) := by simpa using hp
  simp [results, h, hp', asAddr, loadVar, ht, go_sem, hc]
def largeR (hd : List ByteArray) (rows : List (List ByteArray)) : Int := if 40 < hd.length ∨ 400 < rows.length then 7 else if (seqR hd rows).any (fun c => decide (1000 < c.size)) = true then 7 else if totalR hd rows ≤ 40000 then 0 else 7
theorem fin4 (W : World) (D : Nat) (v : Int) (X : World) (a : Act) (hD : W.heap.size < D) (hK3 : X.heap[D]? = some (.deferred (some []))) (hv3 : Boxed X W.heap.size 29 (.int .i64 v)) (hB3 : Below W.heap.size W X) (r : Int)
    (ha : a.defers = [{ target := .collected D, args := #[] }]) (ht : a.tmps.getD 1 undef = .pointer (some ⟨W.heap.size, 0, none⟩)) (hvr : v = r) :
    bodyPostM Fence.wide 4 Try.prog Try.f39 (fun e w' => e = Ending.returned (Value.int IntKind.i64 r) ∧ Below W.heap.size W w') Exit.ret a X := by
  subst hvr
  obtain ⟨tmps, ds⟩ := a
  simp only at ha ht
  subst ha
  refine ⟨by simp, .inl ⟨_, _, rfl, run_takeDeferred hK3, ?_⟩⟩
  refine ⟨_, results_box (B := W.heap.size) (i := v) rfl (fun _ => by kernel_rfl) _ _ ht (hv3.kept (grownBy_putObj' _ D _) (fun e => by cases e; omega)), rfl, hB3.trans (belowK_b (w := W) (Nat.le_refl _) _ D _ _ (by omega) hK3 rfl rfl)⟩
section
variable (w0 : World) (A0 : Option Addr) (c0 : Nat) (hd : List ByteArray) (A1 : Option Addr) (c1 : Nat) (rows : List (List ByteArray)) (tb : Nat) (W : World)
set_option maxRecDepth 100000 in
set_option maxHeartbeats 2000000 in
theorem check4_calls (h : TAt w0 A0 c0 hd A1 c1 rows tb W) (hl : rows.length ≤ 100000) (hh : hd.length ≤ 100000) :
    Calls Try.prog 39 #[.pointer (some ⟨tb, 0, none⟩)] W fun e w' => e = .returned (.int .i64 (largeR hd rows)) ∧ Below W.heap.size W w' := by
  obtain ⟨r, hr⟩ : ∃ r : Int, Aside0 (largeR hd rows = r) := ⟨_, ⟨rfl⟩⟩
  rw [hr.out]
  have hA : TAt w0 A0 c0 hd A1 c1 rows tb (W.alloc (.cells #[.int .i64 0] 29)) := h.below (below_alloc (Below.refl _ _) _)
  have ha0 := blk_cell hA.t 0
  have ha1 := blk_cell hA.t 1
  have hf0 := blk_frozen hA.t 0
  have hf1 := blk_frozen hA.t 1
  have bO : Boxed (W.alloc (.cells #[.int .i64 0] 29)) W.heap.size 29 (.int .i64 0) := blk_new W _
  have H := Aside0.mk h
  have HA := Aside0.mk hA
  have HO := Aside0.mk bO
  clear h hA bO
  by_cases h40 : 40 < hd.length
  · have h40I : (40 : Int) < (hd.length : Int) := by omega
    go_enter Try.func39, Try.ntmps39
    go_wp2
    refine bodyPost_ret (results_box (B := W.heap.size) (i := 7) rfl (fun _ => by kernel_rfl) _ _ rfl (blk_new W _)) rfl ⟨?_, ?_⟩
    · rw [← hr.out, largeR, if_pos (.inl h40)]
    · exact below_alloc (Below.refl _ _) _
  have h40I : ¬ (40 : Int) < (hd.length : Int) := by omega
  by_cases h400 : 400 < rows.length
  · have h400I : (400 : Int) < (rows.length : Int) := by omega
    go_enter Try.func39, Try.ntmps39
    go_wp2
    refine bodyPost_ret (results_box (B := W.heap.size) (i := 7) rfl (fun _ => by kernel_rfl) _ _ rfl (blk_new W _)) rfl ⟨?_, ?_⟩
    · rw [← hr.out, largeR, if_pos (.inr h400)]
    · exact below_alloc (Below.refl _ _) _
  have h400I : ¬ (400 : Int) < (rows.length : Int) := by omega
  have HRR := Aside0.mk (show (if (seqR hd rows).any (fun c => decide (1000 < c.size)) = true then 7 else if totalR hd rows ≤ 40000 then 0 else 7) = r by rw [← hr.out, largeR, if_neg (show ¬ (40 < hd.length ∨ 400 < rows.length) by omega)])
  have hr0 : Kd.C Kd.string W A0 hd.length hd := Kd.C_below H.out.r0 H.out.lo
  have hr1 : Kd.C (Kd.slice 9 Kd.string) W A1 rows.length rows := Kd.C_below H.out.r1 H.out.lo
  have hc0 := H.out.c0
  have HR := Aside0.mk (And.intro hr0 hr1)
  clear hr0 hr1 hr
  refine (callsIn_wide (n := 4)).1 ?_
  refine callsIn_of_wp_marks Try.func39 rfl trivial ?_ rfl
  simp only [Try.ntmps39, List.size_toArray, List.length_cons, List.length_nil, Nat.reduceAdd, Nat.reduceSub, Array.replicate_succ, Array.replicate_zero, List.push_toArray, List.append_toArray, List.nil_append, List.cons_append]
  gi_wp2_with (refine ⟨trivial, ?_⟩; gi_at_call 40; refine (callsIn_wide.2 (all_calls _ _ _)).mono ?_; rintro e w1 ⟨Bt, rfl, hT, hge, hb⟩)
  rw [World.size_alloc] at hge
  have hb0 := below_alloc (Below.refl W.heap.size W) (.cells #[.int .i64 0] 29)
  have hbw : Below W.heap.size W w1 := hb0.trans (hb.mono (by simp))
  have bO : Boxed w1 W.heap.size 29 (.int .i64 0) := (hb.block _ (by simp)).trans HO.out
  have lB := bO.lt
  have hS : AllS W A0 c0 hd A1 c1 rows Bt w1 := ⟨hT, hbw⟩
  refine wpIn_rangeFunc_ownG rfl (by omega) (gf := 75) (lb := #[.pointer (some ⟨Bt, 0, none⟩)]) rfl trivial (enters_of Try.func75 (by kernel_rfl) rfl)
    (all_stops W W.heap.size A0 c0 hd A1 c1 rows Bt 3 HR.out.1 hc0 HR.out.2 hl (by omega) w1 hS (by omega) lB)
    (fun {A B C} h k => h.trans k)
    (fun W' l o o' hl h1 h2 h3 => KpC.put (w := w1) hbw.size W' l o o' hl h1 h2 h3)
    (Below.refl _ _) (fun _ => rfl)
    (fun pre W' => Boxed W' W.heap.size 29 (.int .i64 0) ∧ Below W.heap.size W W' ∧ ∀ c ∈ pre, ¬ 1000 < c.size)
    (fun c pre W' => c = Code.ret ∧ Boxed W' W.heap.size 29 (.int .i64 7) ∧ Below W.heap.size W W' ∧ ∃ c ∈ pre, 1000 < c.size)
    (OwnFrom.and (Own.from (boxed_own W.heap.size 29 (fun _ => .int .i64 0)) _) (OwnFrom.and (ownFrom_below (Nat.le_refl _) (by omega)) (fun _ _ _ _ hs _ _ => hs)))
    (fun c => OwnFrom.and (fun _ _ _ _ hs _ _ => hs) (OwnFrom.and (Own.from (boxed_own W.heap.size 29 (fun _ => .int .i64 7)) _) (OwnFrom.and (ownFrom_below (Nat.le_refl _) (by omega)) (fun _ _ _ _ hs _ _ => hs))))
    ⟨bO, hbw, by simp⟩
    (fun x => { tmps := #[.pointer (some ⟨tb, 0, none⟩), .pointer (some ⟨W.heap.size, 0, none⟩), .string x, .pointer (some ⟨tb, 0, none⟩), .slice A0 hd.length c0, .int .i64 hd.length, .bool false, .bool false, .pointer (some ⟨tb, 1, none⟩), .slice A1 rows.length c1, .int .i64 rows.length, .bool false, .bool false, .agg #[.slice A0 hd.length c0, .slice A1 rows.length c1],
      .func (.func 75) #[] #[.pointer (some ⟨Bt, 0, none⟩)], .string x, undef, undef, undef, undef, undef, undef, undef], defers := [] }) ?assign ?body ?done ?stop
  case assign =>
    intro l x W' K hK
    gi_wp2
    exact hK
  case body =>
    rintro l pre x W' ⟨hv, hB, hall⟩ hlt
    have hc := hv.cell
    have hf := hv.frozen
    have HB7 := Aside0.mk (hv.set (.int .i64 7))
    have HALL := Aside0.mk hall
    have HV := Aside0.mk hv
    clear hall ha0 ha1 hf0 hf1 hv hT bO
    by_cases hx : 1000 < x.size
    · have hxI : (1000 : Int) < (x.size : Int) := by omega
      gi_wp2
      refine ⟨(KeepsOthers.setCell _ _ _).from _, rfl, HB7.out, hB.setCell (by simp) _, x, by simp, hx⟩
    · have hxI : ¬ (1000 : Int) < (x.size : Int) := by omega
      gi_wp2
      refine ⟨KeepsFrom.refl _ _, KpC.below (Below.refl _ _) (Nat.le_of_lt (lt_of_block HV.out)) , HV.out, hB, ?_⟩
      intro c hc2
      rcases List.mem_append.1 hc2 with h | h
      · exact Nat.le_of_not_lt (HALL.out c h)
      · rw [List.mem_singleton.1 h]; exact Nat.le_of_not_lt hx
  case done =>
    rintro D ys W' hD rfl ⟨hv, hB, hall⟩ hK
    have hTB := H.out.below hB
    have ht0 := blk_cell hTB.t 0
    have ht1 := blk_cell hTB.t 1
    have hg0 := blk_frozen hTB.t 0
    have hg1 := blk_frozen hTB.t 1
    have hc := hv.cell
    have hf := hv.frozen
    have hTr0 := Kd.C_below H.out.r0 hTB.lo
    have hTr1 := Kd.C_below H.out.r1 hTB.lo
    have HT2 := Aside0.mk (And.intro hTr0 hTr1)
    have hany : (seqR hd rows).any (fun c => decide (1000 < c.size)) = false := by
      rw [List.any_eq_false]; intro c hc3; simpa using hall c hc3
    have HRS := Aside0.mk (show (if totalR hd rows ≤ 40000 then 0 else 7) = r by rw [← HRR.out, hany]; rfl)
    have HV := Aside0.mk hv
    have HK := Aside0.mk hK
    have HBB := Aside0.mk hB
    clear HRR hany hall ha0 ha1 hf0 hf1 hT bO hTB hTr0 hTr1 hK hv hB
    obtain ⟨q, hq⟩ : ∃ q, Aside0 (totalR hd rows = q) := ⟨_, ⟨rfl⟩⟩
    rw [hq.out] at HRS
    by_cases h4 : q ≤ 40000
    all_goals (
      gi_wp2_with (first
        | (refine ⟨trivial, ?_⟩; gi_at_call 41; refine (callsIn_wide.2 (total_calls A0 c0 hd A1 c1 rows _ HT2.out.1 hc0 HT2.out.2 hl)).mono ?_; rintro e w2 ⟨rfl, hb2⟩; rw [hq.out]; have hv2 : Boxed w2 W.heap.size 29 (.int .i64 0) := (hb2.block _ HV.out.lt).trans HV.out; have hc2 := hv2.cell; have hf2 := hv2.frozen; have HV2 := Aside0.mk hv2; clear hv2; have HB2 := Aside0.mk hb2; clear hb2)
        | (refine ⟨trivial, ?_⟩; gi_at_call 34; refine (callsIn_wide.2 (unless_calls _ _ _)).mono ?_; rintro e w3 ⟨rfl, ⟨nd, rfl⟩⟩))
      have hK3 : (w2.drewN nd).heap[D]? = some (.deferred (some [])) := (HB2.out.block _ (lt_of_block HK.out)).trans HK.out
      have hv3 : Boxed (w2.drewN nd) W.heap.size 29 (.int .i64 0) := HV2.out
      have hB3 : Below W.heap.size W (w2.drewN nd) := pw_below_drewN (HBB.out.trans (HB2.out.mono HBB.out.size)) nd
      refine fin4 W D _ _ _ (by omega) ((Below.heap_setCell _ _ _ _ (by show D ≠ W.heap.size; omega)).trans hK3) (hv3.set _) (hB3.setCell (by simp) _) _ rfl (by rfl) ?_
      rw [← HRS.out]
      first | rw [if_pos h4] | rw [if_neg (by omega)])
  case stop =>
    rintro D c pre W' hD hpre ⟨rfl, hv, hB, hex⟩ hK
    have HRS := Aside0.mk (show 7 = r by rw [← HRR.out, if_pos]; rw [List.any_eq_true]; obtain ⟨c, h1, h2⟩ := hex; exact ⟨c, hpre.subset h1, by simpa using h2⟩)
    gi_wp2
    exact fin4 W D 7 _ _ (by omega) hK hv hB _ rfl (by rfl) HRS.out
end
end Go.Proofs.Ytoefeboikkhdkaa.X
end
section
namespace Go.Proofs.Ytoefeboikkhdkaa.X
open Go.RowKit Go.Maps Go.Shelf Go.Proofs.YtoefeboikkhdkaaW.PrintWords Go.Proofs.YtoefeboikkhdkaaW.PrintLast
set_option linter.unusedVariables false
def okT (hd : List ByteArray) (rows : List (List ByteArray)) : Bool := decide (hd.length ≤ 100000) && decide (rows.length ≤ 100000) && hd.all fun s => decide (s.size ≤ maxLen)
def ckR (hd : List ByteArray) (rows : List (List ByteArray)) : Nat → Int
  | 0 => if hd.length = 0 then 8 else 0
  | 1 => if wideR rows hd.length = true then 9 else 0
  | 2 => if hd.Nodup then 0 else 10
  | 3 => largeR hd rows
  | _ => 0
def checkT (hd : List ByteArray) (rows : List (List ByteArray)) : Int := if ckR hd rows 0 ≠ 0 then ckR hd rows 0 else if ckR hd rows 1 ≠ 0 then ckR hd rows 1 else if ckR hd rows 2 ≠ 0 then ckR hd rows 2 else ckR hd rows 3
theorem checkT_at {hd : List ByteArray} {rows : List (List ByteArray)} {i : Nat} (hi : i < 4) (h : ∀ j, j < i → ckR hd rows j = 0) (hn : ckR hd rows i ≠ 0) : checkT hd rows = ckR hd rows i := by
  unfold checkT
  rcases i with _ | _ | _ | _ | i
  · rw [if_pos hn]
  · rw [if_neg (by rw [h 0 (by omega)]; simp), if_pos hn]
  · rw [if_neg (by rw [h 0 (by omega)]; simp), if_neg (by rw [h 1 (by omega)]; simp), if_pos hn]
  · rw [if_neg (by rw [h 0 (by omega)]; simp), if_neg (by rw [h 1 (by omega)]; simp), if_neg (by rw [h 2 (by omega)]; simp)]
  · omega
theorem checkT_none {hd : List ByteArray} {rows : List (List ByteArray)} (h : ∀ j, j < 4 → ckR hd rows j = 0) : checkT hd rows = 0 := by
  unfold checkT
  rw [if_neg (by rw [h 0 (by omega)]; simp), if_neg (by rw [h 1 (by omega)]; simp), if_neg (by rw [h 2 (by omega)]; simp), h 3 (by omega)]
def ckF (i : Nat) : Nat := match i with | 0 => 33 | 1 => 35 | 2 => 38 | _ => 39
def ckV (tb i : Nat) : Value := .func (.func (ckF i)) #[] #[.pointer (some ⟨tb, 0, none⟩)]
theorem ckR_cell {W : World} {g tb : Nat} {t : TypeId} (h : W.heap[g]? = some (.cells #[ckV tb 0, ckV tb 1, ckV tb 2, ckV tb 3] t (0, 0))) {i : Nat} (hi : i < 4) : W.cell? ⟨g, i, none⟩ = some (ckV tb i) := by
  rw [blk_cell h i]
  rcases i with _ | _ | _ | _ | i
  · rfl
  · rfl
  · rfl
  · rfl
  · omega
theorem ck_calls (w0 : World) (A0 : Option Addr) (c0 : Nat) (hd : List ByteArray) (A1 : Option Addr) (c1 : Nat) (rows : List (List ByteArray)) (tb : Nat) (W : World) (h : TAt w0 A0 c0 hd A1 c1 rows tb W) (hok : okT hd rows = true) (i : Nat) (hi : i < 4) :
    Calls Try.prog (ckF i) #[.pointer (some ⟨tb, 0, none⟩)] W fun e w' => e = .returned (.int .i64 (ckR hd rows i)) ∧ Below W.heap.size W w' := by
  simp only [okT, Bool.and_eq_true, decide_eq_true_eq, List.all_eq_true] at hok
  obtain ⟨⟨h1, h2⟩, h3⟩ := hok
  rcases i with _ | _ | _ | _ | i
  · exact check1_calls w0 A0 c0 hd A1 c1 rows tb W h
  · exact check2_calls w0 A0 c0 hd A1 c1 rows tb W h h2
  · exact check3_calls w0 A0 c0 hd A1 c1 rows tb W h h1 h3
  · exact check4_calls w0 A0 c0 hd A1 c1 rows tb W h h2 h1
  · omega
set_option maxRecDepth 100000 in
set_option maxHeartbeats 2000000 in
theorem check_calls (A0 : Option Addr) (c0 : Nat) (hd : List ByteArray) (A1 : Option Addr) (c1 : Nat) (rows : List (List ByteArray)) (w : World) (hr0 : Kd.C Kd.string w A0 hd.length hd) (hc0 : hd.length ≤ c0) (hr1 : Kd.C (Kd.slice 9 Kd.string) w A1 rows.length rows) (hok : okT hd rows = true) :
    Calls Try.prog 15 #[.agg #[.slice A0 hd.length c0, .slice A1 rows.length c1]] w fun e w' => e = .returned (.int .i64 (checkT hd rows)) ∧ Below w.heap.size w w' := by
  have hmf : ∀ (fn : Fn) (first cap : Array Value) (w : World), (Instr.makeFunc fn first cap).run Try.prog w = .ok (.func fn first cap) w := fun _ _ _ _ => rfl
  obtain ⟨r, hr⟩ : ∃ r : Int, Aside0 (checkT hd rows = r) := ⟨_, ⟨rfl⟩⟩
  rw [hr.out]
  have HR := Aside0.mk (And.intro hr0 hr1)
  clear hr0 hr1
  go_enter Try.func15, Try.ntmps15
  go_wp2
  go_loopw [12] (fun vi wr => ∃ i : Nat, vi = .int .i64 i ∧ i ≤ 4 ∧ Aside0 (∀ j, j < i → ckR hd rows j = 0) ∧ Aside0 (TAt w A0 c0 hd A1 c1 rows w.heap.size wr) ∧
      Aside0 (wr.heap[w.heap.size + 1]? = some (.cells #[ckV w.heap.size 0, ckV w.heap.size 1, ckV w.heap.size 2, ckV w.heap.size 3] 63 (0, 0))))
    (fun vi _ => 4 - (intOf vi).toNat)
  case atStart =>
    refine ⟨0, rfl, by omega, ⟨fun j hj => by omega⟩, ⟨⟨?_, ?_, HR.out.1, hc0, HR.out.2⟩⟩, ⟨?_⟩⟩
    · exact ((below_alloc (Below.refl _ (w.alloc _)) _).block _ (by simp)).trans (blk_new w _)
    · exact below_alloc (below_alloc (Below.refl _ _) _) _
    · have h := blk_new (w.alloc (.cells #[.slice A0 hd.length c0, .slice A1 rows.length c1] 25 (0, 0))) (.cells #[ckV w.heap.size 0, ckV w.heap.size 1, ckV w.heap.size 2, ckV w.heap.size 3] 63 (0, 0))
      rw [World.size_alloc] at h
      exact h
  case round =>
    obtain ⟨i, rfl, hi, HZ, HT, HC⟩ := hrel
    have h5 : i = 0 ∨ i = 1 ∨ i = 2 ∨ i = 3 ∨ i = 4 := by omega
    rcases h5 with rfl | rfl | rfl | rfl | rfl
    · -- 0
      have HK := Aside0.mk (ck_calls w A0 c0 hd A1 c1 rows w.heap.size wr HT.out hok 0 (by omega))
      have hcc : wr.cell? ⟨w.heap.size + 1, 0, none⟩ = some (.func (.func 33) #[] #[.pointer (some ⟨w.heap.size, 0, none⟩)]) := ckR_cell HC.out (by omega)
      obtain ⟨q, hq⟩ : ∃ q, Aside0 (ckR hd rows 0 = q) := ⟨_, ⟨rfl⟩⟩
      by_cases hz : q = 0
      · subst hz
        have HZ2 : Aside0 (∀ j, j < 1 → ckR hd rows j = 0) := ⟨fun j hj => by
          rcases Nat.lt_or_ge j 0 with h | h
          · exact HZ.out j h
          · rw [show j = 0 by omega]; exact hq.out⟩
        clear HZ
        go_wp2_with (go_at_call 33; refine HK.out.mono ?_; rintro e w1 ⟨rfl, hb⟩; rw [hq.out]; have HT1 := Aside0.mk (HT.out.below hb); have HC1 := Aside0.mk ((hb.block _ (lt_of_block HC.out)).trans HC.out); clear hb)
        go_roundw
        case rel => exact ⟨1, by first | rfl | go_num, by omega, HZ2, HT1, HC1⟩
        case measure => simp [intOf]
      · have HE := Aside0.mk (checkT_at (hd := hd) (rows := rows) (i := 0) (by omega) HZ.out (by rw [hq.out]; exact hz))
        go_wp2_with (go_at_call 33; refine HK.out.mono ?_; rintro e w1 ⟨rfl, hb⟩; rw [hq.out]; have HT1 := Aside0.mk (HT.out.below hb); clear hb)
        go_ret
        exact ⟨by rw [← hr.out, HE.out, hq.out]; rfl, HT1.out.lo⟩
    · -- 1
      have HK := Aside0.mk (ck_calls w A0 c0 hd A1 c1 rows w.heap.size wr HT.out hok 1 (by omega))
      have hcc : wr.cell? ⟨w.heap.size + 1, 1, none⟩ = some (.func (.func 35) #[] #[.pointer (some ⟨w.heap.size, 0, none⟩)]) := ckR_cell HC.out (by omega)
      obtain ⟨q, hq⟩ : ∃ q, Aside0 (ckR hd rows 1 = q) := ⟨_, ⟨rfl⟩⟩
      by_cases hz : q = 0
      · subst hz
        have HZ2 : Aside0 (∀ j, j < 2 → ckR hd rows j = 0) := ⟨fun j hj => by
          rcases Nat.lt_or_ge j 1 with h | h
          · exact HZ.out j h
          · rw [show j = 1 by omega]; exact hq.out⟩
        clear HZ
        go_wp2_with (go_at_call 35; refine HK.out.mono ?_; rintro e w1 ⟨rfl, hb⟩; rw [hq.out]; have HT1 := Aside0.mk (HT.out.below hb); have HC1 := Aside0.mk ((hb.block _ (lt_of_block HC.out)).trans HC.out); clear hb)
        go_roundw
        case rel => exact ⟨2, by first | rfl | go_num, by omega, HZ2, HT1, HC1⟩
        case measure => simp [intOf]
      · have HE := Aside0.mk (checkT_at (hd := hd) (rows := rows) (i := 1) (by omega) HZ.out (by rw [hq.out]; exact hz))
        go_wp2_with (go_at_call 35; refine HK.out.mono ?_; rintro e w1 ⟨rfl, hb⟩; rw [hq.out]; have HT1 := Aside0.mk (HT.out.below hb); clear hb)
        go_ret
        exact ⟨by rw [← hr.out, HE.out, hq.out]; rfl, HT1.out.lo⟩
    · -- 2
      have HK := Aside0.mk (ck_calls w A0 c0 hd A1 c1 rows w.heap.size wr HT.out hok 2 (by omega))
      have hcc : wr.cell? ⟨w.heap.size + 1, 2, none⟩ = some (.func (.func 38) #[] #[.pointer (some ⟨w.heap.size, 0, none⟩)]) := ckR_cell HC.out (by omega)
      obtain ⟨q, hq⟩ : ∃ q, Aside0 (ckR hd rows 2 = q) := ⟨_, ⟨rfl⟩⟩
      by_cases hz : q = 0
      · subst hz
        have HZ2 : Aside0 (∀ j, j < 3 → ckR hd rows j = 0) := ⟨fun j hj => by
          rcases Nat.lt_or_ge j 2 with h | h
          · exact HZ.out j h
          · rw [show j = 2 by omega]; exact hq.out⟩
        clear HZ
        go_wp2_with (go_at_call 38; refine HK.out.mono ?_; rintro e w1 ⟨rfl, hb⟩; rw [hq.out]; have HT1 := Aside0.mk (HT.out.below hb); have HC1 := Aside0.mk ((hb.block _ (lt_of_block HC.out)).trans HC.out); clear hb)
        go_roundw
        case rel => exact ⟨3, by first | rfl | go_num, by omega, HZ2, HT1, HC1⟩
        case measure => simp [intOf]
      · have HE := Aside0.mk (checkT_at (hd := hd) (rows := rows) (i := 2) (by omega) HZ.out (by rw [hq.out]; exact hz))
        go_wp2_with (go_at_call 38; refine HK.out.mono ?_; rintro e w1 ⟨rfl, hb⟩; rw [hq.out]; have HT1 := Aside0.mk (HT.out.below hb); clear hb)
        go_ret
        exact ⟨by rw [← hr.out, HE.out, hq.out]; rfl, HT1.out.lo⟩
    · -- 3
      have HK := Aside0.mk (ck_calls w A0 c0 hd A1 c1 rows w.heap.size wr HT.out hok 3 (by omega))
      have hcc : wr.cell? ⟨w.heap.size + 1, 3, none⟩ = some (.func (.func 39) #[] #[.pointer (some ⟨w.heap.size, 0, none⟩)]) := ckR_cell HC.out (by omega)
      obtain ⟨q, hq⟩ : ∃ q, Aside0 (ckR hd rows 3 = q) := ⟨_, ⟨rfl⟩⟩
      by_cases hz : q = 0
      · subst hz
        have HZ2 : Aside0 (∀ j, j < 4 → ckR hd rows j = 0) := ⟨fun j hj => by
          rcases Nat.lt_or_ge j 3 with h | h
          · exact HZ.out j h
          · rw [show j = 3 by omega]; exact hq.out⟩
        clear HZ
        go_wp2_with (go_at_call 39; refine HK.out.mono ?_; rintro e w1 ⟨rfl, hb⟩; rw [hq.out]; have HT1 := Aside0.mk (HT.out.below hb); have HC1 := Aside0.mk ((hb.block _ (lt_of_block HC.out)).trans HC.out); clear hb)
        go_roundw
        case rel => exact ⟨4, by first | rfl | go_num, by omega, HZ2, HT1, HC1⟩
        case measure => simp [intOf]
      · have HE := Aside0.mk (checkT_at (hd := hd) (rows := rows) (i := 3) (by omega) HZ.out (by rw [hq.out]; exact hz))
        go_wp2_with (go_at_call 39; refine HK.out.mono ?_; rintro e w1 ⟨rfl, hb⟩; rw [hq.out]; have HT1 := Aside0.mk (HT.out.below hb); clear hb)
        go_ret
        exact ⟨by rw [← hr.out, HE.out, hq.out]; rfl, HT1.out.lo⟩
    · have HE := Aside0.mk (checkT_none HZ.out)
      go_wp2
      go_ret
      exact ⟨by rw [← hr.out, HE.out]; rfl, HT.out.lo⟩
def table_Check.f (l0_0 : List ByteArray) (l0_1 : List (List ByteArray)) : Option Int := if okT l0_0 l0_1 = true then some (checkT l0_0 l0_1) else none
theorem table_Check.calls (A0_0 : Option Addr) (c0_0 : Nat) (l0_0 : List ByteArray) (A0_1 : Option Addr) (c0_1 : Nat) (l0_1 : List (List ByteArray)) (r : Int) (w : World) (hr0_0 : Kd.C Kd.string w A0_0 l0_0.length l0_0) (hc0_0 : l0_0.length ≤ c0_0) (hr0_1 : Kd.C (Kd.slice 9 Kd.string) w A0_1 l0_1.length l0_1) (hc0_1 : l0_1.length ≤ c0_1) (h : table_Check.f l0_0 l0_1 = some r) :
    Calls Try.prog 15 #[.agg #[.slice A0_0 l0_0.length c0_0, .slice A0_1 l0_1.length c0_1]] w fun e w' => e = .returned (.int .i64 r) ∧ Below w.heap.size w w' := by
  unfold table_Check.f at h
  split at h
  · rename_i hl
    have h1 := Option.some.inj h
    subst h1
    exact check_calls A0_0 c0_0 l0_0 A0_1 c0_1 l0_1 w hr0_0 hc0_0 hr0_1 hl
  · exact nomatch h
end Go.Proofs.Ytoefeboikkhdkaa.X
end
section
namespace Go.Proofs.Ytoefeboikkhdkaa.X
open Go.RowKit Go.Proofs.YtoefeboikkhdkaaW.PrintWords
set_option linter.unusedVariables false
/-- Small tables. -/
structure Sm (hd : List ByteArray) (rows : List (List ByteArray)) : Prop where
  h : hd.length ≤ 100
  r : rows.length ≤ 100
  w : ∀ j, j < rows.length → (rows.getD j []).length ≤ 100
theorem check_eq (hd : List ByteArray) (rows : List (List ByteArray)) : checkT hd rows = if hd.length = 0 then 8 else if wideR rows hd.length = true then 9 else if hd.Nodup then largeR hd rows else 10 := by
  unfold checkT ckR
  by_cases h1 : hd.length = 0
  · simp [h1]
  · by_cases h2 : wideR rows hd.length = true
    · simp [h1, h2]
    · by_cases h3 : hd.Nodup
      · simp [h1, h2, h3]
      · simp [h1, h2, h3]
theorem fewT (h : List ByteArray) (rows : List (List ByteArray)) {k : Nat} (hk : 10000 ≤ k) : ∃ b, tartanref04_Few.f k h rows = some b ∧ (b = true → Sm h rows) := by
  obtain ⟨b, e, hb⟩ := few4_some h rows hk
  exact ⟨b, e, fun h => by
    obtain ⟨h1, h2, h3⟩ := hb h
    exact ⟨by omega, by omega, fun j hj => by have := h3 j hj; omega⟩⟩
theorem Sm.ok {hd : List ByteArray} {rows : List (List ByteArray)} (s : Sm hd rows) (h : ∀ y ∈ hd, y.size ≤ maxLen) : okT hd rows = true := by
  have h1 := s.h
  have h2 := s.r
  simp only [okT, Bool.and_eq_true, decide_eq_true_eq, List.all_eq_true]
  exact ⟨⟨by omega, by omega⟩, h⟩
theorem Sm.mem {hd : List ByteArray} {rows : List (List ByteArray)} (s : Sm hd rows) : ∀ r ∈ rows, r.length ≤ 100 := by
  intro r hr
  obtain ⟨j, hj, e⟩ := List.getElem_of_mem hr
  have := s.w j hj
  rw [List.getD_eq_getElem?_getD, List.getElem?_eq_getElem hj] at this
  rw [← e]; exact this
end Go.Proofs.Ytoefeboikkhdkaa.X
end
