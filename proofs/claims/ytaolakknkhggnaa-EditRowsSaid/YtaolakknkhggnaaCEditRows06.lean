/- The texts that the law EditRows0 wants, part 6 of 8: what is kept of them. -/
import Derived.Laws.AppendOwnNone
import Derived.RangeFuncNested
import Derived.RangeFuncBound
import Derived.RangeFuncCalls
import Derived.RangeFuncLeaves
import Derived.RangeFuncBox
import Derived.Shelf.Abstract
import Derived.OwnWalkIn
import Derived.TacticsInMore
import Derived.LoopNIn
import Derived.LoopIn
import Derived.Deep.RegionWith
import Derived.Laws.EntriesVeiled
import Derived.Deep.RegionHeld3
import Derived.Deep.QuietTactic
import Derived.BigQuiet
import Derived.WalkSpells
import Derived.Outline
import Derived.OneCell
import Derived.Shelf.Spec.SlicesInsertGrow
import Derived.Deep.LoopGhost
import Derived.Deep.RegionLaw
import Derived.Recover
import Derived.Test.YtaolakknkhggnaaCEditRows05
section
namespace Go.Proofs.Ytaolakknkhggnaa.X
open Go.RowKit Go.Maps Go.Shelf Go.Proofs.YtaolakknkhggnaaW.PrintWords Go.Proofs.YtaolakknkhggnaaW.PrintLast
set_option linter.unusedVariables false
/-- Rows' cells: each a slice that reads as its row. -/
def CellsOf (w : World) (xs : List (List ByteArray)) (cs : List Value) : Prop := cs.length = xs.length ∧ ∀ (i : Nat) (x : List ByteArray), xs[i]? = some x → ∃ (A : Option Addr) (c : Nat), cs[i]? = some (Value.slice A x.length c) ∧ x.length ≤ c ∧ Kd.C Kd.string w A x.length x
theorem CellsOf.below {w w' : World} {xs : List (List ByteArray)} {cs : List Value} (h : CellsOf w xs cs) (hb : Below w.heap.size w w') : CellsOf w' xs cs :=
  ⟨h.1, fun i x hx => by obtain ⟨A, c, h1, h2, h3⟩ := h.2 i x hx; exact ⟨A, c, h1, h2, Kd.C_below h3 hb⟩⟩
theorem CellsOf.cons {w : World} {x : List ByteArray} {xs : List (List ByteArray)} {A : Option Addr} {c : Nat} {cs : List Value} (hx : Kd.C Kd.string w A x.length x) (hc : x.length ≤ c) (h : CellsOf w xs cs) : CellsOf w (x :: xs) (Value.slice A x.length c :: cs) := by
  refine ⟨by simp [h.1], fun i y hy => ?_⟩
  cases i with
  | zero => simp at hy; subst hy; exact ⟨A, c, rfl, hc, hx⟩
  | succ i => simp at hy; exact h.2 i y hy
theorem CellsOf.one {w : World} {xs : List (List ByteArray)} {cs : List Value} (h : CellsOf w xs cs) : ∀ u ∈ cs, u.oneCell' = true := by
  intro u hu
  obtain ⟨i, hi⟩ := List.getElem?_of_mem hu
  have hlt := (List.getElem?_eq_some_iff.1 hi).1
  have hlt' : i < xs.length := by rw [← h.1]; exact hlt
  obtain ⟨A, c, h1, _⟩ := h.2 i xs[i] (List.getElem?_eq_getElem hlt')
  rw [hi] at h1
  injection h1 with h1
  subst h1
  rfl
theorem cellsOf_mk {w : World} {ad : Addr} {rows : List (List ByteArray)} (h : Kd.C (Kd.slice 9 Kd.string) w (some ad) rows.length rows) : ∃ cs, CellsOf w rows cs ∧ ∀ j u, cs[j]? = some u → w.cell? (ad.add j) = some u := by
  have each : ∀ j x, rows[j]? = some x → ∃ (A : Option Addr) (c : Nat), w.cell? (ad.add j) = some (Value.slice A x.length c) ∧ x.length ≤ c ∧ Kd.C Kd.string w A x.length x := by
    intro j x hx
    have hlt := (List.getElem?_eq_some_iff.1 hx).1
    obtain ⟨ad', e, hc⟩ := h.2.2 (by omega)
    cases e
    obtain ⟨cs, hl, hK, hu⟩ := hc j x hx
    obtain ⟨A, c, rfl, h1, h2⟩ := hK
    have := hu 0 _ rfl
    refine ⟨A, c, ?_, h1, h2⟩
    have e2 : j * (Kd.slice 9 Kd.string).sz + 0 = j := by show j * 1 + 0 = j; omega
    rw [e2] at this
    exact this
  refine ⟨(List.range rows.length).map fun j => (w.cell? (ad.add j)).getD undef, ⟨by simp, fun i x hx => ?_⟩, fun j u hu => ?_⟩
  · obtain ⟨A, c, h1, h2, h3⟩ := each i x hx
    have hlt := (List.getElem?_eq_some_iff.1 hx).1
    refine ⟨A, c, ?_, h2, h3⟩
    rw [List.getElem?_map, List.getElem?_range hlt]
    simp [h1]
  · rw [List.getElem?_map] at hu
    rcases Nat.lt_or_ge j rows.length with hlt | hge
    · rw [List.getElem?_range hlt] at hu
      obtain ⟨A, c, h1, _⟩ := each j rows[j] (List.getElem?_eq_getElem hlt)
      simp [h1] at hu
      rw [h1, hu]
    · rw [List.getElem?_eq_none (by simpa using hge)] at hu
      cases hu
theorem infoSS : (Try.prog.info? 22).map (fun i => (i.zero, i.size, i.bytes)) = some (some (.slice none 0 0), 1, 24) := by kernel_rfl
theorem one_ownsRow (w : World) (u : Value) (e : TypeId) : (w.alloc (.cells #[u] e)).ownsRow w.heap.size e 1 (.slice (some ⟨w.heap.size, 0, none⟩) 1 1) 1 [u] :=
  ⟨rfl, .inr ⟨w.heap.size, 1, #[u], rfl, Nat.le_refl _, blk_new w _, Nat.le_refl _, by decide, rfl, rfl⟩⟩
theorem below_own_grown {w w1 w2 : World} {v : Value} {base n z : Nat} {e : TypeId} {xs : List Value} (ho : w1.ownsRow base e z v n xs) (hbs : base ≤ w1.heap.size) (hb : Below base w w1) (hg : w1.grownBy w2 v.ownBlock) : Below base w w2 :=
  hb.grown hg hbs (fun k hk => own_base ho k hk)
set_option maxRecDepth 100000 in
set_option maxHeartbeats 800000 in
theorem lists_calls (A0 : Option Addr) (c0 : Nat) (hd : List ByteArray) (A1 : Option Addr) (c1 : Nat) (rows : List (List ByteArray)) (w0 w : World) (hlo : Below w0.heap.size w0 w) (hr0 : Kd.C Kd.string w0 A0 hd.length hd) (hc0 : hd.length ≤ c0) (hr1 : Kd.C (Kd.slice 9 Kd.string) w0 A1 rows.length rows) (hl : rows.length ≤ 1000000) :
    Calls Try.prog 104 #[.slice A0 hd.length c0, .slice A1 rows.length c1] w fun e w' => ∃ v cs, e = .returned v ∧ CellsOf w0 (hd :: rows) cs ∧ w'.ownsRow w.heap.size 22 1 v cs.length cs ∧ Below w.heap.size w w' := by
  obtain ⟨i0, hi, hz0, hz1, hz2⟩ := info_parts infoSS
  have h1 := Aside0.mk (one_ownsRow w (.slice A0 hd.length c0) 22)
  have hB := Aside0.mk (below_alloc (Below.refl w.heap.size w) (.cells #[.slice A0 hd.length c0] 22))
  rcases A1 with _ | ad
  · have h0 : rows.length = 0 := by
      rcases Nat.eq_zero_or_pos rows.length with h | h
      · exact h
      · obtain ⟨ad, e, _⟩ := hr1.2.2 h; cases e
    obtain rfl := List.eq_nil_of_length_eq_zero h0
    have HC := Aside0.mk (CellsOf.cons hr0 hc0 (⟨rfl, fun i x hx => by simp at hx⟩ : CellsOf w0 [] []))
    clear hr0 hr1
    go_enter Try.func104, Try.ntmps104
    go_wp2_with (first
      | (at_builtin; refine wpList_append_own_none rfl _ _ 23 rfl w.heap.size 22 i0 1 Try.underlying23 hi _ _ _ rfl h1.out rfl ?_))
    go_ret
    exact ⟨_, _, rfl, HC.out, h1.out, hB.out⟩
  · obtain ⟨cs, hcs, hcell⟩ := cellsOf_mk hr1
    have HC := Aside0.mk (CellsOf.cons hr0 hc0 hcs)
    have HN := Aside0.mk (fun j u (hu : cs[j]? = some u) => ((hlo.trans (hB.out.mono hlo.size)).cell (World.block_lt_of_cell? _ _ (hcell j u hu))).trans (hcell j u hu))
    have HO := Aside0.mk hcs.one
    have hcl := hcs.1
    have hml : 1 + rows.length ≤ maxLen := by unfold maxLen; omega
    have hml2 : (1 + rows.length) * 24 ≤ 140737488355328 := by omega
    have hbs := hB.out.size
    clear hr0 hr1 hcs hcell
    go_enter Try.func104, Try.ntmps104
    go_wp2_with (first
      | (at_builtin; refine wpList_append_own _ rfl _ _ 23 rfl w.heap.size 22 i0 _ 1 24 Try.underlying23 hi hz0 hz1 hz2 rfl (by decide) _ _ _ rfl h1.out ad rows.length c1 cs rfl (by rw [hcl]; omega) HN.out HO.out hml hml2 hbs ?_; intro v' w1 hown' hgrow _))
    go_ret
    refine ⟨_, _, rfl, HC.out, ?_, below_own_grown h1.out hbs hB.out hgrow⟩
    rw [List.length_cons, hcl, Nat.add_comm]
    exact hown'
end Go.Proofs.Ytaolakknkhggnaa.X
end
section
namespace Go.Proofs.Ytaolakknkhggnaa.X
open Go.RowKit Go.Maps Go.Shelf Go.Proofs.YtaolakknkhggnaaW.PrintWords Go.Proofs.YtaolakknkhggnaaW.PrintLast
set_option linter.unusedVariables false
/-- What a round keeps: what lay before, and every row but one. -/
def KpC (n₀ Bn : Nat) (A B : World) : Prop := Below n₀ A B ∧ ∀ (k : Nat) (cs : Array Value) (t : TypeId) (fr : Nat × Nat), k ≠ Bn → A.heap[k]? = some (.cells cs t fr) → B.heap[k]? = some (.cells cs t fr)
theorem KpC.trans {n₀ Bn : Nat} {A B C : World} (h : KpC n₀ Bn A B) (k : KpC n₀ Bn B C) : KpC n₀ Bn A C := ⟨h.1.trans k.1, fun j cs t fr hj hc => k.2 j cs t fr hj (h.2 j cs t fr hj hc)⟩
theorem KpC.below {n₀ Bn : Nat} {A B : World} (hb : Below A.heap.size A B) (hn : n₀ ≤ A.heap.size) : KpC n₀ Bn A B := ⟨hb.mono hn, fun k cs t fr _ hc => (hb.block k (lt_of_block hc)).trans hc⟩
theorem KpC.put {n₀ Bn : Nat} {w : World} (hn : n₀ ≤ w.heap.size) (W : World) (l : Nat) (o o' : Obj) (hl : w.heap.size ≤ l) (h : W.heap[l]? = some o) (ho : o.isCells = false) (hw : o.isWalk = false) : KpC n₀ Bn W (W.putObj l o') := by
  refine ⟨belowK_b hn W l o o' hl h ho hw, fun k cs t fr _ hc => ?_⟩
  have hne : k ≠ l := by
    rintro rfl
    rw [h] at hc
    injection hc with hc
    subst hc
    cases ho
  have hg := grownBy_putObj' W l o'
  rw [hg.block k (lt_of_block hc) (fun e => hne (by cases e; rfl)), hc]
/-- All names, and all cells. -/
def seqR (hd : List ByteArray) (rows : List (List ByteArray)) : List ByteArray := (hd :: rows).flatten
theorem seq_pre (L : List (List ByteArray)) (i j : Nat) (hi : i < L.length) : (L.take i).flatten ++ (L.getD i []).take j <+: L.flatten := by
  have e : L = L.take i ++ L.getD i [] :: L.drop (i + 1) := by
    rw [List.getD_eq_getElem?_getD, List.getElem?_eq_getElem hi]
    show L = L.take i ++ L[i] :: L.drop (i + 1)
    rw [List.getElem_cons_drop, List.take_append_drop]
  conv => rhs; rw [e]
  rw [List.flatten_append, List.flatten_cons]
  refine (List.prefix_append_right_inj _).2 ?_
  exact (List.take_prefix _ _).trans (List.prefix_append _ _)
theorem seq_next (L : List (List ByteArray)) (i : Nat) (hi : i < L.length) : (L.take i).flatten ++ L.getD i [] = (L.take (i + 1)).flatten := by
  rw [List.take_succ_eq_append_getElem hi, List.flatten_append, List.getD_eq_getElem?_getD, List.getElem?_eq_getElem hi]
  simp
/-- What lies for the iterator. -/
structure AllS (w0 : World) (A0 : Option Addr) (c0 : Nat) (hd : List ByteArray) (A1 : Option Addr) (c1 : Nat) (rows : List (List ByteArray)) (Bt : Nat) (W : World) : Prop where
  t : W.heap[Bt]? = some (.cells #[.slice A0 hd.length c0, .slice A1 rows.length c1] 25 (0, 0))
  lo : Below w0.heap.size w0 W
theorem AllS.below {w0 : World} {A0 : Option Addr} {c0 : Nat} {hd : List ByteArray} {A1 : Option Addr} {c1 : Nat} {rows : List (List ByteArray)} {Bt : Nat} {W W' : World} (h : AllS w0 A0 c0 hd A1 c1 rows Bt W) (hb : Below W.heap.size W W') : AllS w0 A0 c0 hd A1 c1 rows Bt W' :=
  ⟨(hb.block _ (lt_of_block h.t)).trans h.t, h.lo.trans (hb.mono h.lo.size)⟩
theorem strAtA {w : World} {A : Option Addr} {l : List ByteArray} (h : Kd.C Kd.string w A l.length l) {k : Nat} (hk : k < l.length) : ∃ ad, A = some ad ∧ w.cell? (ad.add k) = some (.string (rdOf ByteArray.empty l (k : Int))) := by
  obtain ⟨ad, e, hx⟩ := Kd.at_string h (k : Int) (by omega) (by omega)
  exact ⟨ad, e, hx⟩
theorem take_rdB {l : List ByteArray} {k : Nat} (h : k < l.length) : l.take (k + 1) = l.take k ++ [rdOf ByteArray.empty l (k : Int)] := by
  unfold rdOf
  rw [show ((k : Int)).toNat = k from rfl, List.take_succ_eq_append_getElem h, List.getD_eq_getElem?_getD, List.getElem?_eq_getElem h]; rfl
theorem own_cellAt {W : World} {base n : Nat} {v : Value} {cs : List Value} {e : TypeId} (ho : W.ownsRow base e 1 v n cs) (hn : 0 < n) : ∃ g cap, v = .slice (some ⟨g, 0, none⟩) n cap ∧ base ≤ g ∧ (∀ (i : Nat) (u : Value), cs[i]? = some u → W.cell? ⟨g, i, none⟩ = some u) ∧ ∃ cur, W.heap[g]? = some (.cells cur e (0, 0)) ∧ n ≤ cap := by
  rcases ho.2 with ⟨_, h0⟩ | ⟨g, cap, cur, hv, hb, hh, hc, hm, hs, ht⟩
  · omega
  · refine ⟨g, cap, hv, hb, fun i u hi => ?_, cur, hh, hc⟩
    have hlt : i < cs.length := (List.getElem?_eq_some_iff.1 hi).1
    rw [ho.1] at hlt
    rw [← ht, List.getElem?_take_of_lt (by omega), Array.getElem?_toList] at hi
    simp [World.cell?, hh, hi]
set_option maxRecDepth 100000 in
set_option maxHeartbeats 4000000 in
theorem all1_calls (w0 : World) (Bn : Nat) (A0 : Option Addr) (c0 : Nat) (hd : List ByteArray) (A1 : Option Addr) (c1 : Nat) (rows : List (List ByteArray)) (Bt n l : Nat) (hr0 : Kd.C Kd.string w0 A0 hd.length hd) (hc0 : hd.length ≤ c0) (hr1 : Kd.C (Kd.slice 9 Kd.string) w0 A1 rows.length rows) (hl : rows.length ≤ 100000)
    (hn : 1 ≤ n) (J Jx : List ByteArray → World → Prop) (W : World)
    (hJ : ∀ s W W', J s W → Below W.heap.size W W' → J s W')
    (hY : ∀ pre x W1, J pre W1 → pre.length < (seqR hd rows).length → YieldAt Fence.wide (n - 1) Try.prog l #[.string x] W1 fun e W' =>
      (e = .returned (.bool true) ∧ J (pre ++ [x]) W' ∧ KpC w0.heap.size Bn W1 W') ∨ (e = .returned (.bool false) ∧ Jx (pre ++ [x]) W'))
    (hS : AllS w0 A0 c0 hd A1 c1 rows Bt W) (hBt : Bt ≠ Bn) (hBn : Bn < W.heap.size) (hw0 : w0.heap.size ≤ W.heap.size) (h0 : J [] W) :
    Calls Try.prog 103 #[.func (.yield l) #[] #[], .pointer (some ⟨Bt, 0, none⟩)] W fun e W' => (∃ v, e = .returned v) ∧ ((∃ ys, ys = seqR hd rows ∧ J ys W') ∨ (∃ pre, pre <+: seqR hd rows ∧ Jx pre W')) := by
  obtain ⟨L, hL⟩ : ∃ L, L = hd :: rows := ⟨_, rfl⟩
  have hLl : L.length ≤ 100001 := by rw [hL]; simp; omega
  have hLp : 0 < L.length := by rw [hL]; simp
  unfold seqR at hY ⊢
  rw [← hL] at hY ⊢
  have HY := Aside0.mk hY
  have HJ := Aside0.mk hJ
  have HR := Aside0.mk (And.intro hr0 hr1)
  have HS := Aside0.mk hS
  have HL := Aside0.mk hL
  have HT0 := blk_cell hS.t 0
  have HT1 := blk_cell hS.t 1
  have hf0 := blk_frozen hS.t 0
  have hf1 := blk_frozen hS.t 1
  have H0 := Aside0.mk h0
  clear hY hJ hr0 hr1 hS h0 hL
  go_enter Try.func103, Try.ntmps103
  go_wp2_with (first
    | (go_at_call 104; refine (lists_calls A0 c0 hd A1 c1 rows w0 _ HS.out.lo HR.out.1 hc0 HR.out.2 (by omega)).mono ?_; rintro e w1 ⟨v, cs, rfl, hcs, ho, hb⟩; rw [← HL.out] at hcs; rw [hcs.1] at ho; obtain ⟨g, cap, rfl, hg, hcell, cur, hcur, hcap⟩ := own_cellAt ho hLp))
  have HS1 := Aside0.mk (HS.out.below hb)
  have HJ1 := Aside0.mk (HJ.out _ _ _ H0.out hb)
  have HCS := Aside0.mk hcs
  have hgn : g ≠ Bn := by omega
  have HCE := Aside0.mk hcell
  have HCU := Aside0.mk hcur
  have hw1 : w0.heap.size ≤ w1.heap.size := Nat.le_trans hw0 hb.size
  clear HS H0 ho hb hcs hcell hcur HT0 HT1 hf0 hf1
  go_loopw [13] (fun vi wr => ∃ i : Nat, vi = .int .i64 i ∧ i ≤ L.length ∧ Aside0 (J ((L.take i).flatten) wr) ∧ Aside0 (AllS w0 A0 c0 hd A1 c1 rows Bt wr) ∧ Aside0 (wr.heap[g]? = some (.cells cur 22 (0, 0))))
    (fun vi _ => L.length - (intOf vi).toNat)
  case atStart => exact ⟨0, rfl, Nat.zero_le _, HJ1, HS1, HCU⟩
  case round =>
    clear HJ1 HS1
    obtain ⟨i, rfl, hi, HJi, HSi, HGi⟩ := hrel
    by_cases hlt : i < L.length
    · obtain ⟨Ax, cx, hx, hcx, hCx⟩ := HCS.out.2 i (L.getD i []) (by rw [List.getD_eq_getElem?_getD, List.getElem?_eq_getElem hlt]; rfl)
      have hxc : wr.cell? ⟨g, i, none⟩ = some (.slice Ax (L.getD i []).length cx) := by
        have h1 := HCE.out i _ hx
        rw [← h1]
        refine World.cell?_of_block ?_
        rw [HGi.out, HCU.out]
      have HSN := Aside0.mk (seq_next L i hlt)
      have HSP := Aside0.mk (fun j => seq_pre L i j hlt)
      have HCx := Aside0.mk hCx
      obtain ⟨x, hxd⟩ : ∃ x, x = L.getD i [] := ⟨_, rfl⟩
      rw [← hxd] at hxc HSN HSP HCx hcx
      have hltI : (i : Int) < (L.length : Int) := by omega
      have hxm : x.length ≤ 9223372036854775807 := HCx.out.2.1
      clear hx hCx hxd
      go_wp2
      go_loopw [19] (fun vj wk => ∃ j : Nat, vj = .int .i64 j ∧ j ≤ x.length ∧ Aside0 (J ((L.take i).flatten ++ x.take j) wk) ∧ Aside0 (AllS w0 A0 c0 hd A1 c1 rows Bt wk) ∧ Aside0 (wk.heap[g]? = some (.cells cur 22 (0, 0))))
        (fun vj _ => x.length - (intOf vj).toNat)
      case atStart => exact ⟨0, rfl, Nat.zero_le _, ⟨by rw [List.take_zero, List.append_nil]; exact HJi.out⟩, HSi, HGi⟩
      case round =>
        clear HJi HSi HGi hxc
        obtain ⟨j, rfl, hj, HJj, HSj, HGj⟩ := hrel
        by_cases hjl : j < x.length
        · obtain ⟨ax, eA, hxs⟩ := strAtA (Kd.C_below HCx.out HSj.out.lo) hjl
          cases eA
          have hjI : (j : Int) < (x.length : Int) := by omega
          have HTK := Aside0.mk (take_rdB hjl)
          have hpre := HSP.out (j + 1)
          rw [HTK.out, ← List.append_assoc] at hpre
          have hlt2 : ((L.take i).flatten ++ x.take j).length < L.flatten.length := by
            have := hpre.length_le
            rw [List.length_append, List.length_singleton] at this
            omega
          have HP := Aside0.mk hpre
          have HYq := Aside0.mk (HY.out _ (rdOf ByteArray.empty x (j : Int)) wr HJj.out hlt2)
          clear hpre hlt2
          generalize rdOf ByteArray.empty x (j : Int) = s at *
          obtain ⟨fn, tmps, assign, body, hy, hR⟩ := HYq.out
          refine (wpIn_wide (n := n)).1 ?_
          gi_wp2
          refine hR.mono ?_
          rintro e W3 (⟨rfl, hJ3, hk3⟩ | ⟨rfl, hJx3⟩)
          · have hS3 : AllS w0 A0 c0 hd A1 c1 rows Bt W3 := ⟨hk3.2 _ _ _ _ hBt HSj.out.t, HSj.out.lo.trans hk3.1⟩
            have hG3 := hk3.2 _ _ _ _ hgn HGj.out
            have HJ3 : Aside0 (J ((L.take i).flatten ++ x.take (j + 1)) W3) := ⟨by rw [HTK.out, ← List.append_assoc]; exact hJ3⟩
            clear hJ3 hk3
            gi_wp2
            go_roundw
            case rel => exact ⟨j + 1, by go_num, by omega, HJ3, ⟨hS3⟩, ⟨hG3⟩⟩
            case measure => simp [intOf]; omega
          · gi_wp2
            refine bodyPost_ret (results_none rfl _ _ _) rfl ?_
            exact ⟨⟨_, rfl⟩, .inr ⟨_, HP.out, hJx3⟩⟩
        · obtain rfl : j = x.length := by omega
          have HE : Aside0 (J ((L.take (i + 1)).flatten) wr) := ⟨by have := HJj.out; rwa [List.take_of_length_le (Nat.le_refl _), HSN.out] at this⟩
          go_wp2
          go_roundw
          case rel => exact ⟨i + 1, by go_num, by omega, HE, HSj, HGj⟩
          case measure => simp [intOf]; omega
    · obtain rfl : i = L.length := by omega
      have HE : Aside0 (J L.flatten wr) := ⟨by have := HJi.out; rwa [List.take_of_length_le (Nat.le_refl _)] at this⟩
      go_wp2
      refine bodyPost_end (results_none rfl _ _ _) rfl ?_
      exact ⟨⟨_, rfl⟩, .inl ⟨_, rfl, HE.out⟩⟩
end Go.Proofs.Ytaolakknkhggnaa.X
end
section
namespace Go.Proofs.Ytaolakknkhggnaa.X
open Go.RowKit Go.Maps Go.Shelf Go.Proofs.YtaolakknkhggnaaW.PrintWords Go.Proofs.YtaolakknkhggnaaW.PrintLast
set_option linter.unusedVariables false
theorem grown_belowT {W W' : World} (hb : Below W.heap.size W W') : W.grownBy W' none := ⟨hb.os, hb.tape, hb.output, hb.size, fun k hk _ => hb.block k hk⟩
set_option maxRecDepth 100000 in
theorem all_calls (T0 T1 : Value) (w : World) :
    Calls Try.prog 96 #[.agg #[T0, T1]] w fun e w' => ∃ Bt, e = .returned (.func (.func 103) #[] #[.pointer (some ⟨Bt, 0, none⟩)]) ∧ w'.heap[Bt]? = some (.cells #[T0, T1] 25 (0, 0)) ∧ w.heap.size ≤ Bt ∧ Below w.heap.size w w' := by
  go_enter Try.func96, Try.ntmps96
  go_wp2
  go_ret
  exact ⟨_, rfl, blk_new w _, Nat.le_refl _, below_alloc (Below.refl _ _) _⟩
theorem all_stops (w : World) (Bn : Nat) (A0 : Option Addr) (c0 : Nat) (hd : List ByteArray) (A1 : Option Addr) (c1 : Nat) (rows : List (List ByteArray)) (Bt n : Nat) (hr0 : Kd.C Kd.string w A0 hd.length hd) (hc0 : hd.length ≤ c0) (hr1 : Kd.C (Kd.slice 9 Kd.string) w A1 rows.length rows) (hl : rows.length ≤ 100000)
    (hn : 1 ≤ n) (w1 : World) (hS : AllS w A0 c0 hd A1 c1 rows Bt w1) (hBt : Bt ≠ Bn) (hBn : Bn < w1.heap.size) :
    SeqStopsK Fence.wide n Try.prog 103 #[.pointer (some ⟨Bt, 0, none⟩)] (fun x : ByteArray => #[.string x]) (KpC w.heap.size Bn) (fun ys => ys = seqR hd rows) (fun pre => pre <+: seqR hd rows) (seqR hd rows).length w1 := fun l J Jx W hW hJ _ hY h0 =>
  callsIn_wide.2 (all1_calls w Bn A0 c0 hd A1 c1 rows Bt n l hr0 hc0 hr1 hl hn J Jx W (fun s A B h hb => hJ s A B none h (grown_belowT hb) (by simp)) hY (hS.below hW) hBt (Nat.lt_of_lt_of_le hBn hW.size) (Nat.le_trans hS.lo.size hW.size) h0)
attribute [local go_sem] Oper.semAt_some
def sumR (l : List ByteArray) : Int := l.foldl (fun n c => wrap64 (n + c.size)) 0
theorem sumR_snoc (l : List ByteArray) (x : ByteArray) : sumR (l ++ [x]) = wrap64 (sumR l + x.size) := by unfold sumR; rw [List.foldl_append]; rfl
def totalR (hd : List ByteArray) (rows : List (List ByteArray)) : Int := sumR (seqR hd rows)
set_option maxRecDepth 100000 in
set_option maxHeartbeats 2000000 in
theorem total_calls (A0 : Option Addr) (c0 : Nat) (hd : List ByteArray) (A1 : Option Addr) (c1 : Nat) (rows : List (List ByteArray)) (w : World) (hr0 : Kd.C Kd.string w A0 hd.length hd) (hc0 : hd.length ≤ c0) (hr1 : Kd.C (Kd.slice 9 Kd.string) w A1 rows.length rows) (hl : rows.length ≤ 100000) :
    Calls Try.prog 97 #[.agg #[.slice A0 hd.length c0, .slice A1 rows.length c1]] w fun e w' => e = .returned (.int .i64 (totalR hd rows)) ∧ Below w.heap.size w w' := by
  refine (callsIn_wide (n := 4)).1 ?_
  have HR := Aside0.mk (And.intro hr0 hr1)
  clear hr0 hr1
  refine callsIn_of_wp_marks Try.func97 rfl trivial ?_ rfl
  simp only [Try.ntmps97, List.size_toArray, List.length_cons, List.length_nil, Nat.reduceAdd, Nat.reduceSub, Array.replicate_succ, Array.replicate_zero, List.push_toArray, List.append_toArray, List.nil_append, List.cons_append]
  gi_wp2_with (refine ⟨trivial, ?_⟩; gi_at_call 96; refine (callsIn_wide.2 (all_calls _ _ _)).mono ?_; rintro e w1 ⟨Bt, rfl, hT, hge, hb⟩)
  rw [World.size_alloc, World.size_alloc] at hge
  have hb0 := below_alloc (below_alloc (Below.refl w.heap.size w) (.cells #[.slice A0 hd.length c0, .slice A1 rows.length c1] 25)) (.cells #[.int .i64 0] 3)
  have hbw : Below w.heap.size w w1 := hb0.trans (hb.mono (by simp; omega))
  have bO : Boxed w1 (w.heap.size + 1) 3 (.int .i64 0) := (hb.block _ (by simp)).trans (by
    have h := blk_new (w.alloc (.cells #[.slice A0 hd.length c0, .slice A1 rows.length c1] 25)) (.cells #[.int .i64 0] 3)
    rw [World.size_alloc] at h
    exact h)
  have lB := bO.lt
  have hS : AllS w A0 c0 hd A1 c1 rows Bt w1 := ⟨hT, hbw⟩
  refine wpIn_rangeFunc_ownG rfl (by omega) (gf := 103) (lb := #[.pointer (some ⟨Bt, 0, none⟩)]) rfl trivial (enters_of Try.func103 (by kernel_rfl) rfl)
    (all_stops w (w.heap.size + 1) A0 c0 hd A1 c1 rows Bt 3 HR.out.1 hc0 HR.out.2 hl (by omega) w1 hS (by omega) lB)
    (fun {A B C} h k => h.trans k)
    (fun W l o o' hl h1 h2 h3 => KpC.put (w := w1) hbw.size W l o o' hl h1 h2 h3)
    (Below.refl _ _) (fun _ => rfl)
    (fun pre W => Boxed W (w.heap.size + 1) 3 (.int .i64 (sumR pre)) ∧ Below w.heap.size w W)
    (fun _ _ _ => False)
    (OwnFrom.and (Own.from (boxed_own (w.heap.size + 1) 3 (fun pre => .int .i64 (sumR pre))) _) (ownFrom_below (Nat.le_refl _) (by omega)))
    (fun _ _ _ _ _ hs _ _ => hs)
    ⟨bO, hbw⟩
    (fun x => { tmps := #[.agg #[.slice A0 hd.length c0, .slice A1 rows.length c1], .pointer (some ⟨w.heap.size, 0, none⟩), .int .i64 0, .pointer (some ⟨w.heap.size + 1, 0, none⟩), .string x, .agg #[.slice A0 hd.length c0, .slice A1 rows.length c1],
      .func (.func 103) #[] #[.pointer (some ⟨Bt, 0, none⟩)], .string x, undef, undef, undef, undef, undef], defers := [] }) ?assign ?body ?done ?stop
  case assign =>
    intro l x W K hK
    gi_wp2
    exact hK
  case body =>
    rintro l pre x W ⟨hv, hB⟩ hlt
    have hc := hv.cell
    have hf := hv.frozen
    gi_wp2
    have hv2 : Boxed (W.setCell ⟨w.heap.size + 1, 0, none⟩ (.int .i64 (sumR (pre ++ [x])))) (w.heap.size + 1) 3 (.int .i64 (sumR (pre ++ [x]))) := hv.set _
    refine ⟨(KeepsOthers.setCell _ _ _).from _, ⟨?_, fun k cs t fr hk hc2 => ?_⟩, ?_, ?_⟩
    · exact (Below.refl _ _).setCell (by simp) _
    · rw [Below.heap_setCell _ _ _ _ (by show k ≠ w.heap.size + 1; exact hk)]; exact hc2
    · rw [sumR_snoc] at hv2 ⊢; exact hv2
    · exact hB.setCell (by simp) _
  case done =>
    rintro D ys W hD rfl ⟨hv, hB⟩ hK
    have hc := hv.cell
    gi_wp2
    refine ⟨by simp, .inl ⟨_, _, rfl, run_takeDeferred hK, ?_⟩⟩
    refine ⟨_, results_tmp rfl _ _ _, rfl, hB.trans (belowK_b (w := w) (Nat.le_refl _) W D _ _ (by omega) hK rfl rfl)⟩
  case stop =>
    rintro D c pre W _ _ h _
    exact h.elim
end Go.Proofs.Ytaolakknkhggnaa.X
end
section
namespace Go.Proofs.Ytaolakknkhggnaa.X
open Go.RowKit Go.Maps Go.Shelf Go.Proofs.YtaolakknkhggnaaW.PrintWords Go.Proofs.YtaolakknkhggnaaW.PrintLast Go.Proofs.Ytaolakknkhggnaa.GMap
set_option linter.unusedVariables false
theorem unless_calls (so : Bool) (e : Int) (w : World) : Calls Try.prog 90 #[.bool so, .int .i64 e] w fun r w' => r = .returned (.int .i64 (if so then 0 else e)) ∧ Drawn0 w w' :=
  table_unless.calls so e (if so then 0 else e) w (by unfold table_unless.f; cases so <;> rfl)
set_option maxRecDepth 100000 in
theorem odd_calls (A : Option Addr) (n c : Nat) (A0 : Option Addr) (m c0 : Nat) (T1 : Value) (tb : Nat) (W : World) (hT : W.heap[tb]? = some (.cells #[.slice A0 m c0, T1] 25 (0, 0))) :
    Calls Try.prog 92 #[.slice A n c, .pointer (some ⟨tb, 0, none⟩)] W fun e w' => e = .returned (.bool (decide (n ≠ m))) ∧ w' = W := by
  have h0 := blk_cell hT 0
  have f0 := blk_frozen hT 0
  clear hT
  by_cases h : n = m
  · subst h
    go_enter Try.func92, Try.ntmps92
    go_wp2
    go_ret
    simp
  · have hI : ((n : Int) == (m : Int)) = false := by simp; omega
    have hI2 : ¬ (n : Int) = (m : Int) := by omega
    go_enter Try.func92, Try.ntmps92
    go_wp2
    go_ret
    simp [h, hI2]
theorem rowAt {w : World} {A : Option Addr} {rows : List (List ByteArray)} (h : Kd.C (Kd.slice 9 Kd.string) w A rows.length rows) {i : Nat} (hi : i < rows.length) : ∃ (ad : Addr) (Ax : Option Addr) (cx : Nat), A = some ad ∧ w.cell? (ad.add i) = some (.slice Ax (rows.getD i []).length cx) ∧ (rows.getD i []).length ≤ cx ∧ Kd.C Kd.string w Ax (rows.getD i []).length (rows.getD i []) := by
  rcases A with _ | ad
  · obtain ⟨_, _, h3⟩ := h
    obtain ⟨ad, e, _⟩ := h3 (by omega)
    cases e
  · obtain ⟨cs, hcs, hc⟩ := cellsOf_mk h
    obtain ⟨Ax, cx, h1, h2, h3⟩ := hcs.2 i (rows.getD i []) (by rw [List.getD_eq_getElem?_getD, List.getElem?_eq_getElem hi]; rfl)
    exact ⟨ad, Ax, cx, rfl, hc i _ h1, h2, h3⟩
def wideR (rows : List (List ByteArray)) (m : Nat) : Bool := rows.any fun r => decide (r.length ≠ m)
theorem wide_yes {rows : List (List ByteArray)} {m i : Nat} (hi : i < rows.length) (h : (rows.getD i []).length ≠ m) : wideR rows m = true := by
  unfold wideR
  rw [List.any_eq_true]
  refine ⟨rows[i], List.getElem_mem hi, ?_⟩
  rw [List.getD_eq_getElem?_getD, List.getElem?_eq_getElem hi] at h
  simpa using h
theorem wide_no {rows : List (List ByteArray)} {m : Nat} (h : ∀ i, i < rows.length → (rows.getD i []).length = m) : wideR rows m = false := by
  unfold wideR
  rw [List.any_eq_false]
  intro r hr
  obtain ⟨i, hi, rfl⟩ := List.getElem_of_mem hr
  have := h i hi
  rw [List.getD_eq_getElem?_getD, List.getElem?_eq_getElem hi] at this
  simpa using this
set_option maxRecDepth 100000 in
set_option maxHeartbeats 800000 in
theorem idx_calls (A0 : Option Addr) (m c0 : Nat) (T1 : Value) (tb : Nat) (A1 : Option Addr) (c1 : Nat) (rows : List (List ByteArray)) (W : World) (hT : W.heap[tb]? = some (.cells #[.slice A0 m c0, T1] 25 (0, 0))) (hr : Kd.C (Kd.slice 9 Kd.string) W A1 rows.length rows) (hl : rows.length ≤ 1000000) :
    Calls Try.prog 102 #[.slice A1 rows.length c1, .func (.func 92) #[] #[.pointer (some ⟨tb, 0, none⟩)]] W fun e w' => (∃ i : Int, e = .returned (.int .i64 i) ∧ wideR rows m = decide (0 ≤ i)) ∧ w' = W := by
  have HT := Aside0.mk hT
  have HR := Aside0.mk hr
  clear hT hr
  go_enter Try.func102, Try.ntmps102
  go_wp2
  go_loopw [8] (fun vi wr => ∃ i : Nat, vi = .int .i64 i ∧ i ≤ rows.length ∧ (∀ j, j < i → (rows.getD j []).length = m) ∧ wr = W)
    (fun vi _ => rows.length - (intOf vi).toNat)
  case atStart => exact ⟨0, rfl, Nat.zero_le _, fun j hj => by omega, rfl⟩
  case round =>
    obtain ⟨i, rfl, hi, hall, rfl⟩ := hrel
    by_cases hlt : i < rows.length
    · obtain ⟨ad, Ax, cx, eA, hx, hcx, hCx⟩ := rowAt HR.out hlt
      cases eA
      have hlI : (i : Int) < (rows.length : Int) := by omega
      by_cases hm : (rows.getD i []).length = m
      · have hd : decide ((rows.getD i []).length ≠ m) = false := decide_eq_false (fun h => h hm)
        have HM := Aside0.mk hm
        have HA := Aside0.mk hall
        generalize (rows.getD i []).length = q at hx hcx hd
        clear hm hall hCx
        go_wp2_with (first
          | (go_at_call 92; refine (odd_calls Ax q cx A0 m c0 T1 tb _ HT.out).mono ?_; rintro e w1 ⟨rfl, rfl⟩; rw [hd]))
        go_roundw
        case rel =>
          refine ⟨i + 1, by go_num, by omega, fun j hj => ?_, by first | rfl | trivial⟩
          rcases Nat.lt_or_ge j i with h | h
          · exact HA.out j h
          · obtain rfl : j = i := by omega
            exact HM.out
        case measure => simp [intOf]; omega
      · have hd : decide ((rows.getD i []).length ≠ m) = true := decide_eq_true hm
        have hw := Aside0.mk (wide_yes hlt hm)
        generalize (rows.getD i []).length = q at hx hcx hd
        clear hm hall hCx
        go_wp2_with (first
          | (go_at_call 92; refine (odd_calls Ax q cx A0 m c0 T1 tb _ HT.out).mono ?_; rintro e w1 ⟨rfl, rfl⟩; rw [hd]))
        go_ret
        exact ⟨⟨(i : Int), rfl, by rw [hw.out]; simp⟩, rfl⟩
    · obtain rfl : i = rows.length := by omega
      have hw := Aside0.mk (wide_no hall)
      clear hall
      go_wp2
      go_ret
      exact ⟨⟨-1, rfl, by rw [hw.out]; rfl⟩, rfl⟩
set_option maxRecDepth 100000 in
theorem has_calls (A0 : Option Addr) (m c0 : Nat) (T1 : Value) (tb : Nat) (A1 : Option Addr) (c1 : Nat) (rows : List (List ByteArray)) (W : World) (hT : W.heap[tb]? = some (.cells #[.slice A0 m c0, T1] 25 (0, 0))) (hr : Kd.C (Kd.slice 9 Kd.string) W A1 rows.length rows) (hl : rows.length ≤ 1000000) :
    Calls Try.prog 93 #[.slice A1 rows.length c1, .func (.func 92) #[] #[.pointer (some ⟨tb, 0, none⟩)]] W fun e w' => e = .returned (.bool (wideR rows m)) ∧ w' = W := by
  have HT := Aside0.mk hT
  have HR := Aside0.mk hr
  clear hT hr
  go_enter Try.func93, Try.ntmps93
  go_wp2_with (first
    | (go_at_call 102; refine (idx_calls A0 m c0 T1 tb A1 c1 rows _ HT.out HR.out hl).mono ?_; rintro e w1 ⟨⟨i, rfl, hw⟩, rfl⟩; have HW := Aside0.mk hw; clear hw))
  go_ret
  exact ⟨by rw [HW.out]; rfl, rfl⟩
/-- Where the table lies, boxed. -/
structure TAt (w0 : World) (A0 : Option Addr) (c0 : Nat) (hd : List ByteArray) (A1 : Option Addr) (c1 : Nat) (rows : List (List ByteArray)) (tb : Nat) (W : World) : Prop where
  t : W.heap[tb]? = some (.cells #[.slice A0 hd.length c0, .slice A1 rows.length c1] 25 (0, 0))
  lo : Below w0.heap.size w0 W
  r0 : Kd.C Kd.string w0 A0 hd.length hd
  c0 : hd.length ≤ c0
  r1 : Kd.C (Kd.slice 9 Kd.string) w0 A1 rows.length rows
theorem TAt.below {w0 : World} {A0 : Option Addr} {c0 : Nat} {hd : List ByteArray} {A1 : Option Addr} {c1 : Nat} {rows : List (List ByteArray)} {tb : Nat} {W W' : World} (h : TAt w0 A0 c0 hd A1 c1 rows tb W) (hb : Below W.heap.size W W') : TAt w0 A0 c0 hd A1 c1 rows tb W' :=
  ⟨(hb.block _ (lt_of_block h.t)).trans h.t, h.lo.trans (hb.mono h.lo.size), h.r0, h.c0, h.r1⟩
section
variable (w0 : World) (A0 : Option Addr) (c0 : Nat) (hd : List ByteArray) (A1 : Option Addr) (c1 : Nat) (rows : List (List ByteArray)) (tb : Nat) (W : World)
set_option maxRecDepth 100000 in
theorem check1_calls (h : TAt w0 A0 c0 hd A1 c1 rows tb W) :
    Calls Try.prog 89 #[.pointer (some ⟨tb, 0, none⟩)] W fun e w' => e = .returned (.int .i64 (if hd.length = 0 then 8 else 0)) ∧ Below W.heap.size W w' := by
  have h0 := blk_cell h.t 0
  have f0 := blk_frozen h.t 0
  clear h
  by_cases hz : hd.length = 0
  · rw [hz] at h0
    go_enter Try.func89, Try.ntmps89
    go_wp2_with (first | (go_at_call 90; refine (unless_calls _ _ _).mono ?_; rintro e w1 ⟨rfl, ⟨nd, rfl⟩⟩))
    go_ret
    exact ⟨by simp, pw_below_drewN (Below.refl _ _) nd⟩
  · have hp : 0 < hd.length := by omega
    have hpI : (0 : Int) < (hd.length : Int) := by omega
    go_enter Try.func89, Try.ntmps89
    go_wp2_with (first | (go_at_call 90; refine (unless_calls _ _ _).mono ?_; rintro e w1 ⟨rfl, ⟨nd, rfl⟩⟩))
    go_ret
    exact ⟨by simp, pw_below_drewN (Below.refl _ _) nd⟩
set_option maxRecDepth 100000 in
theorem check2_calls (h : TAt w0 A0 c0 hd A1 c1 rows tb W) (hl : rows.length ≤ 100000) :
    Calls Try.prog 91 #[.pointer (some ⟨tb, 0, none⟩)] W fun e w' => e = .returned (.int .i64 (if wideR rows hd.length = true then 9 else 0)) ∧ Below W.heap.size W w' := by
  have h1 := blk_cell h.t 1
  have f1 := blk_frozen h.t 1
  have H := Aside0.mk h
  clear h
  rcases Bool.eq_false_or_eq_true (wideR rows hd.length) with hw | hw
  all_goals (
    rw [hw]
    have HW := Aside0.mk hw
    clear hw
    go_enter Try.func91, Try.ntmps91
    go_wp2_with (first
      | (go_at_call 93; refine (has_calls A0 hd.length c0 _ tb A1 c1 rows _ H.out.t (Kd.C_below H.out.r1 H.out.lo) (by omega)).mono ?_; rintro e w1 ⟨rfl, rfl⟩; rw [HW.out])
      | (go_at_call 90; refine (unless_calls _ _ _).mono ?_; rintro e w1 ⟨rfl, ⟨nd, rfl⟩⟩))
    go_ret
    exact ⟨rfl, pw_below_drewN (Below.refl _ _) nd⟩)
end
end Go.Proofs.Ytaolakknkhggnaa.X
end
section
namespace Go.Proofs.Ytaolakknkhggnaa.X
open Go.RowKit Go.WideMaps Go.Maps Go.Shelf Go.Proofs.YtaolakknkhggnaaW.PrintWords Go.Proofs.YtaolakknkhggnaaW.PrintLast Go.Proofs.Ytaolakknkhggnaa.GMap
set_option linter.unusedVariables false
theorem lawS : Keyed Try.prog 9 := string_keyed Try.underlying9
theorem zeroI (w : World) : (zeroValue 3).run Try.prog w = .ok (.int .i64 0) w := by kernel_rfl
abbrev MapS (w : World) (b s : Nat) (f : List UInt8 → Option Int) : Prop := MapO Try.prog 9 3 encB w b s f
abbrev bts (s : ByteArray) : List UInt8 := s.data.toList
theorem keyS {s : ByteArray} (hs : s.size ≤ maxLen) : keyOf Try.prog 9 (.string s) = some (encB.lit (bts s)) := keyOf_string_mk Try.underlying9 hs
theorem bts_inj {a b : ByteArray} (h : bts a = bts b) : a = b := by
  cases a; cases b; simpa [bts] using h
def cnt (l : List ByteArray) (k : List UInt8) : Nat := (l.filter fun s => decide (bts s = k)).length
def cntO (l : List ByteArray) (k : List UInt8) : Option Int := if cnt l k = 0 then none else some (cnt l k)
theorem cnt_le (l : List ByteArray) (k) : cnt l k ≤ l.length := List.length_filter_le _ _
theorem cnt_snoc (l : List ByteArray) (s : ByteArray) (k) : cnt (l ++ [s]) k = cnt l k + if bts s = k then 1 else 0 := by
  unfold cnt
  rw [List.filter_append]
  by_cases h : bts s = k <;> simp [h]
theorem cntO_getD (l : List ByteArray) (k) : (cntO l k).getD 0 = cnt l k := by
  unfold cntO; split <;> simp_all
theorem cntO_snoc (l : List ByteArray) (s : ByteArray) : cntO (l ++ [s]) = upd (cntO l) (bts s) ((cntO l (bts s)).getD 0 + 1) := by
  funext k
  unfold upd
  rw [cntO_getD]
  unfold cntO
  rw [cnt_snoc]
  by_cases h : k = bts s
  · subst h; simp
  · rw [if_neg h]; have h' : ¬ bts s = k := fun e => h e.symm
    simp [h']
theorem cntO_mem (l : List ByteArray) (s : ByteArray) : (cntO l (bts s)).isSome = true ↔ s ∈ l := by
  unfold cntO cnt
  constructor
  · intro h
    split at h
    · cases h
    · rename_i h0
      obtain ⟨x, hx⟩ := List.exists_mem_of_length_pos (Nat.pos_of_ne_zero h0)
      rw [List.mem_filter, decide_eq_true_eq] at hx
      rw [← bts_inj hx.2]; exact hx.1
  · intro h
    rw [if_neg]
    · rfl
    · have : s ∈ l.filter fun t => decide (bts t = bts s) := by rw [List.mem_filter]; exact ⟨h, by simp⟩
      exact Nat.ne_of_gt (List.length_pos_of_mem this)
/-- So many keys from so many names. -/
def DisAt (l : List ByteArray) (s : Nat) : Prop := s ≤ l.length ∧ (s = l.length ↔ l.Nodup)
theorem DisAt.snoc {l : List ByteArray} {s : Nat} (h : DisAt l s) (x : ByteArray) : DisAt (l ++ [x]) (grow (cntO l) (bts x) s) := by
  obtain ⟨h1, h2⟩ := h
  unfold grow
  by_cases hx : x ∈ l
  · rw [if_pos ((cntO_mem l x).2 hx)]
    refine ⟨by simp; omega, ⟨fun h => by simp at h; omega, fun h => ?_⟩⟩
    rw [List.nodup_append] at h
    exact absurd rfl (h.2.2 x hx x (by simp))
  · rw [if_neg (fun h => hx ((cntO_mem l x).1 h))]
    refine ⟨by simp; omega, ?_⟩
    rw [List.nodup_append]
    constructor
    · intro h
      refine ⟨h2.1 (by simp at h; omega), by simp, ?_⟩
      intro a ha b hb
      simp at hb
      subst hb
      exact fun e => hx (e ▸ ha)
    · intro h
      have := h2.2 h.1
      simp; omega
theorem rdOf_mem {l : List ByteArray} {k : Nat} (h : k < l.length) : rdOf ByteArray.empty l (k : Int) ∈ l := by
  unfold rdOf
  rw [show (k : Int).toNat = k from rfl, List.getD_eq_getElem?_getD, List.getElem?_eq_getElem h]
  exact List.getElem_mem h
section
variable (w0 : World) (A0 : Option Addr) (c0 : Nat) (hd : List ByteArray) (A1 : Option Addr) (c1 : Nat) (rows : List (List ByteArray)) (tb : Nat) (W : World)
set_option maxRecDepth 100000 in
set_option maxHeartbeats 800000 in
theorem check3_calls (h : TAt w0 A0 c0 hd A1 c1 rows tb W) (hl : hd.length ≤ 100000) (hs : ∀ s ∈ hd, s.size ≤ maxLen) :
    Calls Try.prog 94 #[.pointer (some ⟨tb, 0, none⟩)] W fun e w' => e = .returned (.int .i64 (if hd.Nodup then 0 else 10)) ∧ Below W.heap.size W w' := by
  obtain ⟨r, hr⟩ : ∃ r : Int, Aside0 ((if hd.Nodup then 0 else 10) = r) := ⟨_, ⟨rfl⟩⟩
  rw [hr.out]
  have hmm := @run_makeMap Try.prog
  have h0 := blk_cell h.t 0
  have f0 := blk_frozen h.t 0
  have h0m : (W.alloc (Obj.map #[] 0)).cell? ⟨tb, 0, none⟩ = some (.slice A0 hd.length c0) := blk_cell (h.below (below_alloc (Below.refl _ _) _)).t 0
  have f0m : (W.alloc (Obj.map #[] 0)).frozen? ⟨tb, 0, none⟩ = false := blk_frozen (h.below (below_alloc (Below.refl _ _) _)).t 0
  have H := Aside0.mk h
  have HS := Aside0.mk hs
  clear h hs
  go_enter Try.func94, Try.ntmps94
  go_wp2
  go_loopw [9] (fun i wr => ∃ k s : Nat, k ≤ hd.length ∧ s ≤ k ∧ i = .int .i64 k ∧ MapS wr W.heap.size s (cntO (hd.take k)) ∧ Aside0 (DisAt (hd.take k) s) ∧ Below W.heap.size W wr)
    (fun i _ => hd.length - (intOf i).toNat)
  case atStart =>
    refine ⟨0, 0, Nat.zero_le _, Nat.le_refl _, rfl, ?_, ⟨⟨by simp, by simp⟩⟩, (Below.refl _ _).alloc (Nat.le_refl _) _⟩
    have h := MapO.made Try.prog 9 3 encB W
    have e : cntO (hd.take 0) = fun _ => none := by funext k; simp [cntO, cnt]
    rw [e]; exact h
  case round =>
    obtain ⟨k, s, hk, hsk, rfl, hm, HD, hb⟩ := hrel
    by_cases hlt : k < hd.length
    · have hsz := HS.out _ (rdOf_mem hlt)
      have htk := Aside0.mk (take_rdB hlt)
      obtain ⟨ad, eA, hx⟩ := strAtA (Kd.C_below H.out.r0 (H.out.lo.trans (hb.mono H.out.lo.size))) hlt
      cases eA
      have hltI : (k : Int) < (hd.length : Int) := by omega
      generalize hy : rdOf ByteArray.empty hd (k : Int) = y at *
      clear h0 f0 h0m f0m hy
      go_wp2_with (first
        | (at_lookup; refine lookup_arm lawS Try.underlying89 Try.underlying3 zeroI rfl _ _ rfl _ s _ rfl hm _ _ rfl (keyS hsz) ?_; intro hwc)
        | (at_mapUpdate; refine store_arm lawS Try.underlying89 Try.underlying3 rfl _ _ _ rfl _ s _ rfl hm (by unfold maxLen; omega) _ _ rfl (keyS hsz) _ rfl (wrap64_wf _) ?_; intro w1 hm1 hg1))
      have hcl := cnt_le (hd.take k) (bts y)
      rw [List.length_take] at hcl
      have HD2 := HD.out.snoc y
      rw [cntO_getD, show wrap64 ((cnt (hd.take k) (bts y) : Int) + 1) = (cntO (hd.take k) (bts y)).getD 0 + 1 from by rw [cntO_getD]; unfold wrap64; omega, ← cntO_snoc, ← htk.out] at hm1
      rw [← htk.out] at HD2
      have hg2 := grow_le (cntO (hd.take k)) (bts y) s
      clear hm hx hwc
      go_roundw
      case rel =>
        exact ⟨k + 1, _, by omega, by omega, by go_num, hm1, ⟨HD2⟩, hb.grown hg1 hb.size (fun j hj => by cases hj; omega)⟩
      case measure => simp [intOf]; omega
    · obtain rfl : k = hd.length := by omega
      have hln := hm.len Try.underlying89
      have h0' : wr.cell? ⟨tb, 0, none⟩ = some (.slice A0 hd.length c0) := blk_cell (H.out.below hb).t 0
      have f0' := blk_frozen (H.out.below hb).t 0
      clear hm
      have hD := HD.out
      rw [List.take_length] at hD
      obtain ⟨hd1, hd2⟩ := hD
      have HN := Aside0.mk hd2
      clear hd2 h0 f0 h0m f0m
      by_cases hq : s = hd.length
      · have HQ := Aside0.mk (HN.out.1 hq)
        subst hq
        go_wp2_with (first | (go_at_call 90; refine (unless_calls _ _ _).mono ?_; rintro e w1 ⟨rfl, ⟨nd, rfl⟩⟩))
        go_ret
        exact ⟨by rw [← hr.out, if_pos HQ.out]; rfl, pw_below_drewN hb nd⟩
      · have HQ := Aside0.mk (fun h => hq (HN.out.2 h))
        have hqI : ((s : Int) == (hd.length : Int)) = false := by simp; omega
        have hqJ : ¬ (s : Int) = (hd.length : Int) := by omega
        go_wp2_with (first | (go_at_call 90; refine (unless_calls _ _ _).mono ?_; rintro e w1 ⟨rfl, ⟨nd, rfl⟩⟩))
        go_ret
        exact ⟨by rw [← hr.out, if_neg HQ.out]; simp, pw_below_drewN hb nd⟩
end
end Go.Proofs.Ytaolakknkhggnaa.X
end
section
namespace Go.Proofs.Ytaolakknkhggnaa.X
open Go.RowKit Go.Maps Go.Shelf Go.Proofs.YtaolakknkhggnaaW.PrintWords Go.Proofs.YtaolakknkhggnaaW.PrintLast
set_option linter.unusedVariables false
attribute [local go_sem] Oper.semAt_some
theorem results_box {fn : Func} {p B : Nat} {t : TypeId} {i : Int} {P : Program} (h : fn.results = #[.cell p t]) (ht : ∀ w, (isAgg t).run P w = .ok false w) (tmps : Array Value) (w : World) (hp : tmps.getD p undef = .pointer (some ⟨B, 0, none⟩)) (hB : Boxed w B t (.int .i64 i)) :
    (results fn tmps).run P w = .ok (.int .i64 i) w := by
  have hc := hB.cell
  have hp' : tmps[p]?.getD undef = .pointer (some ⟨B, 0, none⟩) := by simpa using hp
  simp [results, h, hp', asAddr, loadVar, ht, go_sem, hc]
def largeR (hd : List ByteArray) (rows : List (List ByteArray)) : Int := if 40 < hd.length ∨ 400 < rows.length then 7 else if (seqR hd rows).any (fun c => decide (1000 < c.size)) = true then 7 else if totalR hd rows ≤ 40000 then 0 else 7
theorem fin4 (W : World) (D : Nat) (v : Int) (X : World) (a : Act) (hD : W.heap.size < D) (hK3 : X.heap[D]? = some (.deferred (some []))) (hv3 : Boxed X W.heap.size 32 (.int .i64 v)) (hB3 : Below W.heap.size W X) (r : Int)
    (ha : a.defers = [{ target := .collected D, args := #[] }]) (ht : a.tmps.getD 1 undef = .pointer (some ⟨W.heap.size, 0, none⟩)) (hvr : v = r) :
    bodyPostM Fence.wide 4 Try.prog Try.f95 (fun e w' => e = Ending.returned (Value.int IntKind.i64 r) ∧ Below W.heap.size W w') Exit.ret a X := by
  subst hvr
  obtain ⟨tmps, ds⟩ := a
  simp only at ha ht
  subst ha
  refine ⟨by simp, .inl ⟨_, _, rfl, run_takeDeferred hK3, ?_⟩⟩
  refine ⟨_, results_box (B := W.heap.size) (i := v) rfl (fun _ => by kernel_rfl) _ _ ht (hv3.kept (grownBy_putObj' _ D _) (fun e => by cases e; omega)), rfl, hB3.trans (belowK_b (w := W) (Nat.le_refl _) _ D _ _ (by omega) hK3 rfl rfl)⟩
section
variable (w0 : World) (A0 : Option Addr) (c0 : Nat) (hd : List ByteArray) (A1 : Option Addr) (c1 : Nat) (rows : List (List ByteArray)) (tb : Nat) (W : World)
set_option maxRecDepth 100000 in
set_option maxHeartbeats 2000000 in
theorem check4_calls (h : TAt w0 A0 c0 hd A1 c1 rows tb W) (hl : rows.length ≤ 100000) (hh : hd.length ≤ 100000) :
    Calls Try.prog 95 #[.pointer (some ⟨tb, 0, none⟩)] W fun e w' => e = .returned (.int .i64 (largeR hd rows)) ∧ Below W.heap.size W w' := by
  obtain ⟨r, hr⟩ : ∃ r : Int, Aside0 (largeR hd rows = r) := ⟨_, ⟨rfl⟩⟩
  rw [hr.out]
  have hA : TAt w0 A0 c0 hd A1 c1 rows tb (W.alloc (.cells #[.int .i64 0] 32)) := h.below (below_alloc (Below.refl _ _) _)
  have ha0 := blk_cell hA.t 0
  have ha1 := blk_cell hA.t 1
  have hf0 := blk_frozen hA.t 0
  have hf1 := blk_frozen hA.t 1
  have bO : Boxed (W.alloc (.cells #[.int .i64 0] 32)) W.heap.size 32 (.int .i64 0) := blk_new W _
  have H := Aside0.mk h
  have HA := Aside0.mk hA
  have HO := Aside0.mk bO
  clear h hA bO
  by_cases h40 : 40 < hd.length
  · have h40I : (40 : Int) < (hd.length : Int) := by omega
    go_enter Try.func95, Try.ntmps95
    go_wp2
    refine bodyPost_ret (results_box (B := W.heap.size) (i := 7) rfl (fun _ => by kernel_rfl) _ _ rfl (blk_new W _)) rfl ⟨?_, ?_⟩
    · rw [← hr.out, largeR, if_pos (.inl h40)]
    · exact below_alloc (Below.refl _ _) _
  have h40I : ¬ (40 : Int) < (hd.length : Int) := by omega
  by_cases h400 : 400 < rows.length
  · have h400I : (400 : Int) < (rows.length : Int) := by omega
    go_enter Try.func95, Try.ntmps95
    go_wp2
    refine bodyPost_ret (results_box (B := W.heap.size) (i := 7) rfl (fun _ => by kernel_rfl) _ _ rfl (blk_new W _)) rfl ⟨?_, ?_⟩
    · rw [← hr.out, largeR, if_pos (.inr h400)]
    · exact below_alloc (Below.refl _ _) _
  have h400I : ¬ (400 : Int) < (rows.length : Int) := by omega
  have HRR := Aside0.mk (show (if (seqR hd rows).any (fun c => decide (1000 < c.size)) = true then 7 else if totalR hd rows ≤ 40000 then 0 else 7) = r by rw [← hr.out, largeR, if_neg (show ¬ (40 < hd.length ∨ 400 < rows.length) by omega)])
  have hr0 : Kd.C Kd.string W A0 hd.length hd := Kd.C_below H.out.r0 H.out.lo
  have hr1 : Kd.C (Kd.slice 9 Kd.string) W A1 rows.length rows := Kd.C_below H.out.r1 H.out.lo
  have hc0 := H.out.c0
  have HR := Aside0.mk (And.intro hr0 hr1)
  clear hr0 hr1 hr
  refine (callsIn_wide (n := 4)).1 ?_
  refine callsIn_of_wp_marks Try.func95 rfl trivial ?_ rfl
  simp only [Try.ntmps95, List.size_toArray, List.length_cons, List.length_nil, Nat.reduceAdd, Nat.reduceSub, Array.replicate_succ, Array.replicate_zero, List.push_toArray, List.append_toArray, List.nil_append, List.cons_append]
  gi_wp2_with (refine ⟨trivial, ?_⟩; gi_at_call 96; refine (callsIn_wide.2 (all_calls _ _ _)).mono ?_; rintro e w1 ⟨Bt, rfl, hT, hge, hb⟩)
  rw [World.size_alloc] at hge
  have hb0 := below_alloc (Below.refl W.heap.size W) (.cells #[.int .i64 0] 32)
  have hbw : Below W.heap.size W w1 := hb0.trans (hb.mono (by simp))
  have bO : Boxed w1 W.heap.size 32 (.int .i64 0) := (hb.block _ (by simp)).trans HO.out
  have lB := bO.lt
  have hS : AllS W A0 c0 hd A1 c1 rows Bt w1 := ⟨hT, hbw⟩
  refine wpIn_rangeFunc_ownG rfl (by omega) (gf := 103) (lb := #[.pointer (some ⟨Bt, 0, none⟩)]) rfl trivial (enters_of Try.func103 (by kernel_rfl) rfl)
    (all_stops W W.heap.size A0 c0 hd A1 c1 rows Bt 3 HR.out.1 hc0 HR.out.2 hl (by omega) w1 hS (by omega) lB)
    (fun {A B C} h k => h.trans k)
    (fun W' l o o' hl h1 h2 h3 => KpC.put (w := w1) hbw.size W' l o o' hl h1 h2 h3)
    (Below.refl _ _) (fun _ => rfl)
    (fun pre W' => Boxed W' W.heap.size 32 (.int .i64 0) ∧ Below W.heap.size W W' ∧ ∀ c ∈ pre, ¬ 1000 < c.size)
    (fun c pre W' => c = Code.ret ∧ Boxed W' W.heap.size 32 (.int .i64 7) ∧ Below W.heap.size W W' ∧ ∃ c ∈ pre, 1000 < c.size)
    (OwnFrom.and (Own.from (boxed_own W.heap.size 32 (fun _ => .int .i64 0)) _) (OwnFrom.and (ownFrom_below (Nat.le_refl _) (by omega)) (fun _ _ _ _ hs _ _ => hs)))
    (fun c => OwnFrom.and (fun _ _ _ _ hs _ _ => hs) (OwnFrom.and (Own.from (boxed_own W.heap.size 32 (fun _ => .int .i64 7)) _) (OwnFrom.and (ownFrom_below (Nat.le_refl _) (by omega)) (fun _ _ _ _ hs _ _ => hs))))
    ⟨bO, hbw, by simp⟩
    (fun x => { tmps := #[.pointer (some ⟨tb, 0, none⟩), .pointer (some ⟨W.heap.size, 0, none⟩), .string x, .pointer (some ⟨tb, 0, none⟩), .slice A0 hd.length c0, .int .i64 hd.length, .bool false, .bool false, .pointer (some ⟨tb, 1, none⟩), .slice A1 rows.length c1, .int .i64 rows.length, .bool false, .bool false, .agg #[.slice A0 hd.length c0, .slice A1 rows.length c1],
      .func (.func 103) #[] #[.pointer (some ⟨Bt, 0, none⟩)], .string x, undef, undef, undef, undef, undef, undef, undef], defers := [] }) ?assign ?body ?done ?stop
  case assign =>
    intro l x W' K hK
    gi_wp2
    exact hK
  case body =>
    rintro l pre x W' ⟨hv, hB, hall⟩ hlt
    have hc := hv.cell
    have hf := hv.frozen
    have HB7 := Aside0.mk (hv.set (.int .i64 7))
    have HALL := Aside0.mk hall
    have HV := Aside0.mk hv
    clear hall ha0 ha1 hf0 hf1 hv hT bO
    by_cases hx : 1000 < x.size
    · have hxI : (1000 : Int) < (x.size : Int) := by omega
      gi_wp2
      refine ⟨(KeepsOthers.setCell _ _ _).from _, rfl, HB7.out, hB.setCell (by simp) _, x, by simp, hx⟩
    · have hxI : ¬ (1000 : Int) < (x.size : Int) := by omega
      gi_wp2
      refine ⟨KeepsFrom.refl _ _, KpC.below (Below.refl _ _) (Nat.le_of_lt (lt_of_block HV.out)) , HV.out, hB, ?_⟩
      intro c hc2
      rcases List.mem_append.1 hc2 with h | h
      · exact Nat.le_of_not_lt (HALL.out c h)
      · rw [List.mem_singleton.1 h]; exact Nat.le_of_not_lt hx
  case done =>
    rintro D ys W' hD rfl ⟨hv, hB, hall⟩ hK
    have hTB := H.out.below hB
    have ht0 := blk_cell hTB.t 0
    have ht1 := blk_cell hTB.t 1
    have hg0 := blk_frozen hTB.t 0
    have hg1 := blk_frozen hTB.t 1
    have hc := hv.cell
    have hf := hv.frozen
    have hTr0 := Kd.C_below H.out.r0 hTB.lo
    have hTr1 := Kd.C_below H.out.r1 hTB.lo
    have HT2 := Aside0.mk (And.intro hTr0 hTr1)
    have hany : (seqR hd rows).any (fun c => decide (1000 < c.size)) = false := by
      rw [List.any_eq_false]; intro c hc3; simpa using hall c hc3
    have HRS := Aside0.mk (show (if totalR hd rows ≤ 40000 then 0 else 7) = r by rw [← HRR.out, hany]; rfl)
    have HV := Aside0.mk hv
    have HK := Aside0.mk hK
    have HBB := Aside0.mk hB
    clear HRR hany hall ha0 ha1 hf0 hf1 hT bO hTB hTr0 hTr1 hK hv hB
    obtain ⟨q, hq⟩ : ∃ q, Aside0 (totalR hd rows = q) := ⟨_, ⟨rfl⟩⟩
    rw [hq.out] at HRS
    by_cases h4 : q ≤ 40000
    all_goals (
      gi_wp2_with (first
        | (refine ⟨trivial, ?_⟩; gi_at_call 97; refine (callsIn_wide.2 (total_calls A0 c0 hd A1 c1 rows _ HT2.out.1 hc0 HT2.out.2 hl)).mono ?_; rintro e w2 ⟨rfl, hb2⟩; rw [hq.out]; have hv2 : Boxed w2 W.heap.size 32 (.int .i64 0) := (hb2.block _ HV.out.lt).trans HV.out; have hc2 := hv2.cell; have hf2 := hv2.frozen; have HV2 := Aside0.mk hv2; clear hv2; have HB2 := Aside0.mk hb2; clear hb2)
        | (refine ⟨trivial, ?_⟩; gi_at_call 90; refine (callsIn_wide.2 (unless_calls _ _ _)).mono ?_; rintro e w3 ⟨rfl, ⟨nd, rfl⟩⟩))
      have hK3 : (w2.drewN nd).heap[D]? = some (.deferred (some [])) := (HB2.out.block _ (lt_of_block HK.out)).trans HK.out
      have hv3 : Boxed (w2.drewN nd) W.heap.size 32 (.int .i64 0) := HV2.out
      have hB3 : Below W.heap.size W (w2.drewN nd) := pw_below_drewN (HBB.out.trans (HB2.out.mono HBB.out.size)) nd
      refine fin4 W D _ _ _ (by omega) ((Below.heap_setCell _ _ _ _ (by show D ≠ W.heap.size; omega)).trans hK3) (hv3.set _) (hB3.setCell (by simp) _) _ rfl (by rfl) ?_
      rw [← HRS.out]
      first | rw [if_pos h4] | rw [if_neg (by omega)])
  case stop =>
    rintro D c pre W' hD hpre ⟨rfl, hv, hB, hex⟩ hK
    have HRS := Aside0.mk (show 7 = r by rw [← HRR.out, if_pos]; rw [List.any_eq_true]; obtain ⟨c, h1, h2⟩ := hex; exact ⟨c, hpre.subset h1, by simpa using h2⟩)
    gi_wp2
    exact fin4 W D 7 _ _ (by omega) hK hv hB _ rfl (by rfl) HRS.out
end
end Go.Proofs.Ytaolakknkhggnaa.X
end
section
namespace Go.Proofs.Ytaolakknkhggnaa.X
open Go.RowKit Go.Maps Go.Shelf Go.Proofs.YtaolakknkhggnaaW.PrintWords Go.Proofs.YtaolakknkhggnaaW.PrintLast
set_option linter.unusedVariables false
def okT (hd : List ByteArray) (rows : List (List ByteArray)) : Bool := decide (hd.length ≤ 100000) && decide (rows.length ≤ 100000) && hd.all fun s => decide (s.size ≤ maxLen)
def ckR (hd : List ByteArray) (rows : List (List ByteArray)) : Nat → Int
  | 0 => if hd.length = 0 then 8 else 0
  | 1 => if wideR rows hd.length = true then 9 else 0
  | 2 => if hd.Nodup then 0 else 10
  | 3 => largeR hd rows
  | _ => 0
def checkT (hd : List ByteArray) (rows : List (List ByteArray)) : Int := if ckR hd rows 0 ≠ 0 then ckR hd rows 0 else if ckR hd rows 1 ≠ 0 then ckR hd rows 1 else if ckR hd rows 2 ≠ 0 then ckR hd rows 2 else ckR hd rows 3
theorem checkT_at {hd : List ByteArray} {rows : List (List ByteArray)} {i : Nat} (hi : i < 4) (h : ∀ j, j < i → ckR hd rows j = 0) (hn : ckR hd rows i ≠ 0) : checkT hd rows = ckR hd rows i := by
  unfold checkT
  rcases i with _ | _ | _ | _ | i
  · rw [if_pos hn]
  · rw [if_neg (by rw [h 0 (by omega)]; simp), if_pos hn]
  · rw [if_neg (by rw [h 0 (by omega)]; simp), if_neg (by rw [h 1 (by omega)]; simp), if_pos hn]
  · rw [if_neg (by rw [h 0 (by omega)]; simp), if_neg (by rw [h 1 (by omega)]; simp), if_neg (by rw [h 2 (by omega)]; simp)]
  · omega
theorem checkT_none {hd : List ByteArray} {rows : List (List ByteArray)} (h : ∀ j, j < 4 → ckR hd rows j = 0) : checkT hd rows = 0 := by
  unfold checkT
  rw [if_neg (by rw [h 0 (by omega)]; simp), if_neg (by rw [h 1 (by omega)]; simp), if_neg (by rw [h 2 (by omega)]; simp), h 3 (by omega)]
def ckF (i : Nat) : Nat := match i with | 0 => 89 | 1 => 91 | 2 => 94 | _ => 95
def ckV (tb i : Nat) : Value := .func (.func (ckF i)) #[] #[.pointer (some ⟨tb, 0, none⟩)]
theorem ckR_cell {W : World} {g tb : Nat} {t : TypeId} (h : W.heap[g]? = some (.cells #[ckV tb 0, ckV tb 1, ckV tb 2, ckV tb 3] t (0, 0))) {i : Nat} (hi : i < 4) : W.cell? ⟨g, i, none⟩ = some (ckV tb i) := by
  rw [blk_cell h i]
  rcases i with _ | _ | _ | _ | i
  · rfl
  · rfl
  · rfl
  · rfl
  · omega
theorem ck_calls (w0 : World) (A0 : Option Addr) (c0 : Nat) (hd : List ByteArray) (A1 : Option Addr) (c1 : Nat) (rows : List (List ByteArray)) (tb : Nat) (W : World) (h : TAt w0 A0 c0 hd A1 c1 rows tb W) (hok : okT hd rows = true) (i : Nat) (hi : i < 4) :
    Calls Try.prog (ckF i) #[.pointer (some ⟨tb, 0, none⟩)] W fun e w' => e = .returned (.int .i64 (ckR hd rows i)) ∧ Below W.heap.size W w' := by
  simp only [okT, Bool.and_eq_true, decide_eq_true_eq, List.all_eq_true] at hok
  obtain ⟨⟨h1, h2⟩, h3⟩ := hok
  rcases i with _ | _ | _ | _ | i
  · exact check1_calls w0 A0 c0 hd A1 c1 rows tb W h
  · exact check2_calls w0 A0 c0 hd A1 c1 rows tb W h h2
  · exact check3_calls w0 A0 c0 hd A1 c1 rows tb W h h1 h3
  · exact check4_calls w0 A0 c0 hd A1 c1 rows tb W h h2 h1
  · omega
set_option maxRecDepth 100000 in
set_option maxHeartbeats 2000000 in
theorem check_calls (A0 : Option Addr) (c0 : Nat) (hd : List ByteArray) (A1 : Option Addr) (c1 : Nat) (rows : List (List ByteArray)) (w : World) (hr0 : Kd.C Kd.string w A0 hd.length hd) (hc0 : hd.length ≤ c0) (hr1 : Kd.C (Kd.slice 9 Kd.string) w A1 rows.length rows) (hok : okT hd rows = true) :
    Calls Try.prog 81 #[.agg #[.slice A0 hd.length c0, .slice A1 rows.length c1]] w fun e w' => e = .returned (.int .i64 (checkT hd rows)) ∧ Below w.heap.size w w' := by
  have hmf : ∀ (fn : Fn) (first cap : Array Value) (w : World), (Instr.makeFunc fn first cap).run Try.prog w = .ok (.func fn first cap) w := fun _ _ _ _ => rfl
  obtain ⟨r, hr⟩ : ∃ r : Int, Aside0 (checkT hd rows = r) := ⟨_, ⟨rfl⟩⟩
  rw [hr.out]
  have HR := Aside0.mk (And.intro hr0 hr1)
  clear hr0 hr1
  go_enter Try.func81, Try.ntmps81
  go_wp2
  go_loopw [12] (fun vi wr => ∃ i : Nat, vi = .int .i64 i ∧ i ≤ 4 ∧ Aside0 (∀ j, j < i → ckR hd rows j = 0) ∧ Aside0 (TAt w A0 c0 hd A1 c1 rows w.heap.size wr) ∧
      Aside0 (wr.heap[w.heap.size + 1]? = some (.cells #[ckV w.heap.size 0, ckV w.heap.size 1, ckV w.heap.size 2, ckV w.heap.size 3] 87 (0, 0))))
    (fun vi _ => 4 - (intOf vi).toNat)
  case atStart =>
    refine ⟨0, rfl, by omega, ⟨fun j hj => by omega⟩, ⟨⟨?_, ?_, HR.out.1, hc0, HR.out.2⟩⟩, ⟨?_⟩⟩
    · exact ((below_alloc (Below.refl _ (w.alloc _)) _).block _ (by simp)).trans (blk_new w _)
    · exact below_alloc (below_alloc (Below.refl _ _) _) _
    · have h := blk_new (w.alloc (.cells #[.slice A0 hd.length c0, .slice A1 rows.length c1] 25 (0, 0))) (.cells #[ckV w.heap.size 0, ckV w.heap.size 1, ckV w.heap.size 2, ckV w.heap.size 3] 87 (0, 0))
      rw [World.size_alloc] at h
      exact h
  case round =>
    obtain ⟨i, rfl, hi, HZ, HT, HC⟩ := hrel
    have h5 : i = 0 ∨ i = 1 ∨ i = 2 ∨ i = 3 ∨ i = 4 := by omega
    rcases h5 with rfl | rfl | rfl | rfl | rfl
    · -- 0
      have HK := Aside0.mk (ck_calls w A0 c0 hd A1 c1 rows w.heap.size wr HT.out hok 0 (by omega))
      have hcc : wr.cell? ⟨w.heap.size + 1, 0, none⟩ = some (.func (.func 89) #[] #[.pointer (some ⟨w.heap.size, 0, none⟩)]) := ckR_cell HC.out (by omega)
      obtain ⟨q, hq⟩ : ∃ q, Aside0 (ckR hd rows 0 = q) := ⟨_, ⟨rfl⟩⟩
      by_cases hz : q = 0
      · subst hz
        have HZ2 : Aside0 (∀ j, j < 1 → ckR hd rows j = 0) := ⟨fun j hj => by
          rcases Nat.lt_or_ge j 0 with h | h
          · exact HZ.out j h
          · rw [show j = 0 by omega]; exact hq.out⟩
        clear HZ
        go_wp2_with (go_at_call 89; refine HK.out.mono ?_; rintro e w1 ⟨rfl, hb⟩; rw [hq.out]; have HT1 := Aside0.mk (HT.out.below hb); have HC1 := Aside0.mk ((hb.block _ (lt_of_block HC.out)).trans HC.out); clear hb)
        go_roundw
        case rel => exact ⟨1, by first | rfl | go_num, by omega, HZ2, HT1, HC1⟩
        case measure => simp [intOf]
      · have HE := Aside0.mk (checkT_at (hd := hd) (rows := rows) (i := 0) (by omega) HZ.out (by rw [hq.out]; exact hz))
        go_wp2_with (go_at_call 89; refine HK.out.mono ?_; rintro e w1 ⟨rfl, hb⟩; rw [hq.out]; have HT1 := Aside0.mk (HT.out.below hb); clear hb)
        go_ret
        exact ⟨by rw [← hr.out, HE.out, hq.out]; rfl, HT1.out.lo⟩
    · -- 1
      have HK := Aside0.mk (ck_calls w A0 c0 hd A1 c1 rows w.heap.size wr HT.out hok 1 (by omega))
      have hcc : wr.cell? ⟨w.heap.size + 1, 1, none⟩ = some (.func (.func 91) #[] #[.pointer (some ⟨w.heap.size, 0, none⟩)]) := ckR_cell HC.out (by omega)
      obtain ⟨q, hq⟩ : ∃ q, Aside0 (ckR hd rows 1 = q) := ⟨_, ⟨rfl⟩⟩
      by_cases hz : q = 0
      · subst hz
        have HZ2 : Aside0 (∀ j, j < 2 → ckR hd rows j = 0) := ⟨fun j hj => by
          rcases Nat.lt_or_ge j 1 with h | h
          · exact HZ.out j h
          · rw [show j = 1 by omega]; exact hq.out⟩
        clear HZ
        go_wp2_with (go_at_call 91; refine HK.out.mono ?_; rintro e w1 ⟨rfl, hb⟩; rw [hq.out]; have HT1 := Aside0.mk (HT.out.below hb); have HC1 := Aside0.mk ((hb.block _ (lt_of_block HC.out)).trans HC.out); clear hb)
        go_roundw
        case rel => exact ⟨2, by first | rfl | go_num, by omega, HZ2, HT1, HC1⟩
        case measure => simp [intOf]
      · have HE := Aside0.mk (checkT_at (hd := hd) (rows := rows) (i := 1) (by omega) HZ.out (by rw [hq.out]; exact hz))
        go_wp2_with (go_at_call 91; refine HK.out.mono ?_; rintro e w1 ⟨rfl, hb⟩; rw [hq.out]; have HT1 := Aside0.mk (HT.out.below hb); clear hb)
        go_ret
        exact ⟨by rw [← hr.out, HE.out, hq.out]; rfl, HT1.out.lo⟩
    · -- 2
      have HK := Aside0.mk (ck_calls w A0 c0 hd A1 c1 rows w.heap.size wr HT.out hok 2 (by omega))
      have hcc : wr.cell? ⟨w.heap.size + 1, 2, none⟩ = some (.func (.func 94) #[] #[.pointer (some ⟨w.heap.size, 0, none⟩)]) := ckR_cell HC.out (by omega)
      obtain ⟨q, hq⟩ : ∃ q, Aside0 (ckR hd rows 2 = q) := ⟨_, ⟨rfl⟩⟩
      by_cases hz : q = 0
      · subst hz
        have HZ2 : Aside0 (∀ j, j < 3 → ckR hd rows j = 0) := ⟨fun j hj => by
          rcases Nat.lt_or_ge j 2 with h | h
          · exact HZ.out j h
          · rw [show j = 2 by omega]; exact hq.out⟩
        clear HZ
        go_wp2_with (go_at_call 94; refine HK.out.mono ?_; rintro e w1 ⟨rfl, hb⟩; rw [hq.out]; have HT1 := Aside0.mk (HT.out.below hb); have HC1 := Aside0.mk ((hb.block _ (lt_of_block HC.out)).trans HC.out); clear hb)
        go_roundw
        case rel => exact ⟨3, by first | rfl | go_num, by omega, HZ2, HT1, HC1⟩
        case measure => simp [intOf]
      · have HE := Aside0.mk (checkT_at (hd := hd) (rows := rows) (i := 2) (by omega) HZ.out (by rw [hq.out]; exact hz))
        go_wp2_with (go_at_call 94; refine HK.out.mono ?_; rintro e w1 ⟨rfl, hb⟩; rw [hq.out]; have HT1 := Aside0.mk (HT.out.below hb); clear hb)
        go_ret
        exact ⟨by rw [← hr.out, HE.out, hq.out]; rfl, HT1.out.lo⟩
    · -- 3
      have HK := Aside0.mk (ck_calls w A0 c0 hd A1 c1 rows w.heap.size wr HT.out hok 3 (by omega))
      have hcc : wr.cell? ⟨w.heap.size + 1, 3, none⟩ = some (.func (.func 95) #[] #[.pointer (some ⟨w.heap.size, 0, none⟩)]) := ckR_cell HC.out (by omega)
      obtain ⟨q, hq⟩ : ∃ q, Aside0 (ckR hd rows 3 = q) := ⟨_, ⟨rfl⟩⟩
      by_cases hz : q = 0
      · subst hz
        have HZ2 : Aside0 (∀ j, j < 4 → ckR hd rows j = 0) := ⟨fun j hj => by
          rcases Nat.lt_or_ge j 3 with h | h
          · exact HZ.out j h
          · rw [show j = 3 by omega]; exact hq.out⟩
        clear HZ
        go_wp2_with (go_at_call 95; refine HK.out.mono ?_; rintro e w1 ⟨rfl, hb⟩; rw [hq.out]; have HT1 := Aside0.mk (HT.out.below hb); have HC1 := Aside0.mk ((hb.block _ (lt_of_block HC.out)).trans HC.out); clear hb)
        go_roundw
        case rel => exact ⟨4, by first | rfl | go_num, by omega, HZ2, HT1, HC1⟩
        case measure => simp [intOf]
      · have HE := Aside0.mk (checkT_at (hd := hd) (rows := rows) (i := 3) (by omega) HZ.out (by rw [hq.out]; exact hz))
        go_wp2_with (go_at_call 95; refine HK.out.mono ?_; rintro e w1 ⟨rfl, hb⟩; rw [hq.out]; have HT1 := Aside0.mk (HT.out.below hb); clear hb)
        go_ret
        exact ⟨by rw [← hr.out, HE.out, hq.out]; rfl, HT1.out.lo⟩
    · have HE := Aside0.mk (checkT_none HZ.out)
      go_wp2
      go_ret
      exact ⟨by rw [← hr.out, HE.out]; rfl, HT.out.lo⟩
end Go.Proofs.Ytaolakknkhggnaa.X
end
section
namespace Go.Proofs.Ytaolakknkhggnaa.X
open Go.RowKit Go.Maps Go.Shelf Go.Proofs.YtaolakknkhggnaaW.PrintWords Go.Proofs.YtaolakknkhggnaaW.PrintLast
set_option linter.unusedVariables false
theorem rd_eq {a b : List ByteArray} (hl : a.length = b.length) (h : ∀ j, j < a.length → rdOf ByteArray.empty a (j : Int) = rdOf ByteArray.empty b (j : Int)) : a = b := by
  refine List.ext_getElem hl fun i h1 h2 => ?_
  have := h i h1
  unfold rdOf at this
  rw [show ((i : Int)).toNat = i from rfl, List.getD_eq_getElem?_getD, List.getD_eq_getElem?_getD, List.getElem?_eq_getElem h1, List.getElem?_eq_getElem h2] at this
  exact this
theorem str_eq {x y : ByteArray} : x.toList = y.toList ↔ x = y := by
  rw [ByteArray.toList_eq, ByteArray.toList_eq]
  exact ⟨fun h => ByteArray.ext (Array.toList_inj.mp h), fun h => by rw [h]⟩
theorem rows_eq {a b : List (List ByteArray)} (hl : a.length = b.length) (h : ∀ j, j < a.length → a.getD j [] = b.getD j []) : a = b := by
  refine List.ext_getElem hl fun i h1 h2 => ?_
  have := h i h1
  rw [List.getD_eq_getElem?_getD, List.getD_eq_getElem?_getD, List.getElem?_eq_getElem h1, List.getElem?_eq_getElem h2] at this
  exact this
end Go.Proofs.Ytaolakknkhggnaa.X
end
section
namespace Go.Proofs.Ytaolakknkhggnaa.X
open Go.RowKit Go.Proofs.YtaolakknkhggnaaW.PrintWords
set_option linter.unusedVariables false
abbrev rdB (l : List ByteArray) (i : Int) : ByteArray := rdOf ByteArray.empty l i
/-- Small tables. -/
structure Sm (hd : List ByteArray) (rows : List (List ByteArray)) : Prop where
  h : hd.length ≤ 100
  r : rows.length ≤ 100
  w : ∀ j, j < rows.length → (rows.getD j []).length ≤ 100
theorem row_l0 (a b : List ByteArray) (hl : a.length = b.length) (hb : a.length ≤ 1000) : ∀ (d k i : Nat), i + d = a.length → d < k → (∀ j, j < i → rdB a (j : Int) = rdB b (j : Int)) → tartanref03_Row.l0 k a b (i : Nat) = some (decide (a = b)) := by
  intro d
  induction d with
  | zero =>
    intro k i hi hk h
    obtain ⟨k, rfl⟩ : ∃ m, k = m + 1 := ⟨k - 1, by omega⟩
    simp only [tartanref03_Row.l0]
    rw [if_neg (by omega), decide_eq_true (rd_eq hl (fun j hj => h j (by omega)))]
  | succ d ih =>
    intro k i hi hk h
    obtain ⟨k, rfl⟩ : ∃ m, k = m + 1 := ⟨k - 1, by omega⟩
    simp only [tartanref03_Row.l0]
    rw [if_pos (by omega), if_pos (by omega), if_pos (by omega), wrap_upF _ (by omega)]
    by_cases e : rdB a (i : Int) = rdB b (i : Int)
    · rw [if_pos (str_eq.2 e)]
      refine ih k (i + 1) (by omega) (by omega) (fun j hj => ?_)
      rcases Nat.lt_or_ge j i with h1 | h1
      · exact h j h1
      · obtain rfl : j = i := by omega
        exact e
    · rw [if_neg (fun h2 => e (str_eq.1 h2)), decide_eq_false (fun h2 => e (by rw [h2]))]
theorem row_some (a b : List ByteArray) (ha : a.length ≤ 1000) {k : Nat} (hk : 1001 ≤ k) : tartanref03_Row.f k a b = some (decide (a = b)) := by
  unfold tartanref03_Row.f
  by_cases hl : a.length = b.length
  · rw [if_pos (by omega)]
    exact row_l0 a b hl ha a.length k 0 (by omega) (by omega) (fun j hj => by omega)
  · rw [if_neg (by omega), decide_eq_false (fun e => hl (by rw [e]))]
theorem same_l0 (a b : List (List ByteArray)) (hl : a.length = b.length) (hb : a.length ≤ 1000) (hw : ∀ j, j < a.length → (a.getD j []).length ≤ 1000) : ∀ (d k i : Nat), i + d = a.length → d + 1001 < k → (∀ j, j < i → a.getD j [] = b.getD j []) → tartanref03_Same.l0 k a b (i : Nat) = some (decide (a = b)) := by
  intro d
  induction d with
  | zero =>
    intro k i hi hk h
    obtain ⟨k, rfl⟩ : ∃ m, k = m + 1 := ⟨k - 1, by omega⟩
    simp only [tartanref03_Same.l0]
    rw [if_neg (by omega), decide_eq_true (rows_eq hl (fun j hj => h j (by omega)))]
  | succ d ih =>
    intro k i hi hk h
    obtain ⟨k, rfl⟩ : ∃ m, k = m + 1 := ⟨k - 1, by omega⟩
    have hwi := hw i (by omega)
    simp only [tartanref03_Same.l0]
    rw [if_pos (by omega), if_pos (by omega), if_pos (by omega), wrap_upF _ (by omega), rdL_get, rdL_get, row_some _ _ hwi (by omega), Option.bind_some]
    by_cases e : a.getD i [] = b.getD i []
    · rw [decide_eq_true e, if_pos rfl]
      refine ih k (i + 1) (by omega) (by omega) (fun j hj => ?_)
      rcases Nat.lt_or_ge j i with h1 | h1
      · exact h j h1
      · obtain rfl : j = i := by omega
        exact e
    · rw [decide_eq_false e, if_neg (by decide), decide_eq_false (fun h2 => e (by rw [h2]))]
theorem same_some (a b : List (List ByteArray)) (ha : a.length ≤ 1000) (hw : ∀ j, j < a.length → (a.getD j []).length ≤ 1000) {k : Nat} (hk : 5000 ≤ k) : tartanref03_Same.f k a b = some (decide (a = b)) := by
  unfold tartanref03_Same.f
  by_cases hl : a.length = b.length
  · rw [if_pos (by omega)]
    exact same_l0 a b hl ha hw a.length k 0 (by omega) (by omega) (fun j hj => by omega)
  · rw [if_neg (by omega), decide_eq_false (fun e => hl (by rw [e]))]
theorem tsame_some (hd : List ByteArray) (rows : List (List ByteArray)) (hd' : List ByteArray) (rows' : List (List ByteArray)) (s : Sm hd rows) {k : Nat} (hk : 5000 ≤ k) : tartanref04_Same.f k hd rows hd' rows' = some (decide (hd = hd') && decide (rows = rows')) := by
  have h1 := s.h
  have h2 := s.r
  unfold tartanref04_Same.f
  rw [row_some _ _ (by omega) (by omega), Option.bind_some, same_some _ _ (by omega) (fun j hj => by have := s.w j hj; omega) hk, Option.bind_some]
  cases decide (hd = hd') <;> simp
theorem tot_l2 (hd : List ByteArray) (rows : List (List ByteArray)) (P : List ByteArray) (i : Nat) (hi : i < rows.length) (F : Nat) (R : Option Int) (hw : (rows.getD i []).length ≤ 100) (hi2 : i ≤ 1000)
    (H : ∀ k', F ≤ k' → tartanref04_Total.l1 k' (sumR (P ++ rows.getD i [])) ((i + 1 : Nat) : Int) hd rows = R) : ∀ (d k j : Nat), j + d = (rows.getD i []).length → d + F < k → tartanref04_Total.l2 k (sumR (P ++ (rows.getD i []).take j)) (i : Nat) (j : Nat) hd rows = R := by
  intro d
  induction d with
  | zero =>
    intro k j hj hk
    obtain ⟨k, rfl⟩ : ∃ m, k = m + 1 := ⟨k - 1, by omega⟩
    simp only [tartanref04_Total.l2]
    rw [if_pos (by omega), if_pos (by omega), rdL_get, if_neg (by omega), wrap_upF _ (by omega), List.take_of_length_le (by omega)]
    exact H k (by omega)
  | succ d ih =>
    intro k j hj hk
    obtain ⟨k, rfl⟩ : ∃ m, k = m + 1 := ⟨k - 1, by omega⟩
    simp only [tartanref04_Total.l2]
    rw [if_pos (by omega), if_pos (by omega), rdL_get, if_pos (by omega), if_pos (by omega), wrap_upF _ (by omega)]
    have := ih k (j + 1) (by omega) (by omega)
    rw [take_rdB (by omega), ← List.append_assoc, sumR_snoc] at this
    exact this
theorem tot_l1 (hd : List ByteArray) (rows : List (List ByteArray)) (s : Sm hd rows) : ∀ (d k i : Nat), i + d = rows.length → d * 102 < k → tartanref04_Total.l1 k (sumR (hd ++ (rows.take i).flatten)) (i : Nat) hd rows = some (totalR hd rows) := by
  have hr := s.r
  intro d
  induction d with
  | zero =>
    intro k i hi hk
    obtain ⟨k, rfl⟩ : ∃ m, k = m + 1 := ⟨k - 1, by omega⟩
    simp only [tartanref04_Total.l1]
    rw [if_neg (by omega), List.take_of_length_le (by omega)]
    rfl
  | succ d ih =>
    intro k i hi hk
    obtain ⟨k, rfl⟩ : ∃ m, k = m + 1 := ⟨k - 1, by omega⟩
    have hw := s.w i (by omega)
    simp only [tartanref04_Total.l1]
    rw [if_pos (by omega)]
    have := tot_l2 hd rows (hd ++ (rows.take i).flatten) i (by omega) (d * 102 + 1) (some (totalR hd rows)) hw (by omega) (fun k' hk' => ?_) (rows.getD i []).length k 0 (by omega) (by omega)
    · rw [List.take_zero, List.append_nil] at this
      exact this
    · rw [List.append_assoc, seq_next rows i (by omega)]
      exact ih k' (i + 1) (by omega) (by omega)
theorem tot_l0 (hd : List ByteArray) (rows : List (List ByteArray)) (s : Sm hd rows) : ∀ (d k i : Nat), i + d = hd.length → d + 10300 < k → tartanref04_Total.l0 k (sumR (hd.take i)) (i : Nat) hd rows = some (totalR hd rows) := by
  have hh := s.h
  have hr := s.r
  intro d
  induction d with
  | zero =>
    intro k i hi hk
    obtain ⟨k, rfl⟩ : ∃ m, k = m + 1 := ⟨k - 1, by omega⟩
    simp only [tartanref04_Total.l0]
    rw [if_neg (by omega), List.take_of_length_le (by omega)]
    have := tot_l1 hd rows s rows.length k 0 (by omega) (by omega)
    rw [List.take_zero, List.flatten_nil, List.append_nil] at this
    exact this
  | succ d ih =>
    intro k i hi hk
    obtain ⟨k, rfl⟩ : ∃ m, k = m + 1 := ⟨k - 1, by omega⟩
    simp only [tartanref04_Total.l0]
    rw [if_pos (by omega), if_pos (by omega), wrap_upF _ (by omega)]
    have := ih k (i + 1) (by omega) (by omega)
    rw [take_rdB (by omega), sumR_snoc] at this
    exact this
theorem tot_some (hd : List ByteArray) (rows : List (List ByteArray)) (s : Sm hd rows) {k : Nat} (hk : 20000 ≤ k) : tartanref04_Total.f k hd rows = some (totalR hd rows) := by
  have hh := s.h
  exact tot_l0 hd rows s hd.length k 0 (by omega) (by omega)
def FindAt (l : List ByteArray) (s : ByteArray) (r : Int) : Prop := (r = -1 ∧ ∀ j : Nat, j < l.length → rdB l (j : Int) ≠ s) ∨ ∃ i : Nat, r = i ∧ i < l.length ∧ rdB l (i : Int) = s ∧ ∀ j : Nat, j < i → rdB l (j : Int) ≠ s
theorem FindAt.uniq {l : List ByteArray} {s : ByteArray} {r q : Int} (h : FindAt l s r) (g : FindAt l s q) : r = q := by
  rcases h with ⟨rfl, h⟩ | ⟨i, rfl, hi, he, h⟩ <;> rcases g with ⟨rfl, g⟩ | ⟨j, rfl, hj, ge, g⟩
  · rfl
  · exact absurd ge (h j hj)
  · exact absurd he (g i hi)
  · rcases Nat.lt_trichotomy i j with hlt | rfl | hlt
    · exact absurd he (g i hlt)
    · rfl
    · exact absurd ge (h j hlt)
theorem rfind_l0 (l : List ByteArray) (rows : List (List ByteArray)) (s : ByteArray) (hl : l.length ≤ 1000) : ∀ (d k i : Nat), i + d = l.length → d < k → (∀ j : Nat, j < i → rdB l (j : Int) ≠ s) → ∃ r, FindAt l s r ∧ tartanref04_Find.l0 k s (i : Nat) l rows = some r := by
  intro d
  induction d with
  | zero =>
    intro k i hi hk h
    obtain ⟨k, rfl⟩ : ∃ m, k = m + 1 := ⟨k - 1, by omega⟩
    simp only [tartanref04_Find.l0]
    rw [if_neg (by omega)]
    exact ⟨-1, .inl ⟨rfl, fun j hj => h j (by omega)⟩, rfl⟩
  | succ d ih =>
    intro k i hi hk h
    obtain ⟨k, rfl⟩ : ∃ m, k = m + 1 := ⟨k - 1, by omega⟩
    simp only [tartanref04_Find.l0]
    rw [if_pos (by omega), if_pos (by omega), wrap_upF _ (by omega)]
    by_cases e : rdB l (i : Int) = s
    · rw [if_pos (str_eq.2 e)]
      exact ⟨i, .inr ⟨i, rfl, by omega, e, h⟩, rfl⟩
    · rw [if_neg (fun h2 => e (str_eq.1 h2))]
      refine ih k (i + 1) (by omega) (by omega) (fun j hj => ?_)
      rcases Nat.lt_or_ge j i with h1 | h1
      · exact h j h1
      · obtain rfl : j = i := by omega
        exact e
theorem rfind_some (l : List ByteArray) (rows : List (List ByteArray)) (s : ByteArray) (hl : l.length ≤ 1000) {k : Nat} (hk : 2000 ≤ k) : ∃ r, FindAt l s r ∧ tartanref04_Find.f k l rows s = some r :=
  rfind_l0 l rows s hl l.length k 0 (by omega) (by omega) (fun j hj => by omega)
def lg (l : List ByteArray) : Bool := l.any fun c => decide (1000 < c.size)
theorem lg_rd {l : List ByteArray} {i : Nat} (hi : i < l.length) : lg (l.drop i) = (decide (1000 < (rdB l (i : Int)).size) || lg (l.drop (i + 1))) := by
  rw [List.drop_eq_getElem_cons hi]
  show (decide (1000 < (l[i]).size) || _) = _
  unfold rdB rdOf
  rw [show ((i : Int)).toNat = i from rfl, List.getD_eq_getElem?_getD, List.getElem?_eq_getElem hi]
  rfl
theorem long_l0 (l : List ByteArray) (hl : l.length ≤ 1000) : ∀ (d k i : Nat), i + d = l.length → d < k → tartanref04_long.l0 k l (i : Nat) = some (lg (l.drop i)) := by
  intro d
  induction d with
  | zero =>
    intro k i hi hk
    obtain ⟨k, rfl⟩ : ∃ m, k = m + 1 := ⟨k - 1, by omega⟩
    simp only [tartanref04_long.l0]
    rw [if_neg (by omega), List.drop_eq_nil_of_le (by omega)]
    rfl
  | succ d ih =>
    intro k i hi hk
    obtain ⟨k, rfl⟩ : ∃ m, k = m + 1 := ⟨k - 1, by omega⟩
    simp only [tartanref04_long.l0]
    rw [if_pos (by omega), if_pos (by omega), wrap_upF _ (by omega), lg_rd (by omega)]
    by_cases e : ((rdB l (i : Int)).size : Int) > 1000
    · rw [if_pos e, decide_eq_true (by omega)]; rfl
    · rw [if_neg e, decide_eq_false (by omega), ih k (i + 1) (by omega) (by omega)]; rfl
theorem long_some (l : List ByteArray) (hl : l.length ≤ 1000) {k : Nat} (hk : 1001 ≤ k) : tartanref04_long.f k l = some (lg l) := by
  have := long_l0 l hl l.length k 0 (by omega) (by omega)
  rw [List.drop_zero] at this
  exact this
theorem any_row {rows : List (List ByteArray)} {i : Nat} (hi : i < rows.length) : (rows.drop i).any lg = (lg (rows.getD i []) || (rows.drop (i + 1)).any lg) := by
  rw [List.drop_eq_getElem_cons hi, List.any_cons, List.getD_eq_getElem?_getD, List.getElem?_eq_getElem hi]; rfl
theorem chk_l2 (hd : List ByteArray) (rows : List (List ByteArray)) (s : Sm hd rows) : ∀ (d k i : Nat) (f : Bool), i + d = rows.length → d + 20001 < k → tartanref04_Check.l2 k f (i : Nat) hd rows = some (if (f || (rows.drop i).any lg) = true then 7 else if totalR hd rows ≤ 40000 then 0 else 7) := by
  have hr := s.r
  intro d
  induction d with
  | zero =>
    intro k i f hi hk
    obtain ⟨k, rfl⟩ : ∃ m, k = m + 1 := ⟨k - 1, by omega⟩
    simp only [tartanref04_Check.l2]
    rw [if_neg (by omega), List.drop_eq_nil_of_le (by omega)]
    cases f with
    | true => rfl
    | false =>
      rw [if_neg (by decide), tot_some hd rows s (by omega), Option.bind_some]
      by_cases h : totalR hd rows ≤ 40000
      · rw [if_neg (by omega)]; simp [h]
      · rw [if_pos (by omega)]; simp [h]
  | succ d ih =>
    intro k i f hi hk
    obtain ⟨k, rfl⟩ : ∃ m, k = m + 1 := ⟨k - 1, by omega⟩
    have hw := s.w i (by omega)
    simp only [tartanref04_Check.l2]
    rw [if_pos (by omega), if_pos (by omega), rdL_get, long_some _ (by omega) (by omega), Option.bind_some, wrap_upF _ (by omega), any_row (by omega)]
    cases f with
    | true => rw [if_pos rfl, ih k (i + 1) true (by omega) (by omega)]; rfl
    | false => rw [if_neg (by decide), ih k (i + 1) _ (by omega) (by omega)]; rfl
theorem large_eq (hd : List ByteArray) (rows : List (List ByteArray)) : largeR hd rows = if 40 < hd.length ∨ 400 < rows.length then 7 else if (lg hd || rows.any lg) = true then 7 else if totalR hd rows ≤ 40000 then 0 else 7 := by
  unfold largeR
  have : (seqR hd rows).any (fun c => decide (1000 < c.size)) = (lg hd || rows.any lg) := by
    unfold seqR
    rw [List.flatten_cons, List.any_append, List.any_flatten]; rfl
  rw [this]
theorem first_nodup (l : List ByteArray) : l.Nodup ↔ ∀ i, i < l.length → ∀ j : Nat, j < i → rdB l (j : Int) ≠ rdB l (i : Int) := by
  have hg : ∀ i (h : i < l.length), rdB l (i : Int) = l[i] := fun i h => by
    unfold rdB rdOf
    rw [show ((i : Int)).toNat = i from rfl, List.getD_eq_getElem?_getD, List.getElem?_eq_getElem h]; rfl
  unfold List.Nodup
  rw [List.pairwise_iff_getElem]
  constructor
  · intro h i hi j hj
    rw [hg i hi, hg j (by omega)]
    exact h j i (by omega) hi hj
  · intro h i j hi hj hij
    have := h j hj i hij
    rw [hg i hi, hg j hj] at this
    exact this
theorem chk_l1 (hd : List ByteArray) (rows : List (List ByteArray)) (s : Sm hd rows) : ∀ (d k i : Nat), i + d = hd.length → d + 30000 < k → (∀ m, m < i → ∀ j : Nat, j < m → rdB hd (j : Int) ≠ rdB hd (m : Int)) → tartanref04_Check.l1 k (i : Nat) hd rows = some (if hd.Nodup then largeR hd rows else 10) := by
  have hh := s.h
  have hr := s.r
  intro d
  induction d with
  | zero =>
    intro k i hi hk h
    obtain ⟨k, rfl⟩ : ∃ m, k = m + 1 := ⟨k - 1, by omega⟩
    obtain ⟨k, rfl⟩ : ∃ m, k = m + 1 := ⟨k - 1, by omega⟩
    rw [if_pos ((first_nodup hd).2 (fun i' hi' => h i' (by omega))), large_eq]
    simp only [tartanref04_Check.l1]
    rw [if_neg (by omega)]
    have h2 := fun f => chk_l2 hd rows s rows.length k 0 f (by omega) (by omega)
    simp only [List.drop_zero] at h2
    by_cases h4 : 40 < hd.length
    · rw [if_pos (by omega), if_pos (.inl h4)]
      simp only [tartanref04_Check.j2]
      exact h2 true
    · rw [if_neg (by omega), if_neg (by omega), long_some _ (by omega) (by omega), Option.bind_some, if_neg (by omega)]
      simp only [tartanref04_Check.j2]
      exact h2 _
  | succ d ih =>
    intro k i hi hk h
    obtain ⟨k, rfl⟩ : ∃ m, k = m + 1 := ⟨k - 1, by omega⟩
    simp only [tartanref04_Check.l1]
    obtain ⟨r, hF, e⟩ := rfind_some hd rows (rdB hd (i : Int)) (by omega) (k := k) (by omega)
    rw [if_pos (by omega), if_pos (by omega), e, Option.bind_some, wrap_upF _ (by omega)]
    by_cases he : r = (i : Int)
    · rw [if_pos he]
      refine ih k (i + 1) (by omega) (by omega) (fun m hm j hj => ?_)
      rcases Nat.lt_or_ge m i with h1 | h1
      · exact h m h1 j hj
      · obtain rfl : m = i := by omega
        rcases hF with ⟨h3, _⟩ | ⟨q, hq, _, _, h5⟩
        · omega
        · exact h5 j (by omega)
    · rw [if_neg he, if_neg]
      intro hn
      have hn2 := (first_nodup hd).1 hn i (by omega)
      exact he (hF.uniq (.inr ⟨i, rfl, by omega, rfl, hn2⟩))
theorem wide_at {rows : List (List ByteArray)} {m i : Nat} (hi : i < rows.length) : wideR (rows.drop i) m = (decide ((rows.getD i []).length ≠ m) || wideR (rows.drop (i + 1)) m) := by
  unfold wideR
  rw [List.drop_eq_getElem_cons hi, List.any_cons, List.getD_eq_getElem?_getD, List.getElem?_eq_getElem hi]; rfl
theorem chk_l0 (hd : List ByteArray) (rows : List (List ByteArray)) (s : Sm hd rows) : ∀ (d k i : Nat), i + d = rows.length → d + 31000 < k → tartanref04_Check.l0 k (i : Nat) hd rows = some (if wideR (rows.drop i) hd.length = true then 9 else if hd.Nodup then largeR hd rows else 10) := by
  have hh := s.h
  have hr := s.r
  intro d
  induction d with
  | zero =>
    intro k i hi hk
    obtain ⟨k, rfl⟩ : ∃ m, k = m + 1 := ⟨k - 1, by omega⟩
    simp only [tartanref04_Check.l0]
    rw [if_neg (by omega), List.drop_eq_nil_of_le (by omega), if_neg (by simp [wideR])]
    exact chk_l1 hd rows s hd.length k 0 (by omega) (by omega) (fun m hm => by omega)
  | succ d ih =>
    intro k i hi hk
    obtain ⟨k, rfl⟩ : ∃ m, k = m + 1 := ⟨k - 1, by omega⟩
    simp only [tartanref04_Check.l0]
    rw [if_pos (by omega), if_pos (by omega), rdL_get, wrap_upF _ (by omega), wide_at (by omega)]
    by_cases e : (rows.getD i []).length = hd.length
    · rw [if_pos (by omega), ih k (i + 1) (by omega) (by omega), decide_eq_false (fun h => h e)]; rfl
    · rw [if_neg (by omega), decide_eq_true e]; rfl
theorem check_eq (hd : List ByteArray) (rows : List (List ByteArray)) : checkT hd rows = if hd.length = 0 then 8 else if wideR rows hd.length = true then 9 else if hd.Nodup then largeR hd rows else 10 := by
  unfold checkT ckR
  by_cases h1 : hd.length = 0
  · simp [h1]
  · by_cases h2 : wideR rows hd.length = true
    · simp [h1, h2]
    · by_cases h3 : hd.Nodup
      · simp [h1, h2, h3]
      · simp [h1, h2, h3]
theorem chk_some (hd : List ByteArray) (rows : List (List ByteArray)) (s : Sm hd rows) {k : Nat} (hk : 40000 ≤ k) : tartanref04_Check.f k hd rows = some (checkT hd rows) := by
  have hr := s.r
  rw [check_eq]
  unfold tartanref04_Check.f
  by_cases h : hd.length = 0
  · rw [if_pos (by omega), if_pos h]
  · rw [if_neg (by omega), if_neg h]
    have := chk_l0 hd rows s rows.length k 0 (by omega) (by omega)
    rw [List.drop_zero] at this
    exact this
end Go.Proofs.Ytaolakknkhggnaa.X
end
section
namespace Go.Proofs.Ytaolakknkhggnaa.X
open Go.RowKit Go.Maps Go.Shelf Go.Proofs.YtaolakknkhggnaaW.PrintWords Go.Proofs.YtaolakknkhggnaaW.PrintLast
set_option linter.unusedVariables false
theorem nil_ownsRow (w : World) (e : TypeId) : (w.alloc (.cells #[] e)).ownsRow w.heap.size e 1 (.slice (some ⟨w.heap.size, 0, none⟩) 0 0) 0 [] :=
  ⟨rfl, .inr ⟨w.heap.size, 0, #[], rfl, Nat.le_refl _, blk_new w _, Nat.le_refl _, Nat.zero_le _, rfl, rfl⟩⟩
theorem below_setCellsP {B g : Nat} (hg : B ≤ g) {a : World} : ∀ (vs : List Value) (o : Nat) (w : World), Below B a w → Below B a (w.setCells g o vs)
  | [], _, _, h => h
  | v :: r, o, w, h => by
    rw [World.setCells]
    exact below_setCellsP hg r (o + 1) _ (h.setCell (by show B ≤ g; exact hg) v)
theorem list_shift {α : Type} (A cs rest : List α) (x : α) (i n : Nat) (hi : i < n) (hn : cs.length = n) (hA : A.take i = cs.take i) (hl : i + 1 ≤ A.length) :
    ((((A.take (i + 1) ++ cs.drop i ++ rest).take i ++ [x]) ++ (A.take (i + 1) ++ cs.drop i ++ rest).drop (i + 1)).take (n + 1)) = cs.take i ++ x :: cs.drop i := by
  have h1 : (A.take (i + 1) ++ cs.drop i ++ rest).take i = cs.take i := by
    rw [List.append_assoc, List.take_append_of_le_length (by simp; omega), List.take_take, Nat.min_eq_left (by omega), hA]
  have h2 : (A.take (i + 1) ++ cs.drop i ++ rest).drop (i + 1) = cs.drop i ++ rest := by
    have h0 : (A.take (i + 1)).length = i + 1 := by simp; omega
    rw [List.append_assoc, List.drop_append, h0, Nat.sub_self, List.drop_zero, List.drop_of_length_le (by omega), List.nil_append]
  rw [h1, h2]
  have h3 : cs.take i ++ [x] ++ (cs.drop i ++ rest) = (cs.take i ++ x :: cs.drop i) ++ rest := by simp
  rw [h3]
  have h4 : (cs.take i ++ x :: cs.drop i).length = n + 1 := by simp; omega
  rw [← h4, List.take_left]
theorem list_grow {α : Type} (R cs rest : List α) (x : α) (i n : Nat) (hi : i < n) (hn : cs.length = n) (hR : R.take i = cs.take i) (hl : n + 1 ≤ R.length) :
    (((R.take i ++ [x] ++ R.drop (i + 1)).take (i + 1) ++ cs.drop i ++ rest).take (n + 1)) = cs.take i ++ x :: cs.drop i := by
  have h1 : (R.take i ++ [x] ++ R.drop (i + 1)).take (i + 1) = cs.take i ++ [x] := by
    have : (R.take i ++ [x]).length = i + 1 := by simp; omega
    conv => lhs; rw [← this]
    rw [List.take_left, hR]
  rw [h1]
  have h3 : cs.take i ++ [x] ++ cs.drop i ++ rest = (cs.take i ++ x :: cs.drop i) ++ rest := by simp
  rw [h3]
  have h4 : (cs.take i ++ x :: cs.drop i).length = n + 1 := by simp; omega
  rw [← h4, List.take_left]
theorem own_shift {W : World} {base g n cap i : Nat} {e : TypeId} {cur : Array Value} {cs : List Value} (x : Value) (hw : W.heap[g]? = some (.cells cur e (0, 0))) (hb : base ≤ g) (hc : n + 1 ≤ cap) (hm : cap ≤ maxLen) (hs : cur.size = cap) (ht : cur.toList.take n = cs) (hn : cs.length = n) (hi : i < n) :
    ((W.setCells g (0 + (i + 1)) (cs.drop i)).setCells g (0 + i) [x]).ownsRow base e 1 (.slice (some ⟨g, 0, none⟩) (n + 1) cap) (n + 1) (cs.take i ++ x :: cs.drop i) := by
  rw [Nat.zero_add, Nat.zero_add]
  obtain ⟨cur1, h1, s1, t1⟩ := setCells_row (cs.drop i) (i + 1) W cur hw (by simp; omega)
  obtain ⟨cur2, h2, s2, t2⟩ := setCells_row [x] i _ cur1 h1 (by simp; omega)
  refine ⟨by simp; omega, .inr ⟨g, cap, cur2, rfl, hb, h2, hc, hm, by omega, ?_⟩⟩
  rw [t2, t1, Nat.mul_one]
  exact list_shift cur.toList cs _ x i n hi hn (by rw [← ht, List.take_take, Nat.min_eq_left (by omega)]) (by simp; omega)
theorem own_grow {W : World} {g n cap i : Nat} {e : TypeId} {cs : List Value} {ROW : Array Value} (x : Value) (hw : W.heap[g]? = some (.cells ROW e (0, 0))) (hc : n + 1 ≤ cap) (hm : cap ≤ maxLen) (hs : ROW.size = cap) (hR : ROW.toList.take i = cs.take i) (hn : cs.length = n) (hi : i < n) :
    ((W.setCells g i [x]).drew.setCells g (i + 1) (cs.drop i)).ownsRow g e 1 (.slice (some ⟨g, 0, none⟩) (n + 1) cap) (n + 1) (cs.take i ++ x :: cs.drop i) := by
  obtain ⟨cur1, h1, s1, t1⟩ := setCells_row [x] i W ROW hw (by simp; omega)
  obtain ⟨cur2, h2, s2, t2⟩ := setCells_row (cs.drop i) (i + 1) (W.setCells g i [x]).drew cur1 h1 (by simp; omega)
  refine ⟨by simp; omega, .inr ⟨g, cap, cur2, rfl, Nat.le_refl _, h2, hc, hm, by omega, ?_⟩⟩
  rw [t2, t1, Nat.mul_one]
  exact list_grow ROW.toList cs _ x i n hi hn hR (by simp; omega)
theorem list_drop {α : Type} (A cs rest : List α) (i n : Nat) (hi : i < n) (hn : cs.length = n) (hA : A.take i = cs.take i) :
    ((A.take i ++ cs.drop (i + 1) ++ rest).take (n - 1)) = cs.take i ++ cs.drop (i + 1) := by
  have h4 : (cs.take i ++ cs.drop (i + 1)).length = n - 1 := by simp; omega
  rw [hA, ← h4, List.take_left]
theorem own_drop {W : World} {base g n cap i : Nat} {e : TypeId} {cur : Array Value} {cs : List Value} (z : Value) (hw : W.heap[g]? = some (.cells cur e (0, 0))) (hb : base ≤ g) (hc : n ≤ cap) (hm : cap ≤ maxLen) (hs : cur.size = cap) (ht : cur.toList.take n = cs) (hn : cs.length = n) (hi : i < n) :
    ((W.setCells g i (cs.drop (i + 1))).setCells g (n - 1) [z]).ownsRow base e 1 (.slice (some ⟨g, 0, none⟩) (n - 1) cap) (n - 1) (cs.take i ++ cs.drop (i + 1)) := by
  obtain ⟨cur1, h1, s1, t1⟩ := setCells_row (cs.drop (i + 1)) i W cur hw (by simp; omega)
  obtain ⟨cur2, h2, s2, t2⟩ := setCells_row [z] (n - 1) _ cur1 h1 (by simp; omega)
  refine ⟨by simp; omega, .inr ⟨g, cap, cur2, rfl, hb, h2, by omega, hm, by omega, ?_⟩⟩
  rw [t2, Nat.mul_one, List.append_assoc, List.take_append_of_le_length (by rw [List.length_take, Array.length_toList]; omega), List.take_take, Nat.min_self, t1]
  exact list_drop cur.toList cs _ i n hi hn (by rw [← ht, List.take_take, Nat.min_eq_left (by omega)])
theorem take_one {l : List Value} {n : Nat} {c : Nat} {cur : Array Value} (h : cur.toList.take (n * 1) = l) : cur.toList.take n = l := by rwa [Nat.mul_one] at h
theorem own_slice {W : World} {base n : Nat} {e : TypeId} {v : Value} {cs : List Value} (ho : W.ownsRow base e 1 v n cs) : ∃ A c, v = .slice A n c ∧ (A = none → n = 0) ∧ ∀ ad, A = some ad → ∀ j u, cs[j]? = some u → W.cell? (ad.add j) = some u := by
  rcases ho.2 with ⟨rfl, rfl⟩ | ⟨g, cap, cur, rfl, hb, hh, hc, hm, hs, ht⟩
  · exact ⟨none, 0, rfl, fun _ => rfl, fun _ h => nomatch h⟩
  · refine ⟨some ⟨g, 0, none⟩, cap, rfl, (fun h => nomatch h), fun ad h j u hu => ?_⟩
    cases h
    rw [add_plain, blk_cell hh j, ← Array.getElem?_toList]
    rw [← ht, List.getElem?_take] at hu
    split at hu
    · exact hu
    · cases hu
end Go.Proofs.Ytaolakknkhggnaa.X
end
section
namespace Go.Proofs.Ytaolakknkhggnaa.X
open Go.RowKit Go.Maps Go.Shelf Go.Lib Go.Proofs.YtaolakknkhggnaaW.PrintWords Go.Proofs.YtaolakknkhggnaaW.PrintLast
set_option linter.unusedVariables false
set_option linter.unusedSimpArgs false
private theorem size_run {e : TypeId} {z : Value} {b : Nat} (h : (Try.prog.info? e).map (fun i => (i.zero, i.size, i.bytes)) = some (some z, 1, b)) (w : World) : (Go.sizeOf e).run Try.prog w = .ok 1 w := by
  obtain ⟨i0, hi0, h0, h1, h2⟩ := info_parts h
  simp [sizeOf, typeInfo, hi0, h1]
set_option maxHeartbeats 4000000 in
set_option maxRecDepth 100000 in
theorem insS_shift (b off n c i vb voff m vc : Nat) (cs vs : List Value) (w : World) (hi : i < n) (hm : 0 < m) (hroom : n + m ≤ c) (hc63 : c ≤ 9223372036854775807) (hvb : vb ≠ b)
    (hcl : cs.length = n) (hvl : vs.length = m)
    (hcs : ∀ j v, cs[j]? = some v → w.cell? ⟨b, off + j, none⟩ = some v) (hsp : ∀ j, j < n + m → (w.cell? ⟨b, off + j, none⟩).isSome = true) (hfz : ∀ j, j < n + m → w.frozen? ⟨b, off + j, none⟩ = false)
    (hvs : ∀ j v, vs[j]? = some v → w.cell? ⟨vb, voff + j, none⟩ = some v) (h1c : ∀ v ∈ cs, v.oneCell' = true) (h1v : ∀ v ∈ vs, v.oneCell' = true)
    (tA tB : TypeId) (kA kB : Nat) (hsa : w.shape? vb = some (tA, kA)) (hsb : w.shape? b = some (tB, kB)) (hkB : kB ≠ 0) (hfa : w.frozen? ⟨vb, voff, none⟩ = false) (hfe : w.frozen? ⟨vb, kA, none⟩ = false) :
    Calls Try.prog 83 #[.slice (some ⟨b, off, none⟩) n c, .int .i64 i, .slice (some ⟨vb, voff, none⟩) m vc] w fun e w' =>
      e = .returned (.slice (some ⟨b, off, none⟩) (n + m) c) ∧ w' = (w.drew.setCells b (off + (i + m)) (cs.drop i)).setCells b (off + i) vs := by
  have hz9 : ∀ w, (Go.sizeOf 9).run Try.prog w = .ok 1 w := fun w => size_run info9 w
  have hz1 : ¬ ((m : Int) = 0) := by omega
  have hz2 : ¬ ((i : Int) = (n : Int)) := by omega
  have hsz : (Try.prog.info? 9).map (·.size) = some 1 := by
    obtain ⟨i0, hi0, h0, h1, h2⟩ := info_parts info9
    rw [hi0]; simp [h1]
  have hov : ∀ lb cb, (callFunc (98) #[.slice (some ⟨vb, voff, none⟩) m vc, .slice (some ⟨b, off + (i + m), none⟩) lb cb]).run Try.prog w = .ok (.value (.bool false)) w := fun lb cb => by
    rw [run_callFunc_extern Try.func98 (by kernel_rfl) (by kernel_rfl) (by kernel_rfl) (e := Extern.SlicesOverlaps.overlaps #[22, 22] #[4]) (by kernel_rfl),
      Lib.run_overlaps_apart w 22 4 9 Try.underlying22 1 hz9 ⟨vb, voff, none⟩ ⟨b, off + (i + m), none⟩ m vc lb cb hvb tA tB kA kB hsa hsb hkB hfa hfe]
    rfl
  have hdl : (cs.drop i).length = n - i := by rw [List.length_drop, hcl]
  have mixed : Try.prog.follows .mixedOrders = true := by kernel_rfl
  have hw1 : IntKind.i64.wrap ((i : Int) + (m : Int)) = (i : Int) + (m : Int) := by rw [IntKind.wrap_i64]; omega
  have hb1 : (0 : Int) ≤ (i : Int) + (m : Int) := by omega
  have hin : i ≤ n := by omega
  have htn : ((i : Int) + (m : Int)).toNat = i + m := by omega
  have hb2 : ¬ (c = i + m) := by omega
  have hb3 : (i : Int) ≤ (n : Int) + (m : Int) := by omega
  have hb4 : ¬ (c = i) := by omega
  have hcp1 : ∀ ty dc sc, (Builtin.copy_ #[22, 22] ty #[.slice (some ⟨b, off + (i + m), none⟩) (n + m - (i + m)) dc, .slice (some ⟨b, off + i, none⟩) (n + m - i) sc]).run Try.prog w.drew = .ok (goInt (cs.drop i).length) (w.drew.setCells b (off + (i + m)) (cs.drop i)) := fun ty dc sc =>
    run_copy_cells w.drew _ _ ty 9 b (off + (i + m)) (n + m - (i + m)) dc ⟨b, off + i, none⟩ (n + m - i) sc (cs.drop i) Try.underlying22 hsz (by rw [hdl]; simp only [Nat.min_def]; split <;> omega)
      (fun j v hj => by rw [Addr.add_lit, Nat.add_assoc]; exact hcs (i + j) v (by rwa [List.getElem?_drop] at hj))
      (fun j hj => by rw [Nat.add_assoc]; exact hsp _ (by omega)) (fun j hj => by rw [Nat.add_assoc]; exact hfz _ (by omega)) (fun v hv => h1c v (List.mem_of_mem_drop hv))
  obtain ⟨W1, hW1⟩ : ∃ W1, W1 = w.drew.setCells b (off + (i + m)) (cs.drop i) := ⟨_, rfl⟩
  have hsp1 : ∀ k, k < n + m → (W1.cell? ⟨b, off + k, none⟩).isSome = true := fun k hk => by
    rw [hW1]
    exact isSome_setCells b _ _ _ (fun j hj => by rw [Nat.add_assoc]; exact hsp _ (by omega)) _ (hsp k hk)
  have hcp2 : ∀ (W : World), (∀ x, W.cell? x = W1.cell? x) → (∀ x, W.frozen? x = W1.frozen? x) → ∀ ty dc, (Builtin.copy_ #[22, 22] ty #[.slice (some ⟨b, off + i, none⟩) (n + m - i) dc, .slice (some ⟨vb, voff, none⟩) m vc]).run Try.prog W = .ok (goInt vs.length) (W.setCells b (off + i) vs) := fun W hWc hWf ty dc =>
    run_copy_cells W _ _ ty 9 b (off + i) (n + m - i) dc ⟨vb, voff, none⟩ m vc vs Try.underlying22 hsz (by rw [hvl]; simp only [Nat.min_def]; split <;> omega)
      (fun j v hj => by
        rw [Addr.add_lit, hWc, hW1, World.cell?_setCells_out b _ _ _ _ (fun h _ => absurd h hvb)]
        exact hvs j v hj)
      (fun j hj => by rw [hWc, Nat.add_assoc]; exact hsp1 _ (by omega)) (fun j hj => by rw [hWf, hW1, World.frozen?_setCells, Nat.add_assoc]; exact hfz _ (by omega)) h1v
  rw [← hW1] at hcp1
  go_enter Try.func83, Try.ntmps83
  go_wp2_with (simp only [hov])
  go_region_law_o (refine step_copy_runI rfl _ _ 22 22 rfl _ _ (by simp [Act.eval, Act.put]) (by simp [Act.eval, Act.put]) (hcp1 _ _ _) ?_)
  go_wp2_with (at_builtin; refine wpList_copy_runI _ rfl _ _ 22 22 rfl _ _ rfl rfl (hcp2 _ (fun _ => rfl) (fun _ => rfl) _ _) ?_)
  go_ret
  first | exact ⟨rfl, rfl⟩ | exact ⟨rfl, by rw [hW1]⟩
set_option maxHeartbeats 4000000 in
set_option maxRecDepth 100000 in
theorem insS_grow (b off n c i vb voff m vc : Nat) (cs vs : List Value) (w : World) (hi : i < n) (hm : 0 < m) (hnc : n ≤ c) (hroom : c < n + m) (hbig : (n + m) * 16 ≤ 140737488355328)
    (hcl : cs.length = n) (hvl : vs.length = m)
    (hcs : ∀ j v, cs[j]? = some v → w.cell? ⟨b, off + j, none⟩ = some v)
    (hvs : ∀ j v, vs[j]? = some v → w.cell? ⟨vb, voff + j, none⟩ = some v) (h1c : ∀ v ∈ cs, v.oneCell' = true) (h1v : ∀ v ∈ vs, v.oneCell' = true) :
    Calls Try.prog 83 #[.slice (some ⟨b, off, none⟩) n c, .int .i64 i, .slice (some ⟨vb, voff, none⟩) m vc] w fun e w' =>
      e = .returned (.slice (some ⟨w.heap.size, 0, none⟩) (n + m) (grownCap w (n + m) c 9)) ∧
      w' = (((w.alloc (.cells ((cs.take i).toArray ++ Builtin.zeroCells (Value.string ⟨#[]⟩).cells (n + m - i) ++ Builtin.zeroCells (Value.string ⟨#[]⟩).cells (grownCap w (n + m) c 9 - (n + m))) 9)).drew.setCells w.heap.size i vs).drew).setCells w.heap.size (i + m) (cs.drop i) := by
  have mixed : Try.prog.follows .mixedOrders = true := by kernel_rfl
  obtain ⟨i0, hi0, hz0, hzs, hzb⟩ := info_parts info9
  have hz1 : ¬ ((m : Int) = 0) := by omega
  have hz2 : ¬ ((i : Int) = (n : Int)) := by omega
  have hz3 : (c : Int) < (n : Int) + (m : Int) := by omega
  have hsz : (Try.prog.info? 9).map (·.size) = some 1 := by rw [hi0]; simp [hzs]
  have hbw : b < w.heap.size := block_lt_of_cell (hcs 0 _ (List.getElem?_eq_getElem (by omega)))
  have hvw : vb < w.heap.size := block_lt_of_cell (hvs 0 _ (List.getElem?_eq_getElem (by omega)))
  have hkk : (n : Int) + (m : Int) - (i : Int) = ((n + m - i : Nat) : Int) := by omega
  have hik : i + (n + m - i) = n + m := by omega
  have hold : (Builtin.firstCells i0.size i (.slice (some ⟨b, off, none⟩) i c)).run Try.prog w.drew = .ok (cs.take i).toArray w.drew := by
    rw [hzs]
    exact run_firstCells_some w.drew 1 i ⟨b, off, none⟩ i c (cs.take i) (by rw [List.length_take]; omega) (fun j v hj => by
      rw [Addr.add_lit]
      rw [List.getElem?_take] at hj
      split at hj
      · exact hcs j v hj
      · cases hj)
  have hrz : ∀ ty, (Builtin.append_ #[22, 3] ty #[.slice (some ⟨b, off, none⟩) i c, .int .i64 ((n : Int) + (m : Int) - (i : Int))]).run Try.prog w =
      .ok (.slice (some ⟨w.heap.size, 0, none⟩) (n + m) (grownCap w (n + m) c 9)) (w.drew.alloc (.cells ((cs.take i).toArray ++ Builtin.zeroCells (Value.string ⟨#[]⟩).cells (n + m - i) ++ Builtin.zeroCells (Value.string ⟨#[]⟩).cells (grownCap w (n + m) c 9 - (n + m))) 9)) := fun ty => by
    have h := Lib.run_append_grow_zeros w 22 3 ty 9 i0 _ .i64 .i64 Try.underlying22 Try.underlying3 hi0 hz0 (some ⟨b, off, none⟩) i c (cs.take i) hold (n + m - i) (by omega) (by omega) (by omega) (by omega) (by rw [hzb]; omega) (by rw [hzb, hik]; exact growslice_fits hroom hbig)
    rw [hik] at h
    rw [hkk]
    exact h
  obtain ⟨G, hG⟩ : ∃ G, G = grownCap w (n + m) c 9 := ⟨_, rfl⟩
  obtain ⟨ROW, hROW⟩ : ∃ ROW : Array Value, ROW = (cs.take i).toArray ++ Builtin.zeroCells (Value.string ⟨#[]⟩).cells (n + m - i) ++ Builtin.zeroCells (Value.string ⟨#[]⟩).cells (G - (n + m)) := ⟨_, rfl⟩
  rw [← hG] at hrz ⊢
  rw [← hROW] at hrz ⊢
  have hRl : n + m ≤ ROW.size := by
    rw [hROW]
    simp [Builtin.zeroCells, Value.cells]
    omega
  obtain ⟨W1, hW1⟩ : ∃ W1, W1 = w.drew.alloc (.cells ROW 9) := ⟨_, rfl⟩
  rw [← hW1] at hrz
  have hN : ∀ j, j < n + m → (W1.cell? ⟨w.heap.size, j, none⟩).isSome = true := fun j hj => by
    rw [hW1, World.cell?_alloc_at (w := w.drew) ROW _ w.heap.size j rfl, Array.getElem?_eq_getElem (by omega)]; rfl
  have hNf : ∀ j, W1.frozen? ⟨w.heap.size, j, none⟩ = false := fun j => by rw [hW1]; exact World.frozen?_alloc_at (w := w.drew) ROW _ w.heap.size j rfl
  have hOb : ∀ j v, w.cell? ⟨b, j, none⟩ = some v → W1.cell? ⟨b, j, none⟩ = some v := fun j v h => by rw [hW1, World.cell?_alloc_past (w := w.drew) _ b j hbw]; exact h
  have hOv : ∀ j v, w.cell? ⟨vb, j, none⟩ = some v → W1.cell? ⟨vb, j, none⟩ = some v := fun j v h => by rw [hW1, World.cell?_alloc_past (w := w.drew) _ vb j hvw]; exact h
  have hcpA : ∀ (W : World), (∀ x, W.cell? x = W1.cell? x) → (∀ x, W.frozen? x = W1.frozen? x) → ∀ ty dc, (Builtin.copy_ #[22, 22] ty #[.slice (some ⟨w.heap.size, i, none⟩) (n + m - i) dc, .slice (some ⟨vb, voff, none⟩) m vc]).run Try.prog W = .ok (goInt vs.length) (W.setCells w.heap.size i vs) := fun W hWc hWf ty dc =>
    run_copy_cells W _ _ ty 9 w.heap.size i (n + m - i) dc ⟨vb, voff, none⟩ m vc vs Try.underlying22 hsz (by rw [hvl]; simp only [Nat.min_def]; split <;> omega)
      (fun j v hj => by rw [Addr.add_lit, hWc]; exact hOv _ v (hvs j v hj))
      (fun j hj => by rw [hWc]; exact hN _ (by omega)) (fun j hj => by rw [hWf]; exact hNf _) h1v
  have hGn : n + m ≤ G := by rw [hG]; exact grownCap_ge w _ _ _
  have hG63 : G ≤ 9223372036854775807 := by
    have := grownCap_le_maxLen w (n + m) c 9 (by unfold maxLen; omega)
    rw [← hG] at this
    unfold maxLen at this
    omega
  have hGi : ¬ (G = i) := by omega
  have hGim : ¬ (G = i + m) := by omega
  have hci : ¬ (c = i) := by omega
  have hbN : b ≠ w.heap.size := by omega
  have hdl : (cs.drop i).length = n - i := by rw [List.length_drop, hcl]
  have hcpB : ∀ (W : World), (∀ x, W.cell? x = (W1.setCells w.heap.size i vs).cell? x) → (∀ x, W.frozen? x = (W1.setCells w.heap.size i vs).frozen? x) → ∀ ty dc sc, (Builtin.copy_ #[22, 22] ty #[.slice (some ⟨w.heap.size, i + m, none⟩) (n + m - (i + m)) dc, .slice (some ⟨b, off + i, none⟩) (n - i) sc]).run Try.prog W = .ok (goInt (cs.drop i).length) (W.setCells w.heap.size (i + m) (cs.drop i)) := fun W hWc hWf ty dc sc =>
    run_copy_cells W _ _ ty 9 w.heap.size (i + m) (n + m - (i + m)) dc ⟨b, off + i, none⟩ (n - i) sc (cs.drop i) Try.underlying22 hsz (by rw [hdl]; simp only [Nat.min_def]; split <;> omega)
      (fun j v hj => by
        rw [Addr.add_lit, hWc, World.cell?_setCells_out _ _ _ _ _ (fun h _ => absurd h hbN), Nat.add_assoc]
        exact hOb _ v (hcs (i + j) v (by rwa [List.getElem?_drop] at hj)))
      (fun j hj => by rw [hWc]; exact isSome_setCells _ _ _ _ (fun t ht => hN _ (by omega)) _ (hN _ (by omega)))
      (fun j hj => by rw [hWf, World.frozen?_setCells]; exact hNf _) (fun v hv => h1c v (List.mem_of_mem_drop hv))
  subst hW1
  have hE1 : ∀ x, ((w.alloc (.cells ROW 9)).drew).cell? x = (w.drew.alloc (.cells ROW 9)).cell? x := fun x => rfl
  have hE2 : ∀ x, ((w.alloc (.cells ROW 9)).drew).frozen? x = (w.drew.alloc (.cells ROW 9)).frozen? x := fun x => rfl
  have hF1 : ∀ x, (((w.alloc (.cells ROW 9)).drew.setCells w.heap.size i vs).drew).cell? x = ((w.drew.alloc (.cells ROW 9)).setCells w.heap.size i vs).cell? x := fun x => rfl
  have hF2 : ∀ x, (((w.alloc (.cells ROW 9)).drew.setCells w.heap.size i vs).drew).frozen? x = ((w.drew.alloc (.cells ROW 9)).setCells w.heap.size i vs).frozen? x := fun x => rfl
  have hw1 : IntKind.i64.wrap ((i : Int) + (m : Int)) = (i : Int) + (m : Int) := by rw [IntKind.wrap_i64]; omega
  have hb1 : (0 : Int) ≤ (i : Int) + (m : Int) := by omega
  have hin : i ≤ n := by omega
  have htn : ((i : Int) + (m : Int)).toNat = i + m := by omega
  have hb3 : (i : Int) ≤ (n : Int) := by omega
  clear hkk hik hold hROW hG hRl
  go_enter Try.func83, Try.ntmps83
  go_wp2_with (first
    | (at_builtin; refine Lib.wpList_append_run _ rfl _ _ _ _ rfl _ _ rfl rfl _ _ (hrz _) ?_)
    | (at_builtin; refine wpList_copy_runI _ rfl _ _ 22 22 rfl _ _ rfl rfl (hcpA _ hE1 hE2 _ _) ?_)
    | (at_builtin; refine wpList_copy_runI _ rfl _ _ 22 22 rfl _ _ rfl rfl (hcpB _ (fun _ => rfl) (fun _ => rfl) _ _ _) ?_))
  go_region_law_o (refine step_copy_runI rfl _ _ 22 22 rfl (.slice (some ⟨w.heap.size, i + m, none⟩) (n + m - (i + m)) (G - (i + m))) (.slice (some ⟨b, off + i, none⟩) (n - i) (c - i)) (by simp [Act.eval, Act.put]) (by simp [Act.eval, Act.put]) (hcpB _ hF1 hF2 3 (G - (i + m)) (c - i)) ?_)
  go_wp2
  go_ret
  exact ⟨rfl, rfl⟩
end Go.Proofs.Ytaolakknkhggnaa.X
end
section
namespace Go.Proofs.Ytaolakknkhggnaa.X
open Go.RowKit Go.Maps Go.Shelf Go.Lib Go.Proofs.YtaolakknkhggnaaW.PrintWords Go.Proofs.YtaolakknkhggnaaW.PrintLast
set_option linter.unusedVariables false
set_option linter.unusedSimpArgs false
private theorem zero_run {e : TypeId} {z : Value} {b : Nat} (h : (Try.prog.info? e).map (fun i => (i.zero, i.size, i.bytes)) = some (some z, 1, b)) (w : World) : (zeroValue e).run Try.prog w = .ok z w := by
  obtain ⟨i0, hi0, h0, h1, h2⟩ := info_parts h
  simp [zeroValue, typeInfo, hi0, h0]
private theorem own_cell0 {W : World} {g n : Nat} {e : TypeId} {cur : Array Value} {cs : List Value} (hh : W.heap[g]? = some (.cells cur e (0, 0))) (ht : cur.toList.take n = cs) : ∀ j v, cs[j]? = some v → W.cell? ⟨g, 0 + j, none⟩ = some v := by
  intro j v hj
  rw [Nat.zero_add, blk_cell hh j, ← Array.getElem?_toList]
  rw [← ht, List.getElem?_take] at hj
  split at hj
  · exact hj
  · cases hj
private theorem own_there {W : World} {g m : Nat} {e : TypeId} {cur : Array Value} (hh : W.heap[g]? = some (.cells cur e (0, 0))) (hm : m ≤ cur.size) : ∀ j, j < m → (W.cell? ⟨g, 0 + j, none⟩).isSome = true := by
  intro j hj
  rw [Nat.zero_add, blk_cell hh j, Array.getElem?_eq_getElem (by omega)]
  rfl
set_option maxRecDepth 100000 in
set_option maxHeartbeats 4000000 in
/-- slices.Clone. -/
theorem cloneS (A : Option Addr) (n c : Nat) (cs : List Value) (w : World) (hsrc : ∀ ad, A = some ad → ∀ j u, cs[j]? = some u → w.cell? (ad.add j) = some u) (hn : cs.length = n) (h0 : A = none → n = 0) (h1 : ∀ u ∈ cs, u.oneCell' = true) (hl : n ≤ 1000000) :
    Calls Try.prog 64 #[.slice A n c] w fun e w' => ∃ v, e = .returned v ∧ w'.ownsRow w.heap.size 9 1 v n cs ∧ Below w.heap.size w w' := by
  obtain ⟨i0, hi, hz0, hz1, hz2⟩ := info_parts info9
  rcases A with _ | ad
  · obtain rfl := h0 rfl
    obtain rfl := List.eq_nil_of_length_eq_zero hn
    clear hsrc
    have hq : ∀ W, Sem.run Try.prog (binOp .eql 22 (.slice none 0 c) (.slice none 0 0)) W = .ok (.bool true) W := fun W => Lib.run_eql_slice_nil W 22 9 none 0 c 0 0 Try.underlying22
    go_enter Try.func64, Try.ntmps64
    go_wp2
    go_ret
    exact ⟨_, rfl, ⟨rfl, .inl ⟨rfl, rfl⟩⟩, Below.refl _ _⟩
  · have HO := Aside0.mk (nil_ownsRow w 9)
    have hB := below_alloc (Below.refl w.heap.size w) (.cells #[] 9)
    have HB := Aside0.mk hB
    have HN := Aside0.mk (fun j u (hu : cs[j]? = some u) => pw_cell_below hB (hsrc ad rfl j u hu))
    have HX := Aside0.mk h1
    have HL := Aside0.mk hn
    have hml : 0 + n ≤ maxLen := by unfold maxLen; omega
    have hml2 : (0 + n) * 16 ≤ 140737488355328 := by omega
    clear hsrc hB h1 h0 hn
    have hq : ∀ W, Sem.run Try.prog (binOp .eql 22 (.slice (some ad) n c) (.slice none 0 0)) W = .ok (.bool false) W := fun W => Lib.run_eql_slice_nil W 22 9 (some ad) n c 0 0 Try.underlying22
    go_enter Try.func64, Try.ntmps64
    go_wp2_with (first
      | (at_builtin; refine wpList_append_own _ rfl _ _ 22 rfl w.heap.size 9 i0 _ 1 16 Try.underlying22 hi hz0 hz1 hz2 rfl (by decide) _ _ _ rfl HO.out ad n c cs rfl (by rw [HL.out, Nat.mul_one]) HN.out HX.out hml hml2 HB.out.size ?_; intro v' w1 hown' hgrow _))
    go_ret
    rw [Nat.zero_add] at hown'
    exact ⟨_, rfl, hown', below_own_grown HO.out HB.out.size HB.out hgrow⟩
set_option maxRecDepth 100000 in
set_option maxHeartbeats 4000000 in
private theorem insS_end (base n : Nat) (v : Value) (cs : List Value) (x : Value) (vb : Nat) (w : World) (ho : w.ownsRow base 9 1 v n cs) (hbase : base ≤ w.heap.size) (hx : w.heap[vb]? = some (.cells #[x] 9 (0, 0))) (h1 : x.oneCell' = true) (hl : n ≤ 1000000) :
    Calls Try.prog 83 #[v, .int .i64 n, .slice (some ⟨vb, 0, none⟩) 1 1] w fun e w' => ∃ v', e = .returned v' ∧ w'.ownsRow base 9 1 v' (n + 1) (cs ++ [x]) ∧ Below base w w' := by
  obtain ⟨i0, hi, hz0, hz1, hz2⟩ := info_parts info9
  have HO := Aside0.mk ho
  have HN : Aside0 (∀ j u, [x][j]? = some u → w.cell? ((⟨vb, 0, none⟩ : Addr).add j) = some u) := ⟨fun j u hu => by
    rw [add_plain, blk_cell hx j, ← Array.getElem?_toList]
    exact hu⟩
  have HX : Aside0 (∀ u ∈ [x], u.oneCell' = true) := ⟨fun u hu => by rw [List.mem_singleton.1 hu]; exact h1⟩
  have hml : n + 1 ≤ maxLen := by unfold maxLen; omega
  have hml2 : (n + 1) * 16 ≤ 140737488355328 := by omega
  have HG : Aside0 (∀ w', w.grownBy w' v.ownBlock → Below base w w') := ⟨fun w' hg => (Below.refl base w).grown hg hbase (fun k hk => own_base HO.out k hk)⟩
  have hf : v = .slice none 0 0 ∧ n = 0 ∨ ∃ g cap, v = .slice (some ⟨g, 0, none⟩) n cap ∧ n ≤ cap ∧ cap ≤ maxLen := by
    rcases ho.2 with h | ⟨g, cap, cur, h, _, _, hc, hm, _⟩
    · exact .inl h
    · exact .inr ⟨g, cap, h, hc, hm⟩
  clear ho hx h1
  rcases hf with ⟨rfl, rfl⟩ | ⟨g, cap, rfl, hc, hm⟩
  · go_enter Try.func83, Try.ntmps83
    go_wp2_with (first
      | (at_builtin; refine wpList_append_own _ rfl _ _ 22 rfl base 9 i0 _ 1 16 Try.underlying22 hi hz0 hz1 hz2 rfl (by decide) _ _ _ rfl HO.out ⟨vb, 0, none⟩ 1 1 [x] rfl rfl HN.out HX.out hml hml2 hbase ?_; intro v' w1 hown' hgrow _))
    go_ret
    exact ⟨_, rfl, hown', HG.out _ hgrow⟩
  · have hc2 : (n : Int) ≤ (cap : Int) := by omega
    have hm2 : (cap : Int) ≤ 9223372036854775807 := by unfold maxLen at hm; omega
    go_enter Try.func83, Try.ntmps83
    go_wp2_with (first
      | (at_builtin; refine wpList_append_own _ rfl _ _ 22 rfl base 9 i0 _ 1 16 Try.underlying22 hi hz0 hz1 hz2 rfl (by decide) _ _ _ rfl HO.out ⟨vb, 0, none⟩ 1 1 [x] rfl rfl HN.out HX.out hml hml2 hbase ?_; intro v' w1 hown' hgrow _))
    all_goals (
      go_ret
      exact ⟨_, rfl, hown', HG.out _ hgrow⟩)
/-- slices.Insert, of one. -/
theorem insS (base n i : Nat) (v : Value) (cs : List Value) (x : Value) (vb : Nat) (w : World) (ho : w.ownsRow base 9 1 v n cs) (hbase : base ≤ w.heap.size) (hx : w.heap[vb]? = some (.cells #[x] 9 (0, 0))) (hxv : v.ownBlock ≠ some vb) (h1 : x.oneCell' = true) (h1c : ∀ u ∈ cs, u.oneCell' = true) (hi : i ≤ n) (hl : n ≤ 1000000) :
    Calls Try.prog 83 #[v, .int .i64 i, .slice (some ⟨vb, 0, none⟩) 1 1] w fun e w' => ∃ v', e = .returned v' ∧ w'.ownsRow base 9 1 v' (n + 1) (cs.take i ++ x :: cs.drop i) ∧ Below base w w' := by
  have hcl : cs.length = n := by have := ho.1; omega
  rcases Nat.lt_or_ge i n with hlt | hge
  · rcases ho.2 with ⟨_, h0⟩ | ⟨g, cap, cur, rfl, hb, hh, hc, hm, hs, ht⟩
    · omega
    have ht1 := take_one (c := cap) ht
    have hne : vb ≠ g := fun e => hxv (by rw [e]; rfl)
    have hv1 : ∀ j v, [x][j]? = some v → w.cell? ⟨vb, 0 + j, none⟩ = some v := fun j u hu => by
      rw [Nat.zero_add, blk_cell hx j, ← Array.getElem?_toList]
      exact hu
    have h1v : ∀ u ∈ [x], u.oneCell' = true := fun u hu => by rw [List.mem_singleton.1 hu]; exact h1
    rcases Nat.lt_or_ge cap (n + 1) with hroom | hroom
    · refine (insS_grow g 0 n cap i vb 0 1 1 cs [x] w hlt (by omega) hc (by omega) (by omega) hcl rfl (own_cell0 hh ht1) hv1 h1c h1v).mono ?_
      rintro e w' ⟨rfl, rfl⟩
      have hge2 := grownCap_ge w (n + 1) cap 9
      have hle2 := grownCap_le_maxLen w (n + 1) cap 9 (by unfold maxLen; omega)
      generalize grownCap w (n + 1) cap 9 = G at hge2 hle2 ⊢
      have hR1 : ((cs.take i).toArray ++ Builtin.zeroCells (Value.string ⟨#[]⟩).cells (n + 1 - i) ++ Builtin.zeroCells (Value.string ⟨#[]⟩).cells (G - (n + 1))).size = G := by
        simp [Builtin.zeroCells, Value.cells]
        omega
      have hR2 : ((cs.take i).toArray ++ Builtin.zeroCells (Value.string ⟨#[]⟩).cells (n + 1 - i) ++ Builtin.zeroCells (Value.string ⟨#[]⟩).cells (G - (n + 1))).toList.take i = cs.take i := by
        rw [Array.toList_append, Array.toList_append, List.append_assoc, List.take_append_of_le_length (by simp; omega)]
        simp [List.take_take]
      generalize ((cs.take i).toArray ++ Builtin.zeroCells (Value.string ⟨#[]⟩).cells (n + 1 - i) ++ Builtin.zeroCells (Value.string ⟨#[]⟩).cells (G - (n + 1))) = ROW at hR1 hR2 ⊢
      refine ⟨_, rfl, own_weaken (own_grow (W := (w.alloc (.cells ROW 9)).drew) x (blk_new w _) hge2 hle2 hR1 hR2 hcl hlt) hbase, ?_⟩
      exact below_setCellsP hbase _ _ _ (below_drew (below_setCellsP hbase _ _ _ (below_drew ((Below.refl base w).alloc hbase _))))
    · refine (insS_shift g 0 n cap i vb 0 1 1 cs [x] w hlt (by omega) hroom (by unfold maxLen at hm; omega) hne hcl rfl (own_cell0 hh ht1) (own_there hh (by omega)) (fun j _ => by rw [Nat.zero_add]; exact blk_frozen hh j) hv1 h1c h1v 9 9 1 cur.size (by simp [World.shape?, hx]) (by simp [World.shape?, hh]) (by omega) (blk_frozen hx 0) (blk_frozen hx 1)).mono ?_
      rintro e w' ⟨rfl, rfl⟩
      exact ⟨_, rfl, own_shift (W := w.drew) x hh hb hroom hm (by omega) ht1 hcl hlt, below_setCellsP hb _ _ _ (below_setCellsP hb _ _ _ (below_drew (Below.refl base w)))⟩
  · obtain rfl : i = n := by omega
    rw [List.take_of_length_le (by omega), List.drop_of_length_le (by omega)]
    exact insS_end base i v cs x vb w ho hbase hx h1 hl
set_option maxRecDepth 1000000 in
set_option maxHeartbeats 4000000 in
private theorem delS_walk (g off n cap i j : Nat) (cs : List Value) (w : World) (hij : j = i + 1) (hj : j ≤ n) (hcap : n ≤ cap) (hm : cap ≤ 9223372036854775807) (hcl : cs.length = n) (hcs : ∀ t v, cs[t]? = some v → w.cell? ⟨g, off + t, none⟩ = some v)
    (hsp : ∀ t, t < n → (w.cell? ⟨g, off + t, none⟩).isSome = true) (hfz : ∀ t, t < n → w.frozen? ⟨g, off + t, none⟩ = false) (h1c : ∀ u ∈ cs, u.oneCell' = true) :
    Calls Try.prog 84 #[.slice (some ⟨g, off, none⟩) n cap, .int .i64 i, .int .i64 j] w fun e w' => e = .returned (.slice (some ⟨g, off, none⟩) (i + (n - j)) cap) ∧ w' = (w.drew.setCells g (off + i * 1) (cs.drop j)).setCells g (off + (i + (n - j))) (List.replicate (n - (i + (n - j))) (Value.string ⟨#[]⟩)) := by
  have mixed : Try.prog.follows .mixedOrders = true := by kernel_rfl
  obtain ⟨i0, hi0, hz0, hz1, hz2⟩ := info_parts info9
  obtain ⟨news, hnews⟩ : ∃ news, news = cs.drop j := ⟨_, rfl⟩
  have hlen : news.length = n - j := by rw [hnews]; simp; omega
  obtain ⟨A, hA, hsrc⟩ : ∃ A : Addr, (if cap = j then some (⟨g, off, none⟩ : Addr) else some ⟨g, off + j, none⟩) = some A ∧ Hid (∀ t u, news[t]? = some u → w.drew.cell? (A.add t) = some u) := by
    by_cases h : cap = j
    · refine ⟨⟨g, off, none⟩, by simp [h], fun t u hu => ?_⟩
      have h0 : news.length = 0 := by rw [hlen]; omega
      rw [List.length_eq_zero_iff.1 h0] at hu
      simp at hu
    · refine ⟨⟨g, off + j, none⟩, by simp [h], fun t u hu => ?_⟩
      rw [hnews, List.getElem?_drop] at hu
      rw [Addr.add_lit, show off + j + t = off + (j + t) by omega]
      exact hcs _ _ hu
  have s1 : Hid (news.length = (n - j) * 1) := by rw [Nat.mul_one]; exact hlen
  have s2 : Hid (∀ u ∈ news, u.oneCell' = true) := by
    intro u hu
    rw [hnews] at hu
    exact h1c u (List.mem_of_mem_drop hu)
  have s3 : Hid (∀ t, t < news.length → (w.drew.cell? ⟨g, off + i * 1 + t, none⟩).isSome = true ∧ w.drew.frozen? ⟨g, off + i * 1 + t, none⟩ = false) := by
    intro t ht
    rw [hlen] at ht
    rw [Nat.mul_one, Nat.add_assoc]
    exact ⟨hsp _ (by omega), hfz _ (by omega)⟩
  obtain ⟨W1, hW1⟩ : ∃ W1, W1 = w.drew.setCells g (off + i * 1) news := ⟨_, rfl⟩
  have hcl2 : ∀ ty, (Builtin.clear_ #[22] ty #[.slice (some ⟨g, off + (i + (n - j)), none⟩) (n - (i + (n - j))) (cap - (i + (n - j)))]).run Try.prog W1 = .ok (.tuple #[]) (W1.setCells g (off + (i + (n - j))) (List.replicate (n - (i + (n - j))) (Value.string ⟨#[]⟩))) :=
    fun ty => Lib.run_clear_slice W1 _ _ ty _ Try.underlying22 (zero_run info9) rfl rfl g (off + (i + (n - j))) _ _ (by omega)
      (fun t ht => by rw [hW1, Nat.add_assoc]; exact isSome_setCells g _ _ _ (fun t2 h2 => by have := (s3 t2 h2).1; exact this) _ (hsp _ (by omega)))
      (fun t ht => by rw [hW1, World.frozen?_setCells, Nat.add_assoc]; exact hfz _ (by omega))
  have hW : Hid (W1 = w.drew.setCells g (off + i * 1) news) := hW1
  have hD : Hid (news = cs.drop j) := hnews
  rw [← hnews, ← hW1]
  have hic : i ≤ cap := by omega
  have hjc : j ≤ cap := by omega
  have hjn : ¬ ((i : Int) = (j : Int)) := by omega
  have hin : i < j := by omega
  clear hij
  clear hW1 hnews hcs hsp hfz hcl h1c hlen
  go_enter Try.func84, Try.ntmps84
  go_wp2_with fail
  go_region_law_o (refine step_append_room rfl (.tmp 22) (.tmp 25) 22 rfl 9 i0 1 Try.underlying22 hi0 hz1 g off i cap (by simp [Act.eval, Act.put]) A (n - j) (cap - j) news (by simp [Act.eval, Act.put]) s1.out hsrc.out s2.out (by omega) s3.out ?_; rw [← hW.out])
  go_wp2
  go_ret
  exact ⟨rfl, rfl⟩
/-- slices.Delete, of one. -/
theorem delS (base n i j : Nat) (v : Value) (cs : List Value) (w : World) (ho : w.ownsRow base 9 1 v n cs) (hij : j = i + 1) (h1c : ∀ u ∈ cs, u.oneCell' = true) (hi : i < n) :
    Calls Try.prog 84 #[v, .int .i64 i, .int .i64 j] w fun e w' => ∃ v', e = .returned v' ∧ w'.ownsRow base 9 1 v' (n - 1) (cs.take i ++ cs.drop (i + 1)) ∧ Below base w w' := by
  have hcl : cs.length = n := by have := ho.1; omega
  rcases ho.2 with ⟨_, h0⟩ | ⟨g, cap, cur, rfl, hb, hh, hc, hm, hs, ht⟩
  · omega
  have ht1 := take_one (c := cap) ht
  refine (delS_walk g 0 n cap i j cs w hij (by omega) hc (by unfold maxLen at hm; omega) hcl (own_cell0 hh ht1) (own_there hh (by omega)) (fun t _ => by rw [Nat.zero_add]; exact blk_frozen hh t) h1c).mono ?_
  rintro e w' ⟨rfl, rfl⟩
  have e1 : i + (n - j) = n - 1 := by omega
  have e2 : n - (n - 1) = 1 := by omega
  rw [e1, e2, Nat.mul_one, Nat.zero_add, Nat.zero_add, hij]
  exact ⟨_, rfl, own_drop (W := w.drew) (Value.string ⟨#[]⟩) hh hb hc hm (by omega) ht1 hcl hi, below_setCellsP hb _ _ _ (below_setCellsP hb _ _ _ (below_drew (Below.refl base w)))⟩
set_option maxRecDepth 100000 in
set_option maxHeartbeats 4000000 in
theorem putS_calls (A : Option Addr) (n c i : Nat) (cs : List Value) (xs : ByteArray) (w : World) (hsrc : ∀ ad, A = some ad → ∀ j u, cs[j]? = some u → w.cell? (ad.add j) = some u) (hn : cs.length = n) (h0 : A = none → n = 0) (h1 : ∀ u ∈ cs, u.oneCell' = true) (hi : i ≤ n) (hl : n ≤ 1000000) :
    Calls Try.prog 55 #[.slice A n c, .int .i64 i, (Value.string xs)] w fun e w' => ∃ v, e = .returned v ∧ w'.ownsRow w.heap.size 9 1 v (n + 1) (cs.take i ++ (Value.string xs) :: cs.drop i) ∧ Below w.heap.size w w' := by
  have HC := Aside0.mk (cloneS A n c cs w hsrc hn h0 h1 hl)
  have HO := Aside0.mk h1
  clear hsrc hn h0 h1
  go_enter Try.func55, Try.ntmps55
  go_wp2_with (first
    | (go_at_call 64; refine HC.out.mono ?_; rintro e w1 ⟨v1, rfl, ho1, hb1⟩; have HO1 := Aside0.mk ho1; have HB1 := Aside0.mk hb1; clear ho1 hb1 HC)
    | (go_at_call 83; refine (insS w.heap.size n i v1 cs (Value.string xs) w1.heap.size _ (own_move HO1.out (fun k hk => (below_alloc (Below.refl _ _) _).block _ (own_lt HO1.out k hk))) (Nat.le_trans HB1.out.size (by simp)) (blk_new w1 _) (fun e => Nat.lt_irrefl _ (own_lt HO1.out _ e)) rfl HO.out hi hl).mono ?_; rintro e w2 ⟨v2, rfl, ho2, hb2⟩; have HO2 := Aside0.mk ho2; have HB2 := Aside0.mk ((HB1.out.alloc HB1.out.size _).trans hb2); clear ho2 hb2))
  go_ret
  exact ⟨_, rfl, HO2.out, HB2.out⟩
set_option maxRecDepth 100000 in
set_option maxHeartbeats 4000000 in
theorem dropS_calls (A : Option Addr) (n c i : Nat) (cs : List Value) (w : World) (hsrc : ∀ ad, A = some ad → ∀ j u, cs[j]? = some u → w.cell? (ad.add j) = some u) (hn : cs.length = n) (h0 : A = none → n = 0) (h1 : ∀ u ∈ cs, u.oneCell' = true) (hi : i < n) (hl : n ≤ 1000000) :
    Calls Try.prog 59 #[.slice A n c, .int .i64 i] w fun e w' => ∃ v, e = .returned v ∧ w'.ownsRow w.heap.size 9 1 v (n - 1) (cs.take i ++ cs.drop (i + 1)) ∧ Below w.heap.size w w' := by
  have HC := Aside0.mk (cloneS A n c cs w hsrc hn h0 h1 hl)
  have HO := Aside0.mk h1
  have hw1 : wrap64 ((i : Int) + 1) = ((i + 1 : Nat) : Int) := by unfold wrap64; omega
  have hw2 : IntKind.i64.wrap ((i : Int) + 1) = ((i + 1 : Nat) : Int) := by rw [IntKind.wrap_i64]; omega
  obtain ⟨j, hj⟩ : ∃ j, j = i + 1 := ⟨_, rfl⟩
  rw [← hj] at hw1 hw2 ⊢
  have HJ := Aside0.mk hj
  clear hsrc hn h0 h1 hj
  go_enter Try.func59, Try.ntmps59
  go_wp2_with (first
    | (go_at_call 64; refine HC.out.mono ?_; rintro e w1 ⟨v1, rfl, ho1, hb1⟩; have HO1 := Aside0.mk ho1; have HB1 := Aside0.mk hb1; clear ho1 hb1 HC)
    | (go_at_call 84; refine (delS w.heap.size n i j v1 cs _ HO1.out HJ.out HO.out hi).mono ?_; rintro e w2 ⟨v2, rfl, ho2, hb2⟩; have HO2 := Aside0.mk ho2; have HB2 := Aside0.mk (HB1.out.trans hb2); clear ho2 hb2))
  go_ret
  rw [HJ.out]
  exact ⟨_, rfl, HO2.out, HB2.out⟩
set_option maxRecDepth 100000 in
set_option maxHeartbeats 4000000 in
theorem moveS_calls (A : Option Addr) (n c i k : Nat) (cs : List Value) (xs : ByteArray) (w : World) (hsrc : ∀ ad, A = some ad → ∀ j u, cs[j]? = some u → w.cell? (ad.add j) = some u) (hn : cs.length = n) (h0 : A = none → n = 0) (h1 : ∀ u ∈ cs, u.oneCell' = true) (hi : i < n) (hk : k < n) (hx : cs[i]? = some (Value.string xs)) (hl : n ≤ 1000000) :
    Calls Try.prog 48 #[.slice A n c, .int .i64 i, .int .i64 k] w fun e w' => ∃ v, e = .returned v ∧ w'.ownsRow w.heap.size 9 1 v (n - 1 + 1) ((cs.take i ++ cs.drop (i + 1)).take k ++ (Value.string xs) :: (cs.take i ++ cs.drop (i + 1)).drop k) ∧ Below w.heap.size w w' := by
  rcases A with _ | ad
  · have := h0 rfl; omega
  have HX := Aside0.mk (hsrc ad rfl i _ hx)
  have HX0 : Aside0 (w.drew.cell? (ad.add i) = some (Value.string xs)) := ⟨HX.out⟩
  have HS := Aside0.mk (hsrc ad rfl)
  have HN := Aside0.mk hn
  have HO := Aside0.mk h1
  have HO4 : Aside0 (∀ u ∈ cs.take i ++ cs.drop (i + 1), u.oneCell' = true) := ⟨fun u hu => by
    rcases List.mem_append.1 hu with h | h
    · exact h1 u (List.mem_of_mem_take h)
    · exact h1 u (List.mem_of_mem_drop h)⟩
  have hiI : 0 ≤ (i : Int) ∧ (i : Int) < (n : Int) := by omega
  clear hsrc hn h0 h1 hx
  go_enter Try.func48, Try.ntmps48
  go_wp2_with fail
  refine start_ (n := 10) (S := fun w' => w'.cell? (ad.add i) = some (Value.string xs)) (ds := []) #[false, false, false, false, false, false, false, false, false, false] (by kernel_rfl) rfl rfl HX0.out (fun hHeld => ?_)
  generalize hW3 : w.drew = W3 at hHeld ⊢
  have HB3 : Aside0 (Below w.heap.size w W3) := ⟨by rw [← hW3]; exact below_drew (Below.refl _ _)⟩
  clear hW3
  refine pure_ (i := 0) (N := some 7) (v := ?_) (a' := ?_) #[true, false, false, false, false, false, false, false, false, false] rfl rfl (by kernel_rfl) (fun _ _ _ h => h) (Or.inl ⟨by rfl, ?_⟩) ?_ ?_
  rotate_left
  · intro w'
    go_simp
    with_reducible rfl
  rotate_left
  · simp only [Act.put, List.setIfInBounds_toArray, List.set_cons_zero, List.set_cons_succ]
    rfl
  refine pure_ (i := 1) (N := some 8) (v := ?_) (a' := ?_) #[true, true, false, false, false, false, false, false, false, false] rfl rfl (by kernel_rfl) (fun _ _ _ h => h) (Or.inl ⟨by rfl, ?_⟩) ?_ ?_
  rotate_left
  · intro w'
    go_simp
    with_reducible rfl
  rotate_left
  · simp only [Act.put, List.setIfInBounds_toArray, List.set_cons_zero, List.set_cons_succ]
    rfl
  refine pure_ (i := 3) (N := some 10) (v := ?_) (a' := ?_) #[true, true, false, true, false, false, false, false, false, false] rfl rfl (by kernel_rfl) (fun _ _ _ h => h) (Or.inl ⟨by rfl, ?_⟩) ?_ ?_
  rotate_left
  · intro w'
    go_simp
    with_reducible rfl
  rotate_left
  · simp only [Act.put, List.setIfInBounds_toArray, List.set_cons_zero, List.set_cons_succ]
    rfl
  refine pure_ (i := 4) (N := some 11) (v := ?_) (a' := ?_) #[true, true, false, true, true, false, false, false, false, false] rfl rfl (by kernel_rfl) (fun _ _ _ h => h) (Or.inl ⟨by rfl, ?_⟩) ?_ ?_
  rotate_left
  · intro w'
    go_simp
    with_reducible rfl
  rotate_left
  · simp only [Act.put, List.setIfInBounds_toArray, List.set_cons_zero, List.set_cons_succ]
    rfl
  refine pure_ (i := 5) (N := some 12) (v := ?_) (a' := ?_) #[true, true, false, true, true, true, false, false, false, false] rfl rfl (by kernel_rfl) (fun _ _ _ h => h) (Or.inl ⟨by rfl, ?_⟩) ?_ ?_
  rotate_left
  · intro w'
    go_simp
    with_reducible rfl
  rotate_left
  · simp only [Act.put, List.setIfInBounds_toArray, List.set_cons_zero, List.set_cons_succ]
    rfl
  refine pure_ (i := 6) (N := some 13) (v := ?_) (a' := ?_) #[true, true, false, true, true, true, true, false, false, false] rfl rfl (by kernel_rfl) (fun _ _ _ h => h) (Or.inl ⟨by rfl, ?_⟩) ?_ ?_
  rotate_left
  · intro w'
    go_simp
    with_reducible rfl
  rotate_left
  · simp only [Act.put, List.setIfInBounds_toArray, List.set_cons_zero, List.set_cons_succ]
    rfl
  refine take_ (i := 7) (N := some 14) (v := ?_) (a' := ?_) #[true, true, false, true, true, true, true, true, false, false] rfl rfl (by kernel_rfl) (fun _ _ _ h => h) (Or.inl ⟨by rfl, ?_⟩) hHeld ?_ ?_
  rotate_left
  · intro w' hx0
    go_simp
    with_reducible rfl
  rotate_left
  · simp only [Act.put, List.setIfInBounds_toArray, List.set_cons_zero, List.set_cons_succ]
    rfl
  refine one_ (i := 2) (N := some 9) #[true, true, true, true, true, true, true, true, false, false] rfl rfl (by kernel_rfl) (by decide) (fun K hK => ?_)
  refine goes_ Try.func59 (by kernel_rfl) rfl #[.slice (some ad) n c, .int .i64 i] (by rfl) rfl rfl (by (try simp only [List.map_toArray, List.map_cons, List.map_nil]); first | done | rfl) ?_
  refine (dropS_calls (some ad) n c i cs _ (fun ad' e j u hu => by cases e; exact pw_cell_below HB3.out (HS.out j u hu)) HN.out (fun e => nomatch e) HO.out hi hl).mono ?_
  rintro e w4 ⟨v4, rfl, ho4, hb4⟩
  obtain ⟨A4, c4, rfl, hn4, hs4⟩ := own_slice ho4
  refine ⟨_, rfl, ?_⟩
  have HB4 := Aside0.mk (HB3.out.trans (hb4.mono HB3.out.size))
  have HS4 := Aside0.mk hs4
  have HL4 := Aside0.mk ho4.1
  clear ho4 hb4 hs4
  refine hK.out _ _ (pw_cell_below HB4.out HX.out) (fun hHeld => ?_)
  clear hK K
  refine norm_ (a' := ?_) ?_ ?_
  rotate_left
  · show Act.put _ (some 9) _ = _
    simp only [Act.put, List.setIfInBounds_toArray, List.set_cons_zero, List.set_cons_succ]
    rfl
  refine one_ (i := 8) (N := some 15) #[true, true, true, true, true, true, true, true, true, false] rfl rfl (by kernel_rfl) (by decide) (fun K hK => ?_)
  refine goes_ Try.func55 (by kernel_rfl) rfl #[.slice A4 (n - 1) c4, .int .i64 k, (Value.string xs)] (by rfl) rfl rfl (by (try simp only [List.map_toArray, List.map_cons, List.map_nil]); first | done | rfl) ?_
  refine (putS_calls A4 (n - 1) c4 k (cs.take i ++ cs.drop (i + 1)) xs _ HS4.out (by rw [HL4.out, Nat.mul_one]) hn4 HO4.out (by omega) (by omega)).mono ?_
  rintro e w5 ⟨v5, rfl, ho5, hb5⟩
  refine ⟨_, rfl, ?_⟩
  have HB5 := Aside0.mk (HB4.out.trans (hb5.mono HB4.out.size))
  have HO5 := Aside0.mk (own_weaken ho5 HB4.out.size)
  clear ho5 hb5
  refine hK.out _ _ (pw_cell_below HB5.out HX.out) (fun hHeld => ?_)
  clear hK K
  refine norm_ (a' := ?_) ?_ ?_
  rotate_left
  · show Act.put _ (some 15) _ = _
    simp only [Act.put, List.setIfInBounds_toArray, List.set_cons_zero, List.set_cons_succ]
    rfl
  refine pure_ (i := 9) (N := some 6) (v := ?_) (a' := ?_) #[true, true, true, true, true, true, true, true, true, true] rfl rfl (by kernel_rfl) (fun _ _ _ h => h) (Or.inl ⟨by rfl, ?_⟩) ?_ ?_
  rotate_left
  · intro w'
    go_simp
    with_reducible rfl
  rotate_left
  · simp only [Act.put, List.setIfInBounds_toArray, List.set_cons_zero, List.set_cons_succ]
    rfl
  refine done_ (by kernel_rfl) ?_
  clear hHeld

  go_wp2
  go_ret
  exact ⟨_, rfl, HO5.out, HB5.out⟩
end Go.Proofs.Ytaolakknkhggnaa.X
end
section
namespace Go.Proofs.Ytaolakknkhggnaa.X
open Go.RowKit Go.Maps Go.Shelf Go.Proofs.YtaolakknkhggnaaW.PrintWords Go.Proofs.YtaolakknkhggnaaW.PrintLast
set_option linter.unusedVariables false
theorem lay_stepT {P : Program} {ops : Array Oper} {o : Oper} {a : Act} {Kc : Act → World → Prop} {Q : Exit → Act → World → Prop} {W : World} {n : Nat} {cs : Array Value} {e : TypeId} (hw : Region.wanted o (yielded ops a.tmps) = true) {N : Option Tmp} (hN : o.dst = N)
    (hrun : (execOp a.eval o).run P W = .ok (.value (.slice (some ⟨W.heap.size, 0, none⟩) n n)) (W.alloc (.cells cs e)))
    (h : Kc (a.put N (.slice (some ⟨W.heap.size, 0, none⟩) n n)) (W.alloc (.cells cs e))) : if Region.wanted o (yielded ops a.tmps) = true then Oper.wp P o a W Kc Q else Kc (a.put N undef) W := by
  subst hN
  rw [if_pos hw]
  unfold Oper.wp
  rw [hrun]
  exact h
/-- A table's value that is made: its head v0, its rows v1. -/
def MadeT (base : Nat) (W : World) (v0 v1 : Value) (hd : List ByteArray) (rows : List (List ByteArray)) : Prop :=
  Kd.R Kd.string 9 W base (fun _ => True) v0 hd ∧ Kd.S (Kd.slice 9 Kd.string) 22 W base (fun k_ => some k_ ≠ v0.ownBlock) v1 rows
theorem MadeT.lower {base base' : Nat} {W : World} {v0 v1 : Value} {hd : List ByteArray} {rows : List (List ByteArray)} (h : MadeT base W v0 v1 hd rows) (hb : base' ≤ base) : MadeT base' W v0 v1 hd rows := ⟨Kd.R_lower h.1 hb, Kd.S_lower h.2 hb⟩
theorem MadeT.below {base : Nat} {W W' : World} {v0 v1 : Value} {hd : List ByteArray} {rows : List (List ByteArray)} (h : MadeT base W v0 v1 hd rows) (hb : Below W.heap.size W W') : MadeT base W' v0 v1 hd rows := ⟨Kd.R_below h.1 hb, Kd.S_below h.2 hb⟩
theorem MadeT.nil (base : Nat) (W : World) : MadeT base W (.slice none 0 0) (.slice none 0 0) [] [] := ⟨Kd.R_nil _ _ _ _ _, Kd.S_nil _ _ _ _ _⟩
/-- A closure of one text row. -/
def HowL (K : FuncId) (cap : Array Value) (w : World) (f : List ByteArray → List ByteArray) (ok : List ByteArray → Prop) : Prop :=
  ∀ (W : World) (A : Option Addr) (c : Nat) (x : List ByteArray), Below w.heap.size w W → ok x → x.length ≤ c → Kd.C Kd.string W A x.length x →
    Calls Try.prog K (#[.slice A x.length c] ++ cap) W fun e W' => ∃ v, e = .returned v ∧ Kd.R Kd.string 9 W' W.heap.size (fun _ => True) v (f x) ∧ Below W.heap.size W W'
/-- A closure of a number and a row. -/
def HowI (K : FuncId) (cap : Array Value) (w : World) (f : Nat → List ByteArray → List ByteArray) (rows : List (List ByteArray)) : Prop :=
  ∀ (W : World) (i : Nat) (A : Option Addr) (c : Nat) (x : List ByteArray), Below w.heap.size w W → rows[i]? = some x → x.length ≤ c → Kd.C Kd.string W A x.length x →
    Calls Try.prog K (#[.int .i64 i, .slice A x.length c] ++ cap) W fun e W' => ∃ v, e = .returned v ∧ Kd.R Kd.string 9 W' W.heap.size (fun _ => True) v (f i x) ∧ Below W.heap.size W W'
def Enters (K : FuncId) : Prop := ∀ (args : Array Value) (W : World), (callFunc K args).run Try.prog W = .ok (.enter K args) W
def outI (ro : Nat → List ByteArray → List ByteArray) (rows : List (List ByteArray)) (k : Nat) : List (List ByteArray) := (List.range k).map fun i => ro i (rows.getD i [])
theorem outI_succ (ro : Nat → List ByteArray → List ByteArray) (rows : List (List ByteArray)) (i : Nat) : outI ro rows (i + 1) = outI ro rows i ++ [ro i (rows.getD i [])] := by unfold outI; rw [List.range_succ, List.map_append]; rfl
theorem outI_length (ro : Nat → List ByteArray → List ByteArray) (rows : List (List ByteArray)) (i : Nat) : (outI ro rows i).length = i := by unfold outI; simp
/-- columns' state. -/
structure CAt (w : World) (X : Array Value) (T : Nat) (hd : List ByteArray) (rows : List (List ByteArray)) (v0 v1 : Value) (W : World) : Prop where
  t : W.heap[T]? = some (.cells #[v0, v1] 25 (0, 0))
  z : W.heap[w.heap.size + 2]? = some (.cells #[.slice none 0 0, .slice none 0 0] 25 (0, 0))
  x : W.heap[w.heap.size + 1]? = some (.cells X 73 (0, 0))
  r0 : Kd.R Kd.string 9 W w.heap.size (fun k => k < T) v0 hd
  r1 : Kd.S (Kd.slice 9 Kd.string) 22 W w.heap.size (fun k => T < k) v1 rows
  lo : Below w.heap.size w W
  gt : w.heap.size + 2 < T
theorem CAt.below {w : World} {X : Array Value} {T : Nat} {hd : List ByteArray} {rows : List (List ByteArray)} {v0 v1 : Value} {W W' : World} (h : CAt w X T hd rows v0 v1 W) (hb : Below W.heap.size W W') : CAt w X T hd rows v0 v1 W' :=
  ⟨(hb.block _ (lt_of_block h.t)).trans h.t, (hb.block _ (lt_of_block h.z)).trans h.z, (hb.block _ (lt_of_block h.x)).trans h.x, Kd.R_below h.r0 hb, Kd.S_below h.r1 hb, h.lo.trans (hb.mono h.lo.size), h.gt⟩
theorem CAt.step {w : World} {X : Array Value} {T : Nat} {hd : List ByteArray} {rows : List (List ByteArray)} {v0 v1 v1' : Value} {W w2 : World} {x : List ByteArray} (h : CAt w X T hd rows v0 v1 W) (hS : Kd.S (Kd.slice 9 Kd.string) 22 w2 w.heap.size (fun k => T < k) v1' (rows ++ [x])) (hb : Below w.heap.size w w2) (hg : W.grownBy w2 v1.ownBlock) :
    CAt w X T hd (rows ++ [x]) v0 v1' (w2.setCell ⟨T, 1, none⟩ v1') := by
  have hT := lt_of_block h.t
  have h1 : ∀ k, v1.ownBlock = some k → T < k := (Kd.S_R h.r1).1
  have hgt := h.gt
  have ht2 : w2.heap[T]? = some (.cells #[v0, v1] 25 (0, 0)) := (hg.block _ hT (fun e => by have := h1 T e.symm; omega)).trans h.t
  refine ⟨heap_setCell_same _ _ _ _ _ _ ht2, ?_, ?_, ?_, ?_, hb.setCell (by show w.heap.size ≤ T; omega) _, hgt⟩
  · rw [Below.heap_setCell _ _ _ _ (by show w.heap.size + 2 ≠ T; omega)]
    exact (hg.block _ (lt_of_block h.z) (fun e => by have := h1 _ e.symm; omega)).trans h.z
  · rw [Below.heap_setCell _ _ _ _ (by show w.heap.size + 1 ≠ T; omega)]
    exact (hg.block _ (lt_of_block h.x) (fun e => by have := h1 _ e.symm; omega)).trans h.x
  · exact Kd.R_far (p := ⟨T, 1, none⟩) (Kd.R_grown h.r0 hg (fun k hk e => by have := h1 _ e.symm; omega)) (fun k hk => by show k ≠ T; omega) _
  · exact Kd.S_far (p := ⟨T, 1, none⟩) hS (fun k hk => by show k ≠ T; omega) _
theorem CAt.made {w : World} {X : Array Value} {T : Nat} {hd : List ByteArray} {rows : List (List ByteArray)} {v0 v1 u : Value} {W W1 : World} {x : List ByteArray} (h : CAt w X T hd rows v0 v1 W) (hb : Below W.heap.size W W1) (hu : Kd.R Kd.string 9 W1 W.heap.size (fun _ => True) u x) :
    (Kd.slice 9 Kd.string).M W1 w.heap.size (fun k => W.heap.size ≤ k ∧ k < W1.heap.size) x [u] ∧ (∀ k, W.heap.size ≤ k ∧ k < W1.heap.size → T < k ∧ some k ≠ v1.ownBlock) ∧ (∀ k, W1.heap.size ≤ k → T < k) ∧ Kd.S (Kd.slice 9 Kd.string) 22 W1 w.heap.size (fun k => T < k ∧ ¬ (W.heap.size ≤ k ∧ k < W1.heap.size)) v1 rows := by
  have hT := lt_of_block h.t
  have hs := hb.size
  refine ⟨⟨u, rfl, Kd.R_lower (Kd.R_mono (Kd.R_bound hu) (fun k hk => ⟨hk.2.1, hk.2.2.1⟩)) h.lo.size⟩, fun k hk => ⟨by omega, fun e => ?_⟩, fun k hk => by omega, ?_⟩
  · have := Kd.S_lt h.r1 k e.symm
    omega
  · exact Kd.S_mono (Kd.S_below (Kd.S_bound h.r1) hb) (fun k hk => ⟨hk.1, by have := hk.2.2.1; omega⟩)
theorem CAt.start {w W0 w1 : World} {X : Array Value} {hd : List ByteArray} {v0 : Value} (hz : W0.heap[w.heap.size + 2]? = some (.cells #[.slice none 0 0, .slice none 0 0] 25 (0, 0))) (hx : W0.heap[w.heap.size + 1]? = some (.cells X 73 (0, 0))) (h0 : Below w.heap.size w W0) (hb1 : Below W0.heap.size W0 w1) (hv : Kd.R Kd.string 9 w1 W0.heap.size (fun _ => True) v0 hd) :
    CAt w X w1.heap.size hd [] v0 (.slice none 0 0) (w1.alloc (.cells #[v0, .slice none 0 0] 25)) := by
  have hs := hb1.size
  have hz2 := lt_of_block hz
  have ha := below_alloc (Below.refl _ w1) (.cells #[v0, .slice none 0 0] 25)
  refine ⟨blk_new w1 _, (ha.block _ (by omega)).trans ((hb1.block _ hz2).trans hz), (ha.block _ (by omega)).trans ((hb1.block _ (lt_of_block hx)).trans hx), ?_, Kd.S_nil _ _ _ _ _, ?_, by omega⟩
  · exact Kd.R_lower (Kd.R_mono (Kd.R_alloc (Kd.R_bound hv) _) (fun k hk => hk.2.2.1)) h0.size
  · exact (h0.trans (hb1.mono h0.size)).alloc (by have := h0.size; omega) _
theorem CAt.held {w : World} {H R : FuncId} {capH capR : Array Value} {T : Nat} {hd : List ByteArray} {rows : List (List ByteArray)} {v0 v1 : Value} {W : World} (h : CAt w #[.func (.func H) #[] capH, .func (.func R) #[] capR] T hd rows v0 v1 W) : W.cell? ⟨T, 1, none⟩ = some v1 ∧ W.cell? ⟨T, 0, none⟩ = some v0 ∧ W.cell? ⟨w.heap.size + 1, 1, none⟩ = some (.func (.func R) #[] capR) := ⟨blk_cell h.t 1, blk_cell h.t 0, blk_cell h.x 1⟩
theorem CAt.kept {w : World} {X : Array Value} {T : Nat} {hd : List ByteArray} {rows : List (List ByteArray)} {v0 v1 : Value} {W w2 : World} (h : CAt w X T hd rows v0 v1 W) (hg : W.grownBy w2 v1.ownBlock) : w2.heap[T]? = some (.cells #[v0, v1] 25 (0, 0)) :=
  (hg.block _ (lt_of_block h.t) (fun e => Nat.lt_irrefl _ ((Kd.S_R h.r1).1 T e.symm))).trans h.t
theorem CAt.keptx {w : World} {X : Array Value} {T : Nat} {hd : List ByteArray} {rows : List (List ByteArray)} {v0 v1 : Value} {W w2 : World} (h : CAt w X T hd rows v0 v1 W) (hg : W.grownBy w2 v1.ownBlock) : w2.heap[w.heap.size + 1]? = some (.cells X 73 (0, 0)) :=
  (hg.block _ (lt_of_block h.x) (fun e => by have := (Kd.S_R h.r1).1 _ e.symm; have := h.gt; omega)).trans h.x
theorem CAt.end_ {w : World} {X : Array Value} {T : Nat} {hd : List ByteArray} {rows : List (List ByteArray)} {v0 v1 : Value} {W : World} (h : CAt w X T hd rows v0 v1 W) (x y : Value) :
    MadeT w.heap.size ((W.setCell ⟨w.heap.size + 2, 0, none⟩ x).setCell ⟨w.heap.size + 2, 1, none⟩ y) v0 v1 hd rows ∧ Below w.heap.size w ((W.setCell ⟨w.heap.size + 2, 0, none⟩ x).setCell ⟨w.heap.size + 2, 1, none⟩ y) := by
  have hz2 := heap_setCell_same _ _ 0 _ _ x h.z
  refine ⟨⟨Kd.R_mono (Kd.R_set (Kd.R_set h.r0 h.z (by decide) 0 x) hz2 (by decide) 1 y) (fun _ _ => trivial), Kd.S_mono (Kd.S_set (Kd.S_set h.r1 h.z (by decide) 0 x) hz2 (by decide) 1 y) (fun k hk e => ?_)⟩, (h.lo.setCell (by simp) _).setCell (by simp) _⟩
  have := h.r0.1 k e.symm
  have hk' : T < k := hk
  have h2 : k < T := this
  omega
set_option maxRecDepth 100000 in
set_option maxHeartbeats 8000000 in
theorem columns_calls (H R : FuncId) (capH capR : Array Value) (A0 : Option Addr) (c0 : Nat) (hd : List ByteArray) (A1 : Option Addr) (c1 : Nat) (rows : List (List ByteArray)) (ho : List ByteArray) (ro : Nat → List ByteArray → List ByteArray) (w : World)
    (hr0 : Kd.C Kd.string w A0 hd.length hd) (hc0 : hd.length ≤ c0) (hr1 : Kd.C (Kd.slice 9 Kd.string) w A1 rows.length rows) (hl : rows.length ≤ 100000) (hEH : Enters H) (hER : Enters R) (hH : HowL H capH w (fun _ => ho) (fun x => x = hd)) (hR : HowI R capR w ro rows) :
    Calls Try.prog 53 #[.agg #[.slice A0 hd.length c0, .slice A1 rows.length c1], .agg #[.func (.func H) #[] capH, .func (.func R) #[] capR]] w fun e W' => ∃ v0 v1, e = .returned (.agg #[v0, v1]) ∧ MadeT w.heap.size W' v0 v1 ho (outI ro rows rows.length) ∧ Below w.heap.size w W' := by
  obtain ⟨W0, hW0⟩ : ∃ W0, W0 = ((w.alloc (.cells #[.slice A0 hd.length c0, .slice A1 rows.length c1] 25)).alloc (.cells #[.func (.func H) #[] capH, .func (.func R) #[] capR] 73)).alloc (.cells #[.slice none 0 0, .slice none 0 0] 25) := ⟨_, rfl⟩
  have hb0 : Below w.heap.size w W0 := by rw [hW0]; exact below_alloc (below_alloc (below_alloc (Below.refl _ _) _) _) _
  have hz0 : W0.heap[w.heap.size + 2]? = some (.cells #[.slice none 0 0, .slice none 0 0] 25 (0, 0)) := by
    rw [hW0]
    have h := blk_new ((w.alloc (.cells #[.slice A0 hd.length c0, .slice A1 rows.length c1] 25)).alloc (.cells #[.func (.func H) #[] capH, .func (.func R) #[] capR] 73)) (.cells #[.slice none 0 0, .slice none 0 0] 25)
    rw [World.size_alloc, World.size_alloc] at h
    exact h
  have hx0 : W0.heap[w.heap.size + 1]? = some (.cells #[.func (.func H) #[] capH, .func (.func R) #[] capR] 73 (0, 0)) := by
    rw [hW0]
    have h := blk_new (w.alloc (.cells #[.slice A0 hd.length c0, .slice A1 rows.length c1] 25)) (.cells #[.func (.func H) #[] capH, .func (.func R) #[] capR] 73)
    rw [World.size_alloc] at h
    exact ((below_alloc (Below.refl _ _) _).block _ (by simp)).trans h
  have ht0 : W0.heap[w.heap.size]? = some (.cells #[.slice A0 hd.length c0, .slice A1 rows.length c1] 25 (0, 0)) := by
    rw [hW0]
    exact ((below_alloc (below_alloc (Below.refl _ (w.alloc (.cells #[.slice A0 hd.length c0, .slice A1 rows.length c1] 25))) _) _).block _ (by simp)).trans (blk_new w _)
  have HHX := Aside0.mk (hH W0 A0 c0 hd hb0 rfl hc0 (Kd.C_below hr0 hb0))
  have HRX := Aside0.mk hR
  have HER := Aside0.mk hER
  have HB0 := Aside0.mk hb0
  have HZ0 := Aside0.mk hz0
  have HX0 := Aside0.mk hx0
  have HT0 := Aside0.mk ht0
  have HW0 := Aside0.mk hW0
  have HR := Aside0.mk hr1
  have hEH' : ∀ (args : Array Value) (W : World), (callFunc H args).run Try.prog W = .ok (.enter H args) W := hEH
  obtain ⟨n, hn⟩ : ∃ n, n = rows.length := ⟨_, rfl⟩
  have HN := Aside0.mk hn
  have hn1 : n ≤ 100000 := by omega
  rw [← hn]
  clear hH hR hER hEH hb0 hz0 hx0 ht0 hW0 hr0 hr1 hl hn
  go_enter Try.func53, Try.ntmps53
  go_wp2_with (rw [HN.out, ← HW0.out]; refine HHX.out.mono ?_; rintro e w1 ⟨v0, rfl, hv0, hb1⟩; obtain ⟨Av, cv, rfl, hcv, hCv⟩ := Kd.R_reads hv0; have HA := Aside0.mk (CAt.start HZ0.out HX0.out HB0.out hb1 hv0); have ht1 : (w1.alloc (.cells #[.slice Av ho.length cv, .slice none 0 0] 25)).cell? ⟨w.heap.size, 1, none⟩ = some (.slice A1 rows.length c1) := pw_cell_below (below_alloc (Below.refl _ w1) _) ((blk_cell ((hb1.block _ (lt_of_block HT0.out)).trans HT0.out) 1).trans rfl); rw [← HN.out] at ht1; clear hv0 hb1 hCv HHX)
  rw [show ([] : List (List ByteArray)) = outI ro rows 0 from rfl] at HA
  generalize hT : w1.heap.size = T at HA ⊢
  go_loopw [17] (fun vi wr => ∃ (i : Nat) (v1 : Value), vi = .int .i64 i ∧ i ≤ n ∧ Aside0 (CAt w #[.func (.func H) #[] capH, .func (.func R) #[] capR] T ho (outI ro rows i) (.slice Av ho.length cv) v1 wr))
    (fun vi _ => n - (intOf vi).toNat)
  case atStart => exact ⟨0, _, rfl, Nat.zero_le _, HA⟩
  case round =>
    clear HA ht1
    obtain ⟨i, v1, rfl, hi, HA⟩ := hrel
    by_cases hlt : i < n
    · obtain ⟨ad', Ax, cx, eA, hx, hcx, hCx⟩ := rowAt (Kd.C_below HR.out HA.out.lo) (show i < rows.length by rw [← HN.out]; exact hlt)
      cases eA
      have hiI : (i : Int) < (n : Int) := by omega
      obtain ⟨x, hxd⟩ : ∃ x, x = rows.getD i [] := ⟨_, rfl⟩
      rw [← hxd] at hx hcx hCx
      have HXI : Aside0 (rows[i]? = some x) := ⟨by rw [hxd, List.getD_eq_getElem?_getD, List.getElem?_eq_getElem (by rw [← HN.out]; exact hlt)]; rfl⟩
      have HTK := Aside0.mk (outI_succ ro rows i)
      rw [← hxd] at HTK
      have HCx := Aside0.mk hCx
      clear hCx hxd
      obtain ⟨Y, hY⟩ : ∃ Y, Y = outI ro rows i := ⟨_, rfl⟩
      have hYl : Y.length ≤ n := by rw [hY, outI_length]; omega
      rw [← hY] at HA HTK
      clear hY
      obtain ⟨Ar, cr, rfl, hcr, hCr⟩ := Kd.R_reads (Kd.S_R HA.out.r1)
      clear hCr
      have hh0 := HA.out.held
      go_wp2
      refine start_ (n := 11) (S := fun w' => w'.cell? ⟨T, 1, none⟩ = some (.slice Ar Y.length cr) ∧ w'.cell? ⟨T, 0, none⟩ = some (.slice Av ho.length cv) ∧ w'.cell? ⟨w.heap.size + 1, 1, none⟩ = some (.func (.func R) #[] capR)) (ds := [10]) #[false, false, false, false, false, false, false, false, false, false, false] (by kernel_rfl) rfl rfl hh0 (fun hHeld => ?_)
      have HA3 := Aside0.mk (HA.out.below (below_drew (Below.refl _ _)))
      have HCx3 := Aside0.mk (Kd.C_below HCx.out (below_drew (Below.refl _ _)))
      clear HA hh0 hx HCx
      generalize wr.drew = W3 at hHeld HA3 HCx3 ⊢
      refine pure_ (i := 0) (N := some 22) (v := ?_) (a' := ?_) #[true, false, false, false, false, false, false, false, false, false, false] rfl rfl (by kernel_rfl) (fun _ _ _ h => h) (Or.inl ⟨by rfl, ?_⟩) ?_ ?_
      rotate_left
      · intro w'
        go_simp
        with_reducible rfl
      rotate_left
      · simp only [Act.put, List.setIfInBounds_toArray, List.set_cons_zero, List.set_cons_succ]
        rfl
      refine take_ (i := 1) (N := some 23) (v := ?_) (a' := ?_) #[true, true, false, false, false, false, false, false, false, false, false] rfl rfl (by kernel_rfl) (fun _ _ _ h => h) (Or.inl ⟨by rfl, ?_⟩) hHeld ?_ ?_
      rotate_left
      · rintro w' ⟨s0, s1, s2⟩
        go_simp
        with_reducible rfl
      rotate_left
      · simp only [Act.put, List.setIfInBounds_toArray, List.set_cons_zero, List.set_cons_succ]
        rfl
      refine pure_ (i := 2) (N := some 24) (v := ?_) (a' := ?_) #[true, true, true, false, false, false, false, false, false, false, false] rfl rfl (by kernel_rfl) (fun _ _ _ h => h) (Or.inl ⟨by rfl, ?_⟩) ?_ ?_
      rotate_left
      · intro w'
        go_simp
        with_reducible rfl
      rotate_left
      · simp only [Act.put, List.setIfInBounds_toArray, List.set_cons_zero, List.set_cons_succ]
        rfl
      refine take_ (i := 3) (N := some 25) (v := ?_) (a' := ?_) #[true, true, true, true, false, false, false, false, false, false, false] rfl rfl (by kernel_rfl) (fun _ _ _ h => h) (Or.inl ⟨by rfl, ?_⟩) hHeld ?_ ?_
      rotate_left
      · rintro w' ⟨s0, s1, s2⟩
        go_simp
        with_reducible rfl
      rotate_left
      · simp only [Act.put, List.setIfInBounds_toArray, List.set_cons_zero, List.set_cons_succ]
        rfl
      refine pure_ (i := 4) (N := some 26) (v := ?_) (a' := ?_) #[true, true, true, true, true, false, false, false, false, false, false] rfl rfl (by kernel_rfl) (fun _ _ _ h => h) (Or.inl ⟨by rfl, ?_⟩) ?_ ?_
      rotate_left
      · intro w'
        go_simp
        with_reducible rfl
      rotate_left
      · simp only [Act.put, List.setIfInBounds_toArray, List.set_cons_zero, List.set_cons_succ]
        rfl
      refine pure_ (i := 5) (N := some 27) (v := ?_) (a' := ?_) #[true, true, true, true, true, true, false, false, false, false, false] rfl rfl (by kernel_rfl) (fun _ _ _ h => h) (Or.inl ⟨by rfl, ?_⟩) ?_ ?_
      rotate_left
      · intro w'
        go_simp
        with_reducible rfl
      rotate_left
      · simp only [Act.put, List.setIfInBounds_toArray, List.set_cons_zero, List.set_cons_succ]
        rfl
      refine one_ (i := 6) (N := some 28) #[true, true, true, true, true, true, true, false, false, false, false] rfl rfl (by kernel_rfl) (by decide) (fun K hK => ?_)
      refine call_ R (#[.int .i64 i, .slice Ax x.length cx] ++ capR) (by rfl) rfl (by simp [execOp, resolve, Deferred.ofValue, invoke, Act.eval]; exact HER.out _ _) ?_
      refine (HRX.out _ i Ax cx x HA3.out.lo HXI.out hcx HCx3.out).mono ?_
      rintro e w4 ⟨u, rfl, hu, hb⟩
      obtain ⟨Au, cu, rfl, hcu, hCu⟩ := Kd.R_reads hu
      clear hCu
      refine ⟨_, rfl, ?_⟩
      have HC4 := Aside0.mk (HA3.out.made hb hu)
      have HA4 := Aside0.mk (HA3.out.below hb)
      clear hu hb HA3
      refine hK.out _ _ HA4.out.held (fun hHeld => ?_)
      clear hK K
      refine norm_ (a' := ?_) ?_ ?_
      rotate_left
      · show Act.put _ (some 28) _ = _
        simp only [Act.put, List.setIfInBounds_toArray, List.set_cons_zero, List.set_cons_succ]
        rfl
      refine one_ (i := 7) (N := some 29) #[true, true, true, true, true, true, true, true, false, false, false] rfl rfl (by kernel_rfl) (by decide) (fun K hK => ?_)
      refine lay_stepT (n := 1) (cs := [Value.slice Au (ro i x).length cu].toArray) (e := 22) rfl rfl ?hr ?_
      case hr => first | (go_simp; done) | (go_simp; rfl)
      refine hK.out _ _ ⟨pw_cell_below (below_alloc (Below.refl _ _) _) hHeld.1, pw_cell_below (below_alloc (Below.refl _ _) _) hHeld.2.1, pw_cell_below (below_alloc (Below.refl _ _) _) hHeld.2.2⟩ (fun hHeld => ?_)
      clear hK K
      refine norm_ (a' := ?_) ?_ ?_
      rotate_left
      · show Act.put _ (some 29) _ = _
        simp only [Act.put, List.setIfInBounds_toArray, List.set_cons_zero, List.set_cons_succ]
        rfl
      refine one_ (i := 8) (N := some 30) #[true, true, true, true, true, true, true, true, true, false, false] rfl rfl (by kernel_rfl) (by decide) (fun K hK => ?_)
      refine Kd.S_append_step (Kd.slice 9 Kd.string) (w0 := w) w.heap.size rfl (.tmp 23) (.tmp 29) 23 22 (.slice none 0 0) 24 rfl Try.underlying23 infoSS rfl (by decide) (by decide) (.slice Ar Y.length cr) Y (ro i x) [.slice Au (ro i x).length cu] (fun k => T < k) _ rfl rfl HC4.out.1 HC4.out.2.1 HC4.out.2.2.1 HC4.out.2.2.2 HA4.out.lo HA4.out.lo.size (by omega) ?_
      intro v' w5 hS hb5 hg5 hat
      clear hat
      obtain ⟨Aw, cw, rfl, hcw, hCw⟩ := Kd.R_reads (Kd.S_R hS)
      clear hCw
      have HA5 := Aside0.mk (HA4.out.step hS hb5 hg5)
      have hT5 := HA4.out.kept hg5
      have hX5 := HA4.out.keptx hg5
      have hc5 := blk_cell hT5 1
      have hf5 := blk_frozen hT5 1
      refine hK.out _ _ ⟨blk_cell hT5 1, blk_cell hT5 0, blk_cell hX5 1⟩ (fun hHeld => ?_)
      clear hK K hS hb5 hg5 HC4 hT5 hX5
      refine norm_ (a' := ?_) ?_ ?_
      rotate_left
      · show Act.put _ (some 30) _ = _
        simp only [Act.put, List.setIfInBounds_toArray, List.set_cons_zero, List.set_cons_succ]
        rfl
      refine pure_ (i := 9) (N := some 31) (v := ?_) (a' := ?_) #[true, true, true, true, true, true, true, true, true, true, false] rfl rfl (by kernel_rfl) (fun _ _ _ h => h) (Or.inl ⟨by rfl, ?_⟩) ?_ ?_
      rotate_left
      · intro w'
        go_simp
        with_reducible rfl
      rotate_left
      · simp only [Act.put, List.setIfInBounds_toArray, List.set_cons_zero, List.set_cons_succ]
        rfl
      refine last_ (i := 10) (N := none) #[true, true, true, true, true, true, true, true, true, true, true] rfl rfl (by kernel_rfl) (by decide) (fun K hK => ?_)
      refine skip_ (w1 := w5.setCell ⟨T, 1, none⟩ (.slice Aw (Y ++ [ro i x]).length cw)) rfl rfl ?hr2 ?_
      case hr2 => first | (go_simp; done) | (go_simp; rfl)
      refine hK.out _ _ ?_
      clear hK K
      refine done_ (by kernel_rfl) ?_
      clear hHeld hc5 hf5
      have HA7 : Aside0 (CAt w #[.func (.func H) #[] capH, .func (.func R) #[] capR] T ho (outI ro rows (i + 1)) (.slice Av ho.length cv) (.slice Aw (Y.length + 1) cw) (w5.setCell ⟨T, 1, none⟩ (.slice Aw (Y.length + 1) cw))) := ⟨by have h := HA5.out; rw [show (Y ++ [ro i x]).length = Y.length + 1 by simp] at h; rw [← HTK.out] at h; exact h⟩
      clear HA5 HA4
      go_wp2
      go_roundw
      case rel => exact ⟨i + 1, _, by go_num, by omega, HA7⟩
      case measure => simp [intOf]; omega
    · obtain rfl : i = n := by omega
      obtain ⟨Ar, cr, rfl, hcr, hCr⟩ := Kd.R_reads (Kd.S_R HA.out.r1)
      clear hCr
      have hx0 := blk_cell HA.out.t 0
      have hx1 := blk_cell HA.out.t 1
      have hy0 := blk_cell HA.out.z 0
      have hy1 := blk_cell HA.out.z 1
      have hu0 := blk_frozen HA.out.z 0
      have hu1 := blk_frozen HA.out.z 1
      have HF := Aside0.mk (HA.out.end_ (.slice Av ho.length cv) (.slice Ar (outI ro rows i).length cr))
      have hf0 : ((wr.setCell ⟨w.heap.size + 2, 0, none⟩ (.slice Av ho.length cv)).setCell ⟨w.heap.size + 2, 1, none⟩ (.slice Ar (outI ro rows i).length cr)).heap[w.heap.size + 2]? = some (.cells #[.slice Av ho.length cv, .slice Ar (outI ro rows i).length cr] 25 (0, 0)) := heap_setCell_same _ _ 1 _ _ _ (heap_setCell_same _ _ 0 _ _ _ HA.out.z)
      have hc0 := blk_cell hf0 0
      have hc1 := blk_cell hf0 1
      go_wp2
      refine bodyPost_ret (v := .agg #[.slice Av ho.length cv, .slice Ar (outI ro rows i).length cr]) (by simp [results, Try.results53, go_sem, hc0, hc1]) rfl ?_
      exact ⟨_, _, rfl, HF.out.1, HF.out.2⟩
end Go.Proofs.Ytaolakknkhggnaa.X
end
section
namespace Go.Proofs.Ytaolakknkhggnaa.X
open Go.RowKit Go.Maps Go.Shelf Go.Proofs.YtaolakknkhggnaaW.PrintWords Go.Proofs.YtaolakknkhggnaaW.PrintLast
set_option linter.unusedVariables false
theorem MadeT.far {base : Nat} {W : World} {v0 v1 : Value} {hd : List ByteArray} {rows : List (List ByteArray)} (h : MadeT base W v0 v1 hd rows) {p : Addr} (hp : p.block < base) (u : Value) : MadeT base (W.setCell p u) v0 v1 hd rows :=
  ⟨Kd.R_mono (Kd.R_far (Kd.R_bound h.1) (fun k hk => by have := hk.2.1; omega) u) (fun _ _ => trivial), Kd.S_mono (Kd.S_far (Kd.S_bound h.2) (fun k hk => by have := hk.2.1; omega) u) (fun _ hk => hk.1)⟩
theorem HowL.weak {K : FuncId} {cap : Array Value} {w w' : World} {f g : List ByteArray → List ByteArray} {ok ok' : List ByteArray → Prop} (h : HowL K cap w f ok) (hb : Below w.heap.size w w') (hok : ∀ x, ok' x → ok x) (hf : ∀ x, ok' x → f x = g x) : HowL K cap w' g ok' := fun W A c x hW hx hc hC => by
  have h1 := h W A c x (hb.trans (hW.mono hb.size)) (hok x hx) hc hC
  rw [hf x hx] at h1
  exact h1
theorem outI_map (f : List ByteArray → List ByteArray) (rows : List (List ByteArray)) : outI (fun _ x => f x) rows rows.length = rows.map f := by
  refine List.ext_getElem (by rw [outI_length, List.length_map]) fun i h1 h2 => ?_
  rw [outI_length] at h1
  unfold outI
  simp [List.getD_eq_getElem?_getD, List.getElem?_eq_getElem h1]
theorem each1_enters : Enters 82 := fun args W => enters_ Try.func82 (by kernel_rfl) rfl args W
theorem clone_enters : Enters 64 := fun args W => enters_ Try.func64 (by kernel_rfl) rfl args W
set_option maxRecDepth 100000 in
set_option maxHeartbeats 800000 in
theorem each1_calls (K : FuncId) (cap : Array Value) (i : Int) (A : Option Addr) (n c : Nat) (g : Nat) (W : World) (hg : W.heap[g]? = some (.cells #[.func (.func K) #[] cap] 66 (0, 0))) (Q : Ending → World → Prop) (hE : Enters K)
    (hK : Calls Try.prog K (#[.slice A n c] ++ cap) W Q) (hQ : ∀ e W', Q e W' → ∃ v, e = .returned v) :
    Calls Try.prog 82 #[.int .i64 i, .slice A n c, .pointer (some ⟨g, 0, none⟩)] W Q := by
  have h0 := blk_cell hg 0
  have hE' : ∀ (args : Array Value) (W : World), (callFunc K args).run Try.prog W = .ok (.enter K args) W := hE
  go_enter Try.func82, Try.ntmps82
  go_wp2_with (first
    | (refine hK.mono ?_; rintro e W1 hq; obtain ⟨v, rfl⟩ := hQ _ _ hq))
  exact hq
theorem each1_how (K : FuncId) (cap : Array Value) (w : World) (g : Nat) (hg : w.heap[g]? = some (.cells #[.func (.func K) #[] cap] 66 (0, 0))) (f : List ByteArray → List ByteArray) (rows : List (List ByteArray)) (hE : Enters K) (hK : HowL K cap w f (fun x => x ∈ rows)) :
    HowI 82 #[.pointer (some ⟨g, 0, none⟩)] w (fun _ x => f x) rows := fun W i A c x hW hx hc hC => by
  show Calls Try.prog 82 #[.int .i64 i, .slice A x.length c, .pointer (some ⟨g, 0, none⟩)] W _
  exact each1_calls K cap i A x.length c g W ((hW.block _ (lt_of_block hg)).trans hg) _ hE (hK W A c x hW (List.mem_of_getElem? hx) hc hC) (fun e W' h => ⟨_, h.choose_spec.1⟩)
set_option maxRecDepth 100000 in
set_option maxHeartbeats 4000000 in
theorem each_calls (K : FuncId) (cap : Array Value) (A0 : Option Addr) (c0 : Nat) (hd : List ByteArray) (A1 : Option Addr) (c1 : Nat) (rows : List (List ByteArray)) (f : List ByteArray → List ByteArray) (w : World)
    (hr0 : Kd.C Kd.string w A0 hd.length hd) (hc0 : hd.length ≤ c0) (hr1 : Kd.C (Kd.slice 9 Kd.string) w A1 rows.length rows) (hl : rows.length ≤ 100000) (hE : Enters K) (hK : HowL K cap w f (fun x => x = hd ∨ x ∈ rows)) :
    Calls Try.prog 44 #[.agg #[.slice A0 hd.length c0, .slice A1 rows.length c1], .func (.func K) #[] cap] w fun e W' => ∃ v0 v1, e = .returned (.agg #[v0, v1]) ∧ MadeT w.heap.size W' v0 v1 (f hd) (rows.map f) ∧ Below w.heap.size w W' := by
  have hmf : ∀ (fn : Fn) (first cap : Array Value) (w : World), (Instr.makeFunc fn first cap).run Try.prog w = .ok (.func fn first cap) w := fun _ _ _ _ => rfl
  obtain ⟨W0, hW0⟩ : ∃ W0, W0 = ((w.alloc (.cells #[.slice A0 hd.length c0, .slice A1 rows.length c1] 25)).alloc (.cells #[.func (.func K) #[] cap] 66)).alloc (.cells #[.slice none 0 0, .slice none 0 0] 25) := ⟨_, rfl⟩
  have hb0 : Below w.heap.size w W0 := by rw [hW0]; exact below_alloc (below_alloc (below_alloc (Below.refl _ _) _) _) _
  have hz0 : W0.heap[w.heap.size + 1 + 1]? = some (.cells #[.slice none 0 0, .slice none 0 0] 25 (0, 0)) := by
    rw [hW0]
    have h := blk_new ((w.alloc (.cells #[.slice A0 hd.length c0, .slice A1 rows.length c1] 25)).alloc (.cells #[.func (.func K) #[] cap] 66)) (.cells #[.slice none 0 0, .slice none 0 0] 25)
    rw [World.size_alloc, World.size_alloc] at h
    exact h
  have hx0 : W0.heap[w.heap.size + 1]? = some (.cells #[.func (.func K) #[] cap] 66 (0, 0)) := by
    rw [hW0]
    have h := blk_new (w.alloc (.cells #[.slice A0 hd.length c0, .slice A1 rows.length c1] 25)) (.cells #[.func (.func K) #[] cap] 66)
    rw [World.size_alloc] at h
    exact ((below_alloc (Below.refl _ _) _).block _ (by simp)).trans h
  have hC0 := (columns_calls K 82 cap #[.pointer (some ⟨w.heap.size + 1, 0, none⟩)] A0 c0 hd A1 c1 rows (f hd) (fun _ x => f x) W0 (Kd.C_below hr0 hb0) hc0 (Kd.C_below hr1 hb0) hl hE each1_enters (hK.weak hb0 (fun x hx => .inl hx) (fun x hx => by rw [hx])) (each1_how K cap W0 _ hx0 f rows hE (hK.weak hb0 (fun x hx => .inr hx) (fun _ _ => rfl))))
  simp only [outI_map] at hC0
  obtain ⟨R, hR⟩ : ∃ R, R = rows.map f := ⟨_, rfl⟩
  rw [← hR] at hC0 ⊢
  clear hR
  have HC := Aside0.mk hC0
  clear hC0
  have HB0 := Aside0.mk hb0
  have HZ0 := Aside0.mk hz0
  have HW0 := Aside0.mk hW0
  clear hb0 hz0 hx0 hK hE hr0 hr1 hl hW0
  go_enter Try.func44, Try.ntmps44
  go_wp2_with (go_at_call 53; rw [← HW0.out]; refine HC.out.mono ?_; rintro e w1 ⟨v0, v1, rfl, hM, hb1⟩; obtain ⟨Av, cv, rfl, hcv, hCv⟩ := Kd.R_reads hM.1; obtain ⟨Ar, cr, rfl, hcr, hCr⟩ := Kd.S_reads hM.2; have HM := Aside0.mk hM; have HB1 := Aside0.mk hb1; have HZ1 := Aside0.mk ((hb1.block _ (lt_of_block HZ0.out)).trans HZ0.out); have hy0 := blk_cell HZ1.out 0; have hy1 := blk_cell HZ1.out 1; have hu0 := blk_frozen HZ1.out 0; have hu1 := blk_frozen HZ1.out 1; clear hM hb1 hCv hCr)
  have hf0 : ((w1.setCell ⟨w.heap.size + 1 + 1, 0, none⟩ (.slice Av (f hd).length cv)).setCell ⟨w.heap.size + 1 + 1, 1, none⟩ (.slice Ar R.length cr)).heap[w.heap.size + 1 + 1]? = some (.cells #[.slice Av (f hd).length cv, .slice Ar R.length cr] 25 (0, 0)) := heap_setCell_same _ _ 1 _ _ _ (heap_setCell_same _ _ 0 _ _ _ HZ1.out)
  have hc0 := blk_cell hf0 0
  have hc1 := blk_cell hf0 1
  refine bodyPost_ret (v := .agg #[.slice Av (f hd).length cv, .slice Ar R.length cr]) (by simp [results, Try.results44, go_sem, hc0, hc1]) rfl ?_
  have hlt := lt_of_block HZ0.out
  have hM2 := HM.out
  exact ⟨_, _, rfl, ((hM2.far (p := ⟨w.heap.size + 1 + 1, 0, none⟩) hlt _).far (p := ⟨w.heap.size + 1 + 1, 1, none⟩) hlt _).lower HB0.out.size, ((HB0.out.trans (HB1.out.mono HB0.out.size)).setCell (by show w.heap.size ≤ w.heap.size + 1 + 1; omega) _).setCell (by show w.heap.size ≤ w.heap.size + 1 + 1; omega) _⟩
/-- A closure of rows of the call's own: what it may write is theirs. -/
def HowR (K : FuncId) (cap : Array Value) (w : World) (rows rows' : List (List ByteArray)) : Prop :=
  ∀ (W : World) (A : Option Addr) (c base : Nat) (ok : Nat → Prop), Below w.heap.size w W → w.heap.size ≤ base → base ≤ W.heap.size → (∀ k, ok k → k < W.heap.size) → Kd.S (Kd.slice 9 Kd.string) 22 W base ok (.slice A rows.length c) rows →
    Calls Try.prog K (#[.slice A rows.length c] ++ cap) W fun e W' => ∃ v, e = .returned v ∧ Kd.S (Kd.slice 9 Kd.string) 22 W' base (fun k => ok k ∨ W.heap.size ≤ k) v rows' ∧ Below base W W' ∧ ∀ k, k < W.heap.size → ¬ ok k → W'.heap[k]? = W.heap[k]?
theorem clone_how (w : World) (ok : List ByteArray → Prop) (hok : ∀ x, ok x → x.length ≤ 1000000) : HowL 64 #[] w (fun x => x) ok := fun W A c x hW hx hc hC => by
  rw [Array.append_empty]
  exact clone_calls A c x W hC hc (hok x hx)
theorem rows_hand {b : Nat} {w1 : World} {v0 v1 : Value} {hd : List ByteArray} {rows : List (List ByteArray)} (h : MadeT b w1 v0 v1 hd rows) (o : Obj) : Kd.S (Kd.slice 9 Kd.string) 22 (w1.alloc o) b (fun k => some k ≠ v0.ownBlock ∧ b ≤ k ∧ k < w1.heap.size) v1 rows :=
  Kd.S_below (Kd.S_mono (Kd.S_bound h.2) (fun k hk => ⟨hk.1, hk.2.1, hk.2.2.1⟩)) (below_alloc (Below.refl _ _) o)
theorem rows_end {w W0 w1 W' : World} {v0 v1 v1' : Value} {hd : List ByteArray} {rows rows' : List (List ByteArray)} {o : Obj} (hb0 : Below w.heap.size w W0) (hz : w.heap.size + 1 < W0.heap.size) (HM : MadeT W0.heap.size w1 v0 v1 hd rows) (hb1 : Below W0.heap.size W0 w1)
    (hS : Kd.S (Kd.slice 9 Kd.string) 22 W' W0.heap.size (fun k => (some k ≠ v0.ownBlock ∧ W0.heap.size ≤ k ∧ k < w1.heap.size) ∨ (w1.alloc o).heap.size ≤ k) v1' rows') (hb2 : Below W0.heap.size (w1.alloc o) W') (hk : ∀ k, k < (w1.alloc o).heap.size → ¬ (some k ≠ v0.ownBlock ∧ W0.heap.size ≤ k ∧ k < w1.heap.size) → W'.heap[k]? = (w1.alloc o).heap[k]?) (x y z : Value) :
    MadeT w.heap.size (((W'.setCell ⟨w1.heap.size, 1, none⟩ z).setCell ⟨w.heap.size + 1, 0, none⟩ x).setCell ⟨w.heap.size + 1, 1, none⟩ y) v0 v1' hd rows' ∧ Below w.heap.size w (((W'.setCell ⟨w1.heap.size, 1, none⟩ z).setCell ⟨w.heap.size + 1, 0, none⟩ x).setCell ⟨w.heap.size + 1, 1, none⟩ y) := by
  have s1 := hb1.size
  have s0 := hb0.size
  rw [World.size_alloc] at hS hk
  have r1 : Kd.R Kd.string 9 w1 W0.heap.size (fun k => some k = v0.ownBlock ∧ W0.heap.size ≤ k ∧ k < w1.heap.size) v0 hd := Kd.R_mono (Kd.R_bound (Kd.R_tight rfl HM.1)) (fun k hk => ⟨hk.1, hk.2.1, hk.2.2.1⟩)
  have r2 : Kd.R Kd.string 9 W' W0.heap.size (fun k => some k = v0.ownBlock ∧ W0.heap.size ≤ k ∧ k < w1.heap.size) v0 hd := Kd.R_move (Kd.R_below r1 (below_alloc (Below.refl _ _) o)) (fun k h => hk k (by have := h.2.2; omega) (fun h2 => h2.1 h.1))
  have n1 : ∀ k, (some k = v0.ownBlock ∧ W0.heap.size ≤ k ∧ k < w1.heap.size) → k ≠ w1.heap.size := fun k h => by have := h.2.2; omega
  have n2 : ∀ k, (some k = v0.ownBlock ∧ W0.heap.size ≤ k ∧ k < w1.heap.size) → k ≠ w.heap.size + 1 := fun k h => by have := h.2.1; omega
  have m1 : ∀ k, ((some k ≠ v0.ownBlock ∧ W0.heap.size ≤ k ∧ k < w1.heap.size) ∨ w1.heap.size + 1 ≤ k) → k ≠ w1.heap.size := fun k h => by
    rcases h with h | h
    · have := h.2.2; omega
    · omega
  have m2 : ∀ k, ((some k ≠ v0.ownBlock ∧ W0.heap.size ≤ k ∧ k < w1.heap.size) ∨ w1.heap.size + 1 ≤ k) → k ≠ w.heap.size + 1 := fun k h => by
    rcases h with h | h
    · have := h.2.1; omega
    · omega
  refine ⟨⟨?_, ?_⟩, ?_⟩
  · refine Kd.R_mono (Kd.R_far (p := ⟨w.heap.size + 1, 1, none⟩) (Kd.R_far (p := ⟨w.heap.size + 1, 0, none⟩) (Kd.R_far (p := ⟨w1.heap.size, 1, none⟩) (Kd.R_lower r2 hb0.size) n1 z) n2 x) n2 y) (fun _ _ => trivial)
  · refine Kd.S_mono (Kd.S_far (p := ⟨w.heap.size + 1, 1, none⟩) (Kd.S_far (p := ⟨w.heap.size + 1, 0, none⟩) (Kd.S_far (p := ⟨w1.heap.size, 1, none⟩) (Kd.S_lower hS hb0.size) m1 z) m2 x) m2 y) (fun k h e => ?_)
    rcases h with h | h
    · exact h.1 e
    · have := HM.1
      have := Kd.R_lt this k e.symm
      omega
  · have hb : Below w.heap.size w W' := hb0.trans (((hb1.trans ((below_alloc (Below.refl w1.heap.size w1) o).mono s1)).trans hb2).mono s0)
    exact ((hb.setCell (by show w.heap.size ≤ w1.heap.size; omega) _).setCell (by show w.heap.size ≤ w.heap.size + 1; omega) _).setCell (by show w.heap.size ≤ w.heap.size + 1; omega) _
set_option maxRecDepth 100000 in
set_option maxHeartbeats 4000000 in
theorem rows_calls (K : FuncId) (cap : Array Value) (A0 : Option Addr) (c0 : Nat) (hd : List ByteArray) (A1 : Option Addr) (c1 : Nat) (rows rows' : List (List ByteArray)) (w : World)
    (hr0 : Kd.C Kd.string w A0 hd.length hd) (hc0 : hd.length ≤ c0) (hr1 : Kd.C (Kd.slice 9 Kd.string) w A1 rows.length rows) (hl : rows.length ≤ 100000) (hx : ∀ x, x = hd ∨ x ∈ rows → x.length ≤ 1000000) (hE : Enters K) (hK : HowR K cap w rows rows') :
    Calls Try.prog 39 #[.agg #[.slice A0 hd.length c0, .slice A1 rows.length c1], .func (.func K) #[] cap] w fun e W' => ∃ v0 v1, e = .returned (.agg #[v0, v1]) ∧ MadeT w.heap.size W' v0 v1 hd rows' ∧ Below w.heap.size w W' := by
  obtain ⟨W0, hW0⟩ : ∃ W0, W0 = (w.alloc (.cells #[.slice A0 hd.length c0, .slice A1 rows.length c1] 25)).alloc (.cells #[.slice none 0 0, .slice none 0 0] 25) := ⟨_, rfl⟩
  have hb0 : Below w.heap.size w W0 := by rw [hW0]; exact below_alloc (below_alloc (Below.refl _ _) _) _
  have hz0 : W0.heap[w.heap.size + 1]? = some (.cells #[.slice none 0 0, .slice none 0 0] 25 (0, 0)) := by
    rw [hW0]
    have h := blk_new (w.alloc (.cells #[.slice A0 hd.length c0, .slice A1 rows.length c1] 25)) (.cells #[.slice none 0 0, .slice none 0 0] 25)
    rw [World.size_alloc] at h
    exact h
  have hC0 := each_calls 64 #[] A0 c0 hd A1 c1 rows (fun x => x) W0 (Kd.C_below hr0 hb0) hc0 (Kd.C_below hr1 hb0) hl clone_enters (clone_how W0 _ hx)
  simp only [List.map_id'] at hC0
  have HC := Aside0.mk hC0
  have HB0 := Aside0.mk hb0
  have HZ0 := Aside0.mk hz0
  have HW0 := Aside0.mk hW0
  have HK := Aside0.mk hK
  have hE' : ∀ (args : Array Value) (W : World), (callFunc K args).run Try.prog W = .ok (.enter K args) W := hE
  clear hC0 hb0 hz0 hK hE hr0 hr1 hl hW0 hx
  go_enter Try.func39, Try.ntmps39
  go_wp2_with (first
    | (go_at_call 44; rw [← HW0.out]; refine HC.out.mono ?_; rintro e w1 ⟨v0, v1, rfl, hM, hb1⟩; obtain ⟨Av, cv, rfl, hcv, hCv⟩ := Kd.R_reads hM.1; obtain ⟨Ar, cr, rfl, hcr, hCr⟩ := Kd.S_reads hM.2; have HM := Aside0.mk hM; have HB1 := Aside0.mk hb1; have HZ1 := Aside0.mk ((hb1.block _ (lt_of_block HZ0.out)).trans HZ0.out); clear hM hb1 hCv hCr)
    | (refine (HK.out (w1.alloc (.cells #[.slice Av hd.length cv, .slice Ar rows.length cr] 25)) Ar cr W0.heap.size _ (HB0.out.trans ((HB1.out.trans ((below_alloc (Below.refl _ _) _).mono HB1.out.size)).mono HB0.out.size)) HB0.out.size (Nat.le_trans HB1.out.size (by simp)) (fun k hk => by have := hk.2.2; rw [World.size_alloc]; omega) (rows_hand HM.out _)).mono ?_; rintro e w2 ⟨v1', rfl, hS2, hb2, hk2⟩; obtain ⟨A2, c2, rfl, hcr2, hCr2⟩ := Kd.S_reads hS2; have hT2 := (hk2 w1.heap.size (by rw [World.size_alloc]; omega) (fun h => Nat.lt_irrefl _ h.2.2)).trans (blk_new w1 _); have hz2 := (hk2 (w.heap.size + 1) (by have := lt_of_block HZ1.out; rw [World.size_alloc]; omega) (fun h => by have := h.2.1; have := lt_of_block HZ0.out; omega)).trans (((below_alloc (Below.refl _ w1) _).block _ (lt_of_block HZ1.out)).trans HZ1.out); have HF := Aside0.mk (rows_end HB0.out (lt_of_block HZ0.out) HM.out HB1.out hS2 hb2 hk2 (.slice Av hd.length cv) (.slice A2 rows'.length c2) (.slice A2 rows'.length c2)); have HT2 := Aside0.mk hT2; have HZ2 := Aside0.mk hz2; have ha0 := blk_cell hT2 0; have ha1 := blk_cell hT2 1; have hf1 := blk_frozen hT2 1; have hy0 := blk_cell hz2 0; have hy1 := blk_cell hz2 1; have hu0 := blk_frozen hz2 0; have hu1 := blk_frozen hz2 1; have hne : ¬ w.heap.size + 1 = w1.heap.size := (by have := lt_of_block HZ1.out; omega); have hne' : ¬ w1.heap.size = w.heap.size + 1 := (fun e => hne e.symm); clear hS2 hb2 hk2 hT2 hz2 hCr2))
  have hf0 : (((w2.setCell ⟨w1.heap.size, 1, none⟩ (.slice A2 rows'.length c2)).setCell ⟨w.heap.size + 1, 0, none⟩ (.slice Av hd.length cv)).setCell ⟨w.heap.size + 1, 1, none⟩ (.slice A2 rows'.length c2)).heap[w.heap.size + 1]? = some (.cells #[.slice Av hd.length cv, .slice A2 rows'.length c2] 25 (0, 0)) :=
    heap_setCell_same _ _ 1 _ _ _ (heap_setCell_same _ _ 0 _ _ _ ((Below.heap_setCell _ _ _ _ (by show w.heap.size + 1 ≠ w1.heap.size; exact hne)).trans HZ2.out))
  have hc0 := blk_cell hf0 0
  have hc1 := blk_cell hf0 1
  refine bodyPost_ret (v := .agg #[.slice Av hd.length cv, .slice A2 rows'.length c2]) (by simp [results, Try.results39, go_sem, hc0, hc1]) rfl ?_
  exact ⟨_, _, rfl, HF.out⟩
end Go.Proofs.Ytaolakknkhggnaa.X
end
section
namespace Go.Proofs.Ytaolakknkhggnaa.X
open Go.RowKit Go.Maps Go.Shelf Go.Lib Go.Proofs.YtaolakknkhggnaaW.PrintWords Go.Proofs.YtaolakknkhggnaaW.PrintLast
set_option linter.unusedVariables false
set_option linter.unusedSimpArgs false
set_option maxHeartbeats 4000000 in
set_option maxRecDepth 100000 in
theorem insR_shift (b off n c i vb voff m vc : Nat) (cs vs : List Value) (w : World) (hi : i < n) (hm : 0 < m) (hroom : n + m ≤ c) (hc63 : c ≤ 9223372036854775807) (hvb : vb ≠ b)
    (hcl : cs.length = n) (hvl : vs.length = m)
    (hcs : ∀ j v, cs[j]? = some v → w.cell? ⟨b, off + j, none⟩ = some v) (hsp : ∀ j, j < n + m → (w.cell? ⟨b, off + j, none⟩).isSome = true) (hfz : ∀ j, j < n + m → w.frozen? ⟨b, off + j, none⟩ = false)
    (hvs : ∀ j v, vs[j]? = some v → w.cell? ⟨vb, voff + j, none⟩ = some v) (h1c : ∀ v ∈ cs, v.oneCell' = true) (h1v : ∀ v ∈ vs, v.oneCell' = true)
    (tA tB : TypeId) (kA kB : Nat) (hsa : w.shape? vb = some (tA, kA)) (hsb : w.shape? b = some (tB, kB)) (hkB : kB ≠ 0) (hfa : w.frozen? ⟨vb, voff, none⟩ = false) (hfe : w.frozen? ⟨vb, kA, none⟩ = false) :
    Calls Try.prog 85 #[.slice (some ⟨b, off, none⟩) n c, .int .i64 i, .slice (some ⟨vb, voff, none⟩) m vc] w fun e w' =>
      e = .returned (.slice (some ⟨b, off, none⟩) (n + m) c) ∧ w' = (w.drew.setCells b (off + (i + m)) (cs.drop i)).setCells b (off + i) vs := by
  have hz9 : ∀ w, (Go.sizeOf 22).run Try.prog w = .ok 1 w := fun w => size_run infoSS w
  have hz1 : ¬ ((m : Int) = 0) := by omega
  have hz2 : ¬ ((i : Int) = (n : Int)) := by omega
  have hsz : (Try.prog.info? 22).map (·.size) = some 1 := by
    obtain ⟨i0, hi0, h0, h1, h2⟩ := info_parts infoSS
    rw [hi0]; simp [h1]
  have hov : ∀ lb cb, (callFunc (100) #[.slice (some ⟨vb, voff, none⟩) m vc, .slice (some ⟨b, off + (i + m), none⟩) lb cb]).run Try.prog w = .ok (.value (.bool false)) w := fun lb cb => by
    rw [run_callFunc_extern Try.func100 (by kernel_rfl) (by kernel_rfl) (by kernel_rfl) (e := Extern.SlicesOverlaps.overlaps #[23, 23] #[4]) (by kernel_rfl),
      Lib.run_overlaps_apart w 23 4 22 Try.underlying23 1 hz9 ⟨vb, voff, none⟩ ⟨b, off + (i + m), none⟩ m vc lb cb hvb tA tB kA kB hsa hsb hkB hfa hfe]
    rfl
  have hdl : (cs.drop i).length = n - i := by rw [List.length_drop, hcl]
  have mixed : Try.prog.follows .mixedOrders = true := by kernel_rfl
  have hw1 : IntKind.i64.wrap ((i : Int) + (m : Int)) = (i : Int) + (m : Int) := by rw [IntKind.wrap_i64]; omega
  have hb1 : (0 : Int) ≤ (i : Int) + (m : Int) := by omega
  have hin : i ≤ n := by omega
  have htn : ((i : Int) + (m : Int)).toNat = i + m := by omega
  have hb2 : ¬ (c = i + m) := by omega
  have hb3 : (i : Int) ≤ (n : Int) + (m : Int) := by omega
  have hb4 : ¬ (c = i) := by omega
  have hcp1 : ∀ ty dc sc, (Builtin.copy_ #[23, 23] ty #[.slice (some ⟨b, off + (i + m), none⟩) (n + m - (i + m)) dc, .slice (some ⟨b, off + i, none⟩) (n + m - i) sc]).run Try.prog w.drew = .ok (goInt (cs.drop i).length) (w.drew.setCells b (off + (i + m)) (cs.drop i)) := fun ty dc sc =>
    run_copy_cells w.drew _ _ ty 22 b (off + (i + m)) (n + m - (i + m)) dc ⟨b, off + i, none⟩ (n + m - i) sc (cs.drop i) Try.underlying23 hsz (by rw [hdl]; simp only [Nat.min_def]; split <;> omega)
      (fun j v hj => by rw [Addr.add_lit, Nat.add_assoc]; exact hcs (i + j) v (by rwa [List.getElem?_drop] at hj))
      (fun j hj => by rw [Nat.add_assoc]; exact hsp _ (by omega)) (fun j hj => by rw [Nat.add_assoc]; exact hfz _ (by omega)) (fun v hv => h1c v (List.mem_of_mem_drop hv))
  obtain ⟨W1, hW1⟩ : ∃ W1, W1 = w.drew.setCells b (off + (i + m)) (cs.drop i) := ⟨_, rfl⟩
  have hsp1 : ∀ k, k < n + m → (W1.cell? ⟨b, off + k, none⟩).isSome = true := fun k hk => by
    rw [hW1]
    exact isSome_setCells b _ _ _ (fun j hj => by rw [Nat.add_assoc]; exact hsp _ (by omega)) _ (hsp k hk)
  have hcp2 : ∀ (W : World), (∀ x, W.cell? x = W1.cell? x) → (∀ x, W.frozen? x = W1.frozen? x) → ∀ ty dc, (Builtin.copy_ #[23, 23] ty #[.slice (some ⟨b, off + i, none⟩) (n + m - i) dc, .slice (some ⟨vb, voff, none⟩) m vc]).run Try.prog W = .ok (goInt vs.length) (W.setCells b (off + i) vs) := fun W hWc hWf ty dc =>
    run_copy_cells W _ _ ty 22 b (off + i) (n + m - i) dc ⟨vb, voff, none⟩ m vc vs Try.underlying23 hsz (by rw [hvl]; simp only [Nat.min_def]; split <;> omega)
      (fun j v hj => by
        rw [Addr.add_lit, hWc, hW1, World.cell?_setCells_out b _ _ _ _ (fun h _ => absurd h hvb)]
        exact hvs j v hj)
      (fun j hj => by rw [hWc, Nat.add_assoc]; exact hsp1 _ (by omega)) (fun j hj => by rw [hWf, hW1, World.frozen?_setCells, Nat.add_assoc]; exact hfz _ (by omega)) h1v
  rw [← hW1] at hcp1
  go_enter Try.func85, Try.ntmps85
  go_wp2_with (simp only [hov])
  go_region_law_o (refine step_copy_runI rfl _ _ 23 23 rfl _ _ (by simp [Act.eval, Act.put]) (by simp [Act.eval, Act.put]) (hcp1 _ _ _) ?_)
  go_wp2_with (at_builtin; refine wpList_copy_runI _ rfl _ _ 23 23 rfl _ _ rfl rfl (hcp2 _ (fun _ => rfl) (fun _ => rfl) _ _) ?_)
  go_ret
  first | exact ⟨rfl, rfl⟩ | exact ⟨rfl, by rw [hW1]⟩
set_option maxHeartbeats 4000000 in
set_option maxRecDepth 100000 in
theorem insR_grow (b off n c i vb voff m vc : Nat) (cs vs : List Value) (w : World) (hi : i < n) (hm : 0 < m) (hnc : n ≤ c) (hroom : c < n + m) (hbig : (n + m) * 24 ≤ 140737488355328)
    (hcl : cs.length = n) (hvl : vs.length = m)
    (hcs : ∀ j v, cs[j]? = some v → w.cell? ⟨b, off + j, none⟩ = some v)
    (hvs : ∀ j v, vs[j]? = some v → w.cell? ⟨vb, voff + j, none⟩ = some v) (h1c : ∀ v ∈ cs, v.oneCell' = true) (h1v : ∀ v ∈ vs, v.oneCell' = true) :
    Calls Try.prog 85 #[.slice (some ⟨b, off, none⟩) n c, .int .i64 i, .slice (some ⟨vb, voff, none⟩) m vc] w fun e w' =>
      e = .returned (.slice (some ⟨w.heap.size, 0, none⟩) (n + m) (grownCap w (n + m) c 22)) ∧
      w' = (((w.alloc (.cells ((cs.take i).toArray ++ Builtin.zeroCells (Value.slice none 0 0).cells (n + m - i) ++ Builtin.zeroCells (Value.slice none 0 0).cells (grownCap w (n + m) c 22 - (n + m))) 22)).drew.setCells w.heap.size i vs).drew).setCells w.heap.size (i + m) (cs.drop i) := by
  have mixed : Try.prog.follows .mixedOrders = true := by kernel_rfl
  obtain ⟨i0, hi0, hz0, hzs, hzb⟩ := info_parts infoSS
  have hz1 : ¬ ((m : Int) = 0) := by omega
  have hz2 : ¬ ((i : Int) = (n : Int)) := by omega
  have hz3 : (c : Int) < (n : Int) + (m : Int) := by omega
  have hsz : (Try.prog.info? 22).map (·.size) = some 1 := by rw [hi0]; simp [hzs]
  have hbw : b < w.heap.size := block_lt_of_cell (hcs 0 _ (List.getElem?_eq_getElem (by omega)))
  have hvw : vb < w.heap.size := block_lt_of_cell (hvs 0 _ (List.getElem?_eq_getElem (by omega)))
  have hkk : (n : Int) + (m : Int) - (i : Int) = ((n + m - i : Nat) : Int) := by omega
  have hik : i + (n + m - i) = n + m := by omega
  have hold : (Builtin.firstCells i0.size i (.slice (some ⟨b, off, none⟩) i c)).run Try.prog w.drew = .ok (cs.take i).toArray w.drew := by
    rw [hzs]
    exact run_firstCells_some w.drew 1 i ⟨b, off, none⟩ i c (cs.take i) (by rw [List.length_take]; omega) (fun j v hj => by
      rw [Addr.add_lit]
      rw [List.getElem?_take] at hj
      split at hj
      · exact hcs j v hj
      · cases hj)
  have hrz : ∀ ty, (Builtin.append_ #[23, 3] ty #[.slice (some ⟨b, off, none⟩) i c, .int .i64 ((n : Int) + (m : Int) - (i : Int))]).run Try.prog w =
      .ok (.slice (some ⟨w.heap.size, 0, none⟩) (n + m) (grownCap w (n + m) c 22)) (w.drew.alloc (.cells ((cs.take i).toArray ++ Builtin.zeroCells (Value.slice none 0 0).cells (n + m - i) ++ Builtin.zeroCells (Value.slice none 0 0).cells (grownCap w (n + m) c 22 - (n + m))) 22)) := fun ty => by
    have h := Lib.run_append_grow_zeros w 23 3 ty 22 i0 _ .i64 .i64 Try.underlying23 Try.underlying3 hi0 hz0 (some ⟨b, off, none⟩) i c (cs.take i) hold (n + m - i) (by omega) (by omega) (by omega) (by omega) (by rw [hzb]; omega) (by rw [hzb, hik]; exact growslice_fits hroom hbig)
    rw [hik] at h
    rw [hkk]
    exact h
  obtain ⟨G, hG⟩ : ∃ G, G = grownCap w (n + m) c 22 := ⟨_, rfl⟩
  obtain ⟨ROW, hROW⟩ : ∃ ROW : Array Value, ROW = (cs.take i).toArray ++ Builtin.zeroCells (Value.slice none 0 0).cells (n + m - i) ++ Builtin.zeroCells (Value.slice none 0 0).cells (G - (n + m)) := ⟨_, rfl⟩
  rw [← hG] at hrz ⊢
  rw [← hROW] at hrz ⊢
  have hRl : n + m ≤ ROW.size := by
    rw [hROW]
    simp [Builtin.zeroCells, Value.cells]
    omega
  obtain ⟨W1, hW1⟩ : ∃ W1, W1 = w.drew.alloc (.cells ROW 22) := ⟨_, rfl⟩
  rw [← hW1] at hrz
  have hN : ∀ j, j < n + m → (W1.cell? ⟨w.heap.size, j, none⟩).isSome = true := fun j hj => by
    rw [hW1, World.cell?_alloc_at (w := w.drew) ROW _ w.heap.size j rfl, Array.getElem?_eq_getElem (by omega)]; rfl
  have hNf : ∀ j, W1.frozen? ⟨w.heap.size, j, none⟩ = false := fun j => by rw [hW1]; exact World.frozen?_alloc_at (w := w.drew) ROW _ w.heap.size j rfl
  have hOb : ∀ j v, w.cell? ⟨b, j, none⟩ = some v → W1.cell? ⟨b, j, none⟩ = some v := fun j v h => by rw [hW1, World.cell?_alloc_past (w := w.drew) _ b j hbw]; exact h
  have hOv : ∀ j v, w.cell? ⟨vb, j, none⟩ = some v → W1.cell? ⟨vb, j, none⟩ = some v := fun j v h => by rw [hW1, World.cell?_alloc_past (w := w.drew) _ vb j hvw]; exact h
  have hcpA : ∀ (W : World), (∀ x, W.cell? x = W1.cell? x) → (∀ x, W.frozen? x = W1.frozen? x) → ∀ ty dc, (Builtin.copy_ #[23, 23] ty #[.slice (some ⟨w.heap.size, i, none⟩) (n + m - i) dc, .slice (some ⟨vb, voff, none⟩) m vc]).run Try.prog W = .ok (goInt vs.length) (W.setCells w.heap.size i vs) := fun W hWc hWf ty dc =>
    run_copy_cells W _ _ ty 22 w.heap.size i (n + m - i) dc ⟨vb, voff, none⟩ m vc vs Try.underlying23 hsz (by rw [hvl]; simp only [Nat.min_def]; split <;> omega)
      (fun j v hj => by rw [Addr.add_lit, hWc]; exact hOv _ v (hvs j v hj))
      (fun j hj => by rw [hWc]; exact hN _ (by omega)) (fun j hj => by rw [hWf]; exact hNf _) h1v
  have hGn : n + m ≤ G := by rw [hG]; exact grownCap_ge w _ _ _
  have hG63 : G ≤ 9223372036854775807 := by
    have := grownCap_le_maxLen w (n + m) c 22 (by unfold maxLen; omega)
    rw [← hG] at this
    unfold maxLen at this
    omega
  have hGi : ¬ (G = i) := by omega
  have hGim : ¬ (G = i + m) := by omega
  have hci : ¬ (c = i) := by omega
  have hbN : b ≠ w.heap.size := by omega
  have hdl : (cs.drop i).length = n - i := by rw [List.length_drop, hcl]
  have hcpB : ∀ (W : World), (∀ x, W.cell? x = (W1.setCells w.heap.size i vs).cell? x) → (∀ x, W.frozen? x = (W1.setCells w.heap.size i vs).frozen? x) → ∀ ty dc sc, (Builtin.copy_ #[23, 23] ty #[.slice (some ⟨w.heap.size, i + m, none⟩) (n + m - (i + m)) dc, .slice (some ⟨b, off + i, none⟩) (n - i) sc]).run Try.prog W = .ok (goInt (cs.drop i).length) (W.setCells w.heap.size (i + m) (cs.drop i)) := fun W hWc hWf ty dc sc =>
    run_copy_cells W _ _ ty 22 w.heap.size (i + m) (n + m - (i + m)) dc ⟨b, off + i, none⟩ (n - i) sc (cs.drop i) Try.underlying23 hsz (by rw [hdl]; simp only [Nat.min_def]; split <;> omega)
      (fun j v hj => by
        rw [Addr.add_lit, hWc, World.cell?_setCells_out _ _ _ _ _ (fun h _ => absurd h hbN), Nat.add_assoc]
        exact hOb _ v (hcs (i + j) v (by rwa [List.getElem?_drop] at hj)))
      (fun j hj => by rw [hWc]; exact isSome_setCells _ _ _ _ (fun t ht => hN _ (by omega)) _ (hN _ (by omega)))
      (fun j hj => by rw [hWf, World.frozen?_setCells]; exact hNf _) (fun v hv => h1c v (List.mem_of_mem_drop hv))
  subst hW1
  have hE1 : ∀ x, ((w.alloc (.cells ROW 22)).drew).cell? x = (w.drew.alloc (.cells ROW 22)).cell? x := fun x => rfl
  have hE2 : ∀ x, ((w.alloc (.cells ROW 22)).drew).frozen? x = (w.drew.alloc (.cells ROW 22)).frozen? x := fun x => rfl
  have hF1 : ∀ x, (((w.alloc (.cells ROW 22)).drew.setCells w.heap.size i vs).drew).cell? x = ((w.drew.alloc (.cells ROW 22)).setCells w.heap.size i vs).cell? x := fun x => rfl
  have hF2 : ∀ x, (((w.alloc (.cells ROW 22)).drew.setCells w.heap.size i vs).drew).frozen? x = ((w.drew.alloc (.cells ROW 22)).setCells w.heap.size i vs).frozen? x := fun x => rfl
  have hw1 : IntKind.i64.wrap ((i : Int) + (m : Int)) = (i : Int) + (m : Int) := by rw [IntKind.wrap_i64]; omega
  have hb1 : (0 : Int) ≤ (i : Int) + (m : Int) := by omega
  have hin : i ≤ n := by omega
  have htn : ((i : Int) + (m : Int)).toNat = i + m := by omega
  have hb3 : (i : Int) ≤ (n : Int) := by omega
  clear hkk hik hold hROW hG hRl
  go_enter Try.func85, Try.ntmps85
  go_wp2_with (first
    | (at_builtin; refine Lib.wpList_append_run _ rfl _ _ _ _ rfl _ _ rfl rfl _ _ (hrz _) ?_)
    | (at_builtin; refine wpList_copy_runI _ rfl _ _ 23 23 rfl _ _ rfl rfl (hcpA _ hE1 hE2 _ _) ?_)
    | (at_builtin; refine wpList_copy_runI _ rfl _ _ 23 23 rfl _ _ rfl rfl (hcpB _ (fun _ => rfl) (fun _ => rfl) _ _ _) ?_))
  go_region_law_o (refine step_copy_runI rfl _ _ 23 23 rfl (.slice (some ⟨w.heap.size, i + m, none⟩) (n + m - (i + m)) (G - (i + m))) (.slice (some ⟨b, off + i, none⟩) (n - i) (c - i)) (by simp [Act.eval, Act.put]) (by simp [Act.eval, Act.put]) (hcpB _ hF1 hF2 3 (G - (i + m)) (c - i)) ?_)
  go_wp2
  go_ret
  exact ⟨rfl, rfl⟩
end Go.Proofs.Ytaolakknkhggnaa.X
end
section
namespace Go.Proofs.Ytaolakknkhggnaa.X
open Go.RowKit Go.Maps Go.Shelf Go.Lib Go.Proofs.YtaolakknkhggnaaW.PrintWords Go.Proofs.YtaolakknkhggnaaW.PrintLast
set_option linter.unusedVariables false
set_option linter.unusedSimpArgs false
set_option maxRecDepth 100000 in
set_option maxHeartbeats 4000000 in
/-- slices.Clone. -/
theorem cloneR (A : Option Addr) (n c : Nat) (cs : List Value) (w : World) (hsrc : ∀ ad, A = some ad → ∀ j u, cs[j]? = some u → w.cell? (ad.add j) = some u) (hn : cs.length = n) (h0 : A = none → n = 0) (h1 : ∀ u ∈ cs, u.oneCell' = true) (hl : n ≤ 1000000) :
    Calls Try.prog 86 #[.slice A n c] w fun e w' => ∃ v, e = .returned v ∧ w'.ownsRow w.heap.size 22 1 v n cs ∧ Below w.heap.size w w' := by
  obtain ⟨i0, hi, hz0, hz1, hz2⟩ := info_parts infoSS
  rcases A with _ | ad
  · obtain rfl := h0 rfl
    obtain rfl := List.eq_nil_of_length_eq_zero hn
    clear hsrc
    have hq : ∀ W, Sem.run Try.prog (binOp .eql 23 (.slice none 0 c) (.slice none 0 0)) W = .ok (.bool true) W := fun W => Lib.run_eql_slice_nil W 23 22 none 0 c 0 0 Try.underlying23
    go_enter Try.func86, Try.ntmps86
    go_wp2
    go_ret
    exact ⟨_, rfl, ⟨rfl, .inl ⟨rfl, rfl⟩⟩, Below.refl _ _⟩
  · have HO := Aside0.mk (nil_ownsRow w 22)
    have hB := below_alloc (Below.refl w.heap.size w) (.cells #[] 22)
    have HB := Aside0.mk hB
    have HN := Aside0.mk (fun j u (hu : cs[j]? = some u) => pw_cell_below hB (hsrc ad rfl j u hu))
    have HX := Aside0.mk h1
    have HL := Aside0.mk hn
    have hml : 0 + n ≤ maxLen := by unfold maxLen; omega
    have hml2 : (0 + n) * 24 ≤ 140737488355328 := by omega
    clear hsrc hB h1 h0 hn
    have hq : ∀ W, Sem.run Try.prog (binOp .eql 23 (.slice (some ad) n c) (.slice none 0 0)) W = .ok (.bool false) W := fun W => Lib.run_eql_slice_nil W 23 22 (some ad) n c 0 0 Try.underlying23
    go_enter Try.func86, Try.ntmps86
    go_wp2_with (first
      | (at_builtin; refine wpList_append_own _ rfl _ _ 23 rfl w.heap.size 22 i0 _ 1 24 Try.underlying23 hi hz0 hz1 hz2 rfl (by decide) _ _ _ rfl HO.out ad n c cs rfl (by rw [HL.out, Nat.mul_one]) HN.out HX.out hml hml2 HB.out.size ?_; intro v' w1 hown' hgrow _))
    go_ret
    rw [Nat.zero_add] at hown'
    exact ⟨_, rfl, hown', below_own_grown HO.out HB.out.size HB.out hgrow⟩
set_option maxRecDepth 100000 in
set_option maxHeartbeats 4000000 in
private theorem insR_end (base n : Nat) (v : Value) (cs : List Value) (x : Value) (vb : Nat) (w : World) (ho : w.ownsRow base 22 1 v n cs) (hbase : base ≤ w.heap.size) (hx : w.heap[vb]? = some (.cells #[x] 22 (0, 0))) (h1 : x.oneCell' = true) (hl : n ≤ 1000000) :
    Calls Try.prog 85 #[v, .int .i64 n, .slice (some ⟨vb, 0, none⟩) 1 1] w fun e w' => ∃ v', e = .returned v' ∧ w'.ownsRow base 22 1 v' (n + 1) (cs ++ [x]) ∧ Below base w w' := by
  obtain ⟨i0, hi, hz0, hz1, hz2⟩ := info_parts infoSS
  have HO := Aside0.mk ho
  have HN : Aside0 (∀ j u, [x][j]? = some u → w.cell? ((⟨vb, 0, none⟩ : Addr).add j) = some u) := ⟨fun j u hu => by
    rw [add_plain, blk_cell hx j, ← Array.getElem?_toList]
    exact hu⟩
  have HX : Aside0 (∀ u ∈ [x], u.oneCell' = true) := ⟨fun u hu => by rw [List.mem_singleton.1 hu]; exact h1⟩
  have hml : n + 1 ≤ maxLen := by unfold maxLen; omega
  have hml2 : (n + 1) * 24 ≤ 140737488355328 := by omega
  have HG : Aside0 (∀ w', w.grownBy w' v.ownBlock → Below base w w') := ⟨fun w' hg => (Below.refl base w).grown hg hbase (fun k hk => own_base HO.out k hk)⟩
  have hf : v = .slice none 0 0 ∧ n = 0 ∨ ∃ g cap, v = .slice (some ⟨g, 0, none⟩) n cap ∧ n ≤ cap ∧ cap ≤ maxLen := by
    rcases ho.2 with h | ⟨g, cap, cur, h, _, _, hc, hm, _⟩
    · exact .inl h
    · exact .inr ⟨g, cap, h, hc, hm⟩
  clear ho hx h1
  rcases hf with ⟨rfl, rfl⟩ | ⟨g, cap, rfl, hc, hm⟩
  · go_enter Try.func85, Try.ntmps85
    go_wp2_with (first
      | (at_builtin; refine wpList_append_own _ rfl _ _ 23 rfl base 22 i0 _ 1 24 Try.underlying23 hi hz0 hz1 hz2 rfl (by decide) _ _ _ rfl HO.out ⟨vb, 0, none⟩ 1 1 [x] rfl rfl HN.out HX.out hml hml2 hbase ?_; intro v' w1 hown' hgrow _))
    go_ret
    exact ⟨_, rfl, hown', HG.out _ hgrow⟩
  · have hc2 : (n : Int) ≤ (cap : Int) := by omega
    have hm2 : (cap : Int) ≤ 9223372036854775807 := by unfold maxLen at hm; omega
    go_enter Try.func85, Try.ntmps85
    go_wp2_with (first
      | (at_builtin; refine wpList_append_own _ rfl _ _ 23 rfl base 22 i0 _ 1 24 Try.underlying23 hi hz0 hz1 hz2 rfl (by decide) _ _ _ rfl HO.out ⟨vb, 0, none⟩ 1 1 [x] rfl rfl HN.out HX.out hml hml2 hbase ?_; intro v' w1 hown' hgrow _))
    all_goals (
      go_ret
      exact ⟨_, rfl, hown', HG.out _ hgrow⟩)
/-- slices.Insert, of one. -/
theorem insR (base n i : Nat) (v : Value) (cs : List Value) (x : Value) (vb : Nat) (w : World) (ho : w.ownsRow base 22 1 v n cs) (hbase : base ≤ w.heap.size) (hx : w.heap[vb]? = some (.cells #[x] 22 (0, 0))) (hxv : v.ownBlock ≠ some vb) (h1 : x.oneCell' = true) (h1c : ∀ u ∈ cs, u.oneCell' = true) (hi : i ≤ n) (hl : n ≤ 1000000) :
    Calls Try.prog 85 #[v, .int .i64 i, .slice (some ⟨vb, 0, none⟩) 1 1] w fun e w' => ∃ v', e = .returned v' ∧ w'.ownsRow base 22 1 v' (n + 1) (cs.take i ++ x :: cs.drop i) ∧ Below base w w' := by
  have hcl : cs.length = n := by have := ho.1; omega
  rcases Nat.lt_or_ge i n with hlt | hge
  · rcases ho.2 with ⟨_, h0⟩ | ⟨g, cap, cur, rfl, hb, hh, hc, hm, hs, ht⟩
    · omega
    have ht1 := take_one (c := cap) ht
    have hne : vb ≠ g := fun e => hxv (by rw [e]; rfl)
    have hv1 : ∀ j v, [x][j]? = some v → w.cell? ⟨vb, 0 + j, none⟩ = some v := fun j u hu => by
      rw [Nat.zero_add, blk_cell hx j, ← Array.getElem?_toList]
      exact hu
    have h1v : ∀ u ∈ [x], u.oneCell' = true := fun u hu => by rw [List.mem_singleton.1 hu]; exact h1
    rcases Nat.lt_or_ge cap (n + 1) with hroom | hroom
    · refine (insR_grow g 0 n cap i vb 0 1 1 cs [x] w hlt (by omega) hc (by omega) (by omega) hcl rfl (own_cell0 hh ht1) hv1 h1c h1v).mono ?_
      rintro e w' ⟨rfl, rfl⟩
      have hge2 := grownCap_ge w (n + 1) cap 22
      have hle2 := grownCap_le_maxLen w (n + 1) cap 22 (by unfold maxLen; omega)
      generalize grownCap w (n + 1) cap 22 = G at hge2 hle2 ⊢
      have hR1 : ((cs.take i).toArray ++ Builtin.zeroCells (Value.slice none 0 0).cells (n + 1 - i) ++ Builtin.zeroCells (Value.slice none 0 0).cells (G - (n + 1))).size = G := by
        simp [Builtin.zeroCells, Value.cells]
        omega
      have hR2 : ((cs.take i).toArray ++ Builtin.zeroCells (Value.slice none 0 0).cells (n + 1 - i) ++ Builtin.zeroCells (Value.slice none 0 0).cells (G - (n + 1))).toList.take i = cs.take i := by
        rw [Array.toList_append, Array.toList_append, List.append_assoc, List.take_append_of_le_length (by simp; omega)]
        simp [List.take_take]
      generalize ((cs.take i).toArray ++ Builtin.zeroCells (Value.slice none 0 0).cells (n + 1 - i) ++ Builtin.zeroCells (Value.slice none 0 0).cells (G - (n + 1))) = ROW at hR1 hR2 ⊢
      refine ⟨_, rfl, own_weaken (own_grow (W := (w.alloc (.cells ROW 22)).drew) x (blk_new w _) hge2 hle2 hR1 hR2 hcl hlt) hbase, ?_⟩
      exact below_setCellsP hbase _ _ _ (below_drew (below_setCellsP hbase _ _ _ (below_drew ((Below.refl base w).alloc hbase _))))
    · refine (insR_shift g 0 n cap i vb 0 1 1 cs [x] w hlt (by omega) hroom (by unfold maxLen at hm; omega) hne hcl rfl (own_cell0 hh ht1) (own_there hh (by omega)) (fun j _ => by rw [Nat.zero_add]; exact blk_frozen hh j) hv1 h1c h1v 22 22 1 cur.size (by simp [World.shape?, hx]) (by simp [World.shape?, hh]) (by omega) (blk_frozen hx 0) (blk_frozen hx 1)).mono ?_
      rintro e w' ⟨rfl, rfl⟩
      exact ⟨_, rfl, own_shift (W := w.drew) x hh hb hroom hm (by omega) ht1 hcl hlt, below_setCellsP hb _ _ _ (below_setCellsP hb _ _ _ (below_drew (Below.refl base w)))⟩
  · obtain rfl : i = n := by omega
    rw [List.take_of_length_le (by omega), List.drop_of_length_le (by omega)]
    exact insR_end base i v cs x vb w ho hbase hx h1 hl
set_option maxRecDepth 1000000 in
set_option maxHeartbeats 4000000 in
private theorem delR_walk (g off n cap i j : Nat) (cs : List Value) (w : World) (hij : j = i + 1) (hj : j ≤ n) (hcap : n ≤ cap) (hm : cap ≤ 9223372036854775807) (hcl : cs.length = n) (hcs : ∀ t v, cs[t]? = some v → w.cell? ⟨g, off + t, none⟩ = some v)
    (hsp : ∀ t, t < n → (w.cell? ⟨g, off + t, none⟩).isSome = true) (hfz : ∀ t, t < n → w.frozen? ⟨g, off + t, none⟩ = false) (h1c : ∀ u ∈ cs, u.oneCell' = true) :
    Calls Try.prog 87 #[.slice (some ⟨g, off, none⟩) n cap, .int .i64 i, .int .i64 j] w fun e w' => e = .returned (.slice (some ⟨g, off, none⟩) (i + (n - j)) cap) ∧ w' = (w.drew.setCells g (off + i * 1) (cs.drop j)).setCells g (off + (i + (n - j))) (List.replicate (n - (i + (n - j))) (Value.slice none 0 0)) := by
  have mixed : Try.prog.follows .mixedOrders = true := by kernel_rfl
  obtain ⟨i0, hi0, hz0, hz1, hz2⟩ := info_parts infoSS
  obtain ⟨news, hnews⟩ : ∃ news, news = cs.drop j := ⟨_, rfl⟩
  have hlen : news.length = n - j := by rw [hnews]; simp; omega
  obtain ⟨A, hA, hsrc⟩ : ∃ A : Addr, (if cap = j then some (⟨g, off, none⟩ : Addr) else some ⟨g, off + j, none⟩) = some A ∧ Hid (∀ t u, news[t]? = some u → w.drew.cell? (A.add t) = some u) := by
    by_cases h : cap = j
    · refine ⟨⟨g, off, none⟩, by simp [h], fun t u hu => ?_⟩
      have h0 : news.length = 0 := by rw [hlen]; omega
      rw [List.length_eq_zero_iff.1 h0] at hu
      simp at hu
    · refine ⟨⟨g, off + j, none⟩, by simp [h], fun t u hu => ?_⟩
      rw [hnews, List.getElem?_drop] at hu
      rw [Addr.add_lit, show off + j + t = off + (j + t) by omega]
      exact hcs _ _ hu
  have s1 : Hid (news.length = (n - j) * 1) := by rw [Nat.mul_one]; exact hlen
  have s2 : Hid (∀ u ∈ news, u.oneCell' = true) := by
    intro u hu
    rw [hnews] at hu
    exact h1c u (List.mem_of_mem_drop hu)
  have s3 : Hid (∀ t, t < news.length → (w.drew.cell? ⟨g, off + i * 1 + t, none⟩).isSome = true ∧ w.drew.frozen? ⟨g, off + i * 1 + t, none⟩ = false) := by
    intro t ht
    rw [hlen] at ht
    rw [Nat.mul_one, Nat.add_assoc]
    exact ⟨hsp _ (by omega), hfz _ (by omega)⟩
  obtain ⟨W1, hW1⟩ : ∃ W1, W1 = w.drew.setCells g (off + i * 1) news := ⟨_, rfl⟩
  have hcl2 : ∀ ty, (Builtin.clear_ #[23] ty #[.slice (some ⟨g, off + (i + (n - j)), none⟩) (n - (i + (n - j))) (cap - (i + (n - j)))]).run Try.prog W1 = .ok (.tuple #[]) (W1.setCells g (off + (i + (n - j))) (List.replicate (n - (i + (n - j))) (Value.slice none 0 0))) :=
    fun ty => Lib.run_clear_slice W1 _ _ ty _ Try.underlying23 (zero_run infoSS) rfl rfl g (off + (i + (n - j))) _ _ (by omega)
      (fun t ht => by rw [hW1, Nat.add_assoc]; exact isSome_setCells g _ _ _ (fun t2 h2 => by have := (s3 t2 h2).1; exact this) _ (hsp _ (by omega)))
      (fun t ht => by rw [hW1, World.frozen?_setCells, Nat.add_assoc]; exact hfz _ (by omega))
  have hW : Hid (W1 = w.drew.setCells g (off + i * 1) news) := hW1
  have hD : Hid (news = cs.drop j) := hnews
  rw [← hnews, ← hW1]
  have hic : i ≤ cap := by omega
  have hjc : j ≤ cap := by omega
  have hjn : ¬ ((i : Int) = (j : Int)) := by omega
  have hin : i < j := by omega
  clear hij
  clear hW1 hnews hcs hsp hfz hcl h1c hlen
  go_enter Try.func87, Try.ntmps87
  go_wp2_with fail
  go_region_law_o (refine step_append_room rfl (.tmp 22) (.tmp 25) 23 rfl 22 i0 1 Try.underlying23 hi0 hz1 g off i cap (by simp [Act.eval, Act.put]) A (n - j) (cap - j) news (by simp [Act.eval, Act.put]) s1.out hsrc.out s2.out (by omega) s3.out ?_; rw [← hW.out])
  go_wp2
  go_ret
  exact ⟨rfl, rfl⟩
/-- slices.Delete, of one. -/
theorem delR (base n i j : Nat) (v : Value) (cs : List Value) (w : World) (ho : w.ownsRow base 22 1 v n cs) (hij : j = i + 1) (h1c : ∀ u ∈ cs, u.oneCell' = true) (hi : i < n) :
    Calls Try.prog 87 #[v, .int .i64 i, .int .i64 j] w fun e w' => ∃ v', e = .returned v' ∧ w'.ownsRow base 22 1 v' (n - 1) (cs.take i ++ cs.drop (i + 1)) ∧ Below base w w' := by
  have hcl : cs.length = n := by have := ho.1; omega
  rcases ho.2 with ⟨_, h0⟩ | ⟨g, cap, cur, rfl, hb, hh, hc, hm, hs, ht⟩
  · omega
  have ht1 := take_one (c := cap) ht
  refine (delR_walk g 0 n cap i j cs w hij (by omega) hc (by unfold maxLen at hm; omega) hcl (own_cell0 hh ht1) (own_there hh (by omega)) (fun t _ => by rw [Nat.zero_add]; exact blk_frozen hh t) h1c).mono ?_
  rintro e w' ⟨rfl, rfl⟩
  have e1 : i + (n - j) = n - 1 := by omega
  have e2 : n - (n - 1) = 1 := by omega
  rw [e1, e2, Nat.mul_one, Nat.zero_add, Nat.zero_add, hij]
  exact ⟨_, rfl, own_drop (W := w.drew) (Value.slice none 0 0) hh hb hc hm (by omega) ht1 hcl hi, below_setCellsP hb _ _ _ (below_setCellsP hb _ _ _ (below_drew (Below.refl base w)))⟩
set_option maxRecDepth 100000 in
set_option maxHeartbeats 4000000 in
theorem putR_calls (A : Option Addr) (n c i : Nat) (cs : List Value) (Ax : Option Addr) (nx cx : Nat) (w : World) (hsrc : ∀ ad, A = some ad → ∀ j u, cs[j]? = some u → w.cell? (ad.add j) = some u) (hn : cs.length = n) (h0 : A = none → n = 0) (h1 : ∀ u ∈ cs, u.oneCell' = true) (hi : i ≤ n) (hl : n ≤ 1000000) :
    Calls Try.prog 63 #[.slice A n c, .int .i64 i, (Value.slice Ax nx cx)] w fun e w' => ∃ v, e = .returned v ∧ w'.ownsRow w.heap.size 22 1 v (n + 1) (cs.take i ++ (Value.slice Ax nx cx) :: cs.drop i) ∧ Below w.heap.size w w' := by
  have HC := Aside0.mk (cloneR A n c cs w hsrc hn h0 h1 hl)
  have HO := Aside0.mk h1
  clear hsrc hn h0 h1
  go_enter Try.func63, Try.ntmps63
  go_wp2_with (first
    | (go_at_call 86; refine HC.out.mono ?_; rintro e w1 ⟨v1, rfl, ho1, hb1⟩; have HO1 := Aside0.mk ho1; have HB1 := Aside0.mk hb1; clear ho1 hb1 HC)
    | (go_at_call 85; refine (insR w.heap.size n i v1 cs (Value.slice Ax nx cx) w1.heap.size _ (own_move HO1.out (fun k hk => (below_alloc (Below.refl _ _) _).block _ (own_lt HO1.out k hk))) (Nat.le_trans HB1.out.size (by simp)) (blk_new w1 _) (fun e => Nat.lt_irrefl _ (own_lt HO1.out _ e)) rfl HO.out hi hl).mono ?_; rintro e w2 ⟨v2, rfl, ho2, hb2⟩; have HO2 := Aside0.mk ho2; have HB2 := Aside0.mk ((HB1.out.alloc HB1.out.size _).trans hb2); clear ho2 hb2))
  go_ret
  exact ⟨_, rfl, HO2.out, HB2.out⟩
set_option maxRecDepth 100000 in
set_option maxHeartbeats 4000000 in
theorem dropR_calls (A : Option Addr) (n c i : Nat) (cs : List Value) (w : World) (hsrc : ∀ ad, A = some ad → ∀ j u, cs[j]? = some u → w.cell? (ad.add j) = some u) (hn : cs.length = n) (h0 : A = none → n = 0) (h1 : ∀ u ∈ cs, u.oneCell' = true) (hi : i < n) (hl : n ≤ 1000000) :
    Calls Try.prog 67 #[.slice A n c, .int .i64 i] w fun e w' => ∃ v, e = .returned v ∧ w'.ownsRow w.heap.size 22 1 v (n - 1) (cs.take i ++ cs.drop (i + 1)) ∧ Below w.heap.size w w' := by
  have HC := Aside0.mk (cloneR A n c cs w hsrc hn h0 h1 hl)
  have HO := Aside0.mk h1
  have hw1 : wrap64 ((i : Int) + 1) = ((i + 1 : Nat) : Int) := by unfold wrap64; omega
  have hw2 : IntKind.i64.wrap ((i : Int) + 1) = ((i + 1 : Nat) : Int) := by rw [IntKind.wrap_i64]; omega
  obtain ⟨j, hj⟩ : ∃ j, j = i + 1 := ⟨_, rfl⟩
  rw [← hj] at hw1 hw2 ⊢
  have HJ := Aside0.mk hj
  clear hsrc hn h0 h1 hj
  go_enter Try.func67, Try.ntmps67
  go_wp2_with (first
    | (go_at_call 86; refine HC.out.mono ?_; rintro e w1 ⟨v1, rfl, ho1, hb1⟩; have HO1 := Aside0.mk ho1; have HB1 := Aside0.mk hb1; clear ho1 hb1 HC)
    | (go_at_call 87; refine (delR w.heap.size n i j v1 cs _ HO1.out HJ.out HO.out hi).mono ?_; rintro e w2 ⟨v2, rfl, ho2, hb2⟩; have HO2 := Aside0.mk ho2; have HB2 := Aside0.mk (HB1.out.trans hb2); clear ho2 hb2))
  go_ret
  rw [HJ.out]
  exact ⟨_, rfl, HO2.out, HB2.out⟩
set_option maxRecDepth 100000 in
set_option maxHeartbeats 4000000 in
theorem moveR_calls (A : Option Addr) (n c i k : Nat) (cs : List Value) (Ax : Option Addr) (nx cx : Nat) (w : World) (hsrc : ∀ ad, A = some ad → ∀ j u, cs[j]? = some u → w.cell? (ad.add j) = some u) (hn : cs.length = n) (h0 : A = none → n = 0) (h1 : ∀ u ∈ cs, u.oneCell' = true) (hi : i < n) (hk : k < n) (hx : cs[i]? = some (Value.slice Ax nx cx)) (hl : n ≤ 1000000) :
    Calls Try.prog 51 #[.slice A n c, .int .i64 i, .int .i64 k] w fun e w' => ∃ v, e = .returned v ∧ w'.ownsRow w.heap.size 22 1 v (n - 1 + 1) ((cs.take i ++ cs.drop (i + 1)).take k ++ (Value.slice Ax nx cx) :: (cs.take i ++ cs.drop (i + 1)).drop k) ∧ Below w.heap.size w w' := by
  rcases A with _ | ad
  · have := h0 rfl; omega
  have HX := Aside0.mk (hsrc ad rfl i _ hx)
  have HX0 : Aside0 (w.drew.cell? (ad.add i) = some (Value.slice Ax nx cx)) := ⟨HX.out⟩
  have HS := Aside0.mk (hsrc ad rfl)
  have HN := Aside0.mk hn
  have HO := Aside0.mk h1
  have HO4 : Aside0 (∀ u ∈ cs.take i ++ cs.drop (i + 1), u.oneCell' = true) := ⟨fun u hu => by
    rcases List.mem_append.1 hu with h | h
    · exact h1 u (List.mem_of_mem_take h)
    · exact h1 u (List.mem_of_mem_drop h)⟩
  have hiI : 0 ≤ (i : Int) ∧ (i : Int) < (n : Int) := by omega
  clear hsrc hn h0 h1 hx
  go_enter Try.func51, Try.ntmps51
  go_wp2_with fail
  refine start_ (n := 10) (S := fun w' => w'.cell? (ad.add i) = some (Value.slice Ax nx cx)) (ds := []) #[false, false, false, false, false, false, false, false, false, false] (by kernel_rfl) rfl rfl HX0.out (fun hHeld => ?_)
  generalize hW3 : w.drew = W3 at hHeld ⊢
  have HB3 : Aside0 (Below w.heap.size w W3) := ⟨by rw [← hW3]; exact below_drew (Below.refl _ _)⟩
  clear hW3
  refine pure_ (i := 0) (N := some 7) (v := ?_) (a' := ?_) #[true, false, false, false, false, false, false, false, false, false] rfl rfl (by kernel_rfl) (fun _ _ _ h => h) (Or.inl ⟨by rfl, ?_⟩) ?_ ?_
  rotate_left
  · intro w'
    go_simp
    with_reducible rfl
  rotate_left
  · simp only [Act.put, List.setIfInBounds_toArray, List.set_cons_zero, List.set_cons_succ]
    rfl
  refine pure_ (i := 1) (N := some 8) (v := ?_) (a' := ?_) #[true, true, false, false, false, false, false, false, false, false] rfl rfl (by kernel_rfl) (fun _ _ _ h => h) (Or.inl ⟨by rfl, ?_⟩) ?_ ?_
  rotate_left
  · intro w'
    go_simp
    with_reducible rfl
  rotate_left
  · simp only [Act.put, List.setIfInBounds_toArray, List.set_cons_zero, List.set_cons_succ]
    rfl
  refine pure_ (i := 3) (N := some 10) (v := ?_) (a' := ?_) #[true, true, false, true, false, false, false, false, false, false] rfl rfl (by kernel_rfl) (fun _ _ _ h => h) (Or.inl ⟨by rfl, ?_⟩) ?_ ?_
  rotate_left
  · intro w'
    go_simp
    with_reducible rfl
  rotate_left
  · simp only [Act.put, List.setIfInBounds_toArray, List.set_cons_zero, List.set_cons_succ]
    rfl
  refine pure_ (i := 4) (N := some 11) (v := ?_) (a' := ?_) #[true, true, false, true, true, false, false, false, false, false] rfl rfl (by kernel_rfl) (fun _ _ _ h => h) (Or.inl ⟨by rfl, ?_⟩) ?_ ?_
  rotate_left
  · intro w'
    go_simp
    with_reducible rfl
  rotate_left
  · simp only [Act.put, List.setIfInBounds_toArray, List.set_cons_zero, List.set_cons_succ]
    rfl
  refine pure_ (i := 5) (N := some 12) (v := ?_) (a' := ?_) #[true, true, false, true, true, true, false, false, false, false] rfl rfl (by kernel_rfl) (fun _ _ _ h => h) (Or.inl ⟨by rfl, ?_⟩) ?_ ?_
  rotate_left
  · intro w'
    go_simp
    with_reducible rfl
  rotate_left
  · simp only [Act.put, List.setIfInBounds_toArray, List.set_cons_zero, List.set_cons_succ]
    rfl
  refine pure_ (i := 6) (N := some 13) (v := ?_) (a' := ?_) #[true, true, false, true, true, true, true, false, false, false] rfl rfl (by kernel_rfl) (fun _ _ _ h => h) (Or.inl ⟨by rfl, ?_⟩) ?_ ?_
  rotate_left
  · intro w'
    go_simp
    with_reducible rfl
  rotate_left
  · simp only [Act.put, List.setIfInBounds_toArray, List.set_cons_zero, List.set_cons_succ]
    rfl
  refine take_ (i := 7) (N := some 14) (v := ?_) (a' := ?_) #[true, true, false, true, true, true, true, true, false, false] rfl rfl (by kernel_rfl) (fun _ _ _ h => h) (Or.inl ⟨by rfl, ?_⟩) hHeld ?_ ?_
  rotate_left
  · intro w' hx0
    go_simp
    with_reducible rfl
  rotate_left
  · simp only [Act.put, List.setIfInBounds_toArray, List.set_cons_zero, List.set_cons_succ]
    rfl
  refine one_ (i := 2) (N := some 9) #[true, true, true, true, true, true, true, true, false, false] rfl rfl (by kernel_rfl) (by decide) (fun K hK => ?_)
  refine goes_ Try.func67 (by kernel_rfl) rfl #[.slice (some ad) n c, .int .i64 i] (by rfl) rfl rfl (by (try simp only [List.map_toArray, List.map_cons, List.map_nil]); first | done | rfl) ?_
  refine (dropR_calls (some ad) n c i cs _ (fun ad' e j u hu => by cases e; exact pw_cell_below HB3.out (HS.out j u hu)) HN.out (fun e => nomatch e) HO.out hi hl).mono ?_
  rintro e w4 ⟨v4, rfl, ho4, hb4⟩
  obtain ⟨A4, c4, rfl, hn4, hs4⟩ := own_slice ho4
  refine ⟨_, rfl, ?_⟩
  have HB4 := Aside0.mk (HB3.out.trans (hb4.mono HB3.out.size))
  have HS4 := Aside0.mk hs4
  have HL4 := Aside0.mk ho4.1
  clear ho4 hb4 hs4
  refine hK.out _ _ (pw_cell_below HB4.out HX.out) (fun hHeld => ?_)
  clear hK K
  refine norm_ (a' := ?_) ?_ ?_
  rotate_left
  · show Act.put _ (some 9) _ = _
    simp only [Act.put, List.setIfInBounds_toArray, List.set_cons_zero, List.set_cons_succ]
    rfl
  refine one_ (i := 8) (N := some 15) #[true, true, true, true, true, true, true, true, true, false] rfl rfl (by kernel_rfl) (by decide) (fun K hK => ?_)
  refine goes_ Try.func63 (by kernel_rfl) rfl #[.slice A4 (n - 1) c4, .int .i64 k, (Value.slice Ax nx cx)] (by rfl) rfl rfl (by (try simp only [List.map_toArray, List.map_cons, List.map_nil]); first | done | rfl) ?_
  refine (putR_calls A4 (n - 1) c4 k (cs.take i ++ cs.drop (i + 1)) Ax nx cx _ HS4.out (by rw [HL4.out, Nat.mul_one]) hn4 HO4.out (by omega) (by omega)).mono ?_
  rintro e w5 ⟨v5, rfl, ho5, hb5⟩
  refine ⟨_, rfl, ?_⟩
  have HB5 := Aside0.mk (HB4.out.trans (hb5.mono HB4.out.size))
  have HO5 := Aside0.mk (own_weaken ho5 HB4.out.size)
  clear ho5 hb5
  refine hK.out _ _ (pw_cell_below HB5.out HX.out) (fun hHeld => ?_)
  clear hK K
  refine norm_ (a' := ?_) ?_ ?_
  rotate_left
  · show Act.put _ (some 15) _ = _
    simp only [Act.put, List.setIfInBounds_toArray, List.set_cons_zero, List.set_cons_succ]
    rfl
  refine pure_ (i := 9) (N := some 6) (v := ?_) (a' := ?_) #[true, true, true, true, true, true, true, true, true, true] rfl rfl (by kernel_rfl) (fun _ _ _ h => h) (Or.inl ⟨by rfl, ?_⟩) ?_ ?_
  rotate_left
  · intro w'
    go_simp
    with_reducible rfl
  rotate_left
  · simp only [Act.put, List.setIfInBounds_toArray, List.set_cons_zero, List.set_cons_succ]
    rfl
  refine done_ (by kernel_rfl) ?_
  clear hHeld

  go_wp2
  go_ret
  exact ⟨_, rfl, HO5.out, HB5.out⟩
end Go.Proofs.Ytaolakknkhggnaa.X
end
section
namespace Go.Proofs.Ytaolakknkhggnaa.X
open Go.RowKit Go.Maps Go.Shelf Go.Proofs.YtaolakknkhggnaaW.PrintWords Go.Proofs.YtaolakknkhggnaaW.PrintLast
set_option linter.unusedVariables false
set_option linter.unusedSimpArgs false
def putL {α : Type} (l : List α) (i : Nat) (x : α) : List α := l.take i ++ x :: l.drop i
def dropL {α : Type} (l : List α) (i : Nat) : List α := l.take i ++ l.drop (i + 1)
theorem putL_length {α : Type} {l : List α} {i : Nat} (x : α) (h : i ≤ l.length) : (putL l i x).length = l.length + 1 := by unfold putL; simp; omega
theorem dropL_length {α : Type} {l : List α} {i : Nat} (h : i < l.length) : (dropL l i).length = l.length - 1 := by unfold dropL; simp; omega
theorem putL_map {α β : Type} (f : α → β) (l : List α) (i : Nat) (x : α) : (putL l i x).map f = putL (l.map f) i (f x) := by unfold putL; simp [List.map_take, List.map_drop]
theorem dropL_map {α β : Type} (f : α → β) (l : List α) (i : Nat) : (dropL l i).map f = dropL (l.map f) i := by unfold dropL; simp [List.map_take, List.map_drop]
theorem putL_get {α : Type} {l : List α} {i : Nat} (x : α) (h : i ≤ l.length) (j : Nat) : (putL l i x)[j]? = if j < i then l[j]? else if j = i then some x else l[j - 1]? := by
  unfold putL
  have h0 : (l.take i).length = i := by simp; omega
  by_cases h1 : j < i
  · rw [if_pos h1, List.getElem?_append_left (by omega), List.getElem?_take, if_pos h1]
  · rw [if_neg h1, List.getElem?_append_right (by omega), h0]
    by_cases h2 : j = i
    · rw [if_pos h2, h2, Nat.sub_self]; rfl
    · rw [if_neg h2, show j - i = (j - i - 1) + 1 by omega, List.getElem?_cons_succ, List.getElem?_drop]
      congr 1
      omega
theorem dropL_get {α : Type} {l : List α} {i : Nat} (h : i < l.length) (j : Nat) : (dropL l i)[j]? = if j < i then l[j]? else l[j + 1]? := by
  unfold dropL
  have h0 : (l.take i).length = i := by simp; omega
  by_cases h1 : j < i
  · rw [if_pos h1, List.getElem?_append_left (by omega), List.getElem?_take, if_pos h1]
  · rw [if_neg h1, List.getElem?_append_right (by omega), h0, List.getElem?_drop]
    congr 1
    omega
/-- A row of texts that is read, by its cells. -/
theorem C_src {w : World} {A : Option Addr} {l : List ByteArray} (h : Kd.C Kd.string w A l.length l) : (∀ ad, A = some ad → ∀ j u, (l.map Value.string)[j]? = some u → w.cell? (ad.add j) = some u) ∧ (A = none → l.length = 0) := by
  refine ⟨fun ad e j u hu => ?_, fun e => ?_⟩
  · rw [List.getElem?_map] at hu
    obtain ⟨x, hx, rfl⟩ := Option.map_eq_some_iff.1 hu
    have hlt := (List.getElem?_eq_some_iff.1 hx).1
    obtain ⟨ad', e2, hc⟩ := h.2.2 (by omega)
    rw [e] at e2
    cases e2
    obtain ⟨cs, hl, hK, hu⟩ := hc j x hx
    have hK' : cs = [Value.string x] := hK
    subst hK'
    have := hu 0 _ rfl
    have e2 : j * Kd.string.sz + 0 = j := by show j * 1 + 0 = j; omega
    rwa [e2] at this
  · rcases Nat.eq_zero_or_pos l.length with h0 | h0
    · exact h0
    · obtain ⟨ad, e2, _⟩ := h.2.2 h0
      rw [e] at e2
      cases e2
theorem str_one (l : List ByteArray) : ∀ u ∈ l.map Value.string, u.oneCell' = true := fun u hu => by
  obtain ⟨x, _, rfl⟩ := List.mem_map.1 hu
  rfl
theorem R_of_own {W : World} {base n : Nat} {v : Value} {l : List ByteArray} (h : W.ownsRow base 9 1 v n (l.map Value.string)) : Kd.R Kd.string 9 W base (fun _ => True) v l := by
  have hn : n = l.length := by have := h.1; rw [List.length_map] at this; omega
  subst hn
  refine ⟨fun _ _ => trivial, l.map Value.string, h, ?_, fun j x hx => ?_⟩
  · show (l.map Value.string).length = l.length * 1
    rw [List.length_map, Nat.mul_one]
  · show ((l.map Value.string).drop (j * 1)).take 1 = [Value.string x]
    have hlt := (List.getElem?_eq_some_iff.1 hx)
    rw [Nat.mul_one]
    obtain ⟨hl, hx⟩ := hlt
    have hl2 : j < (l.map Value.string).length := by rw [List.length_map]; exact hl
    rw [List.drop_eq_getElem_cons hl2, List.take_succ_cons, List.take_zero, List.getElem_map, hx]
theorem own_of_R {W : World} {base : Nat} {ok : Nat → Prop} {v : Value} {l : List ByteArray} (h : Kd.R Kd.string 9 W base ok v l) : W.ownsRow base 9 1 v l.length (l.map Value.string) ∧ ∀ k, v.ownBlock = some k → ok k := by
  obtain ⟨h0, inner, ho, hr⟩ := h
  have e : inner = l.map Value.string := by
    have hl : inner.length = l.length := by have := hr.1; rw [show (Kd.string).sz = 1 from rfl, Nat.mul_one] at this; exact this
    refine List.ext_getElem (by rw [hl, List.length_map]) fun j h1 h2 => ?_
    have h3 : j < l.length := by omega
    have h4 : ((inner.drop (j * 1)).take 1) = [Value.string l[j]] := hr.2 j l[j] (List.getElem?_eq_getElem h3)
    rw [Nat.mul_one, List.drop_eq_getElem_cons h1, List.take_succ_cons, List.take_zero] at h4
    injection h4 with h4
    rw [h4, List.getElem_map]
  subst e
  exact ⟨ho, h0⟩
/-- Rows of the call's own by their cells: no two of them in one block. -/
def Rw (w : World) (base : Nat) (ok : Nat → Prop) (rows : List (List ByteArray)) (cs : List Value) : Prop :=
  ∃ okj : Nat → Nat → Prop, (∀ i j k, okj i k → okj j k → i = j) ∧ (∀ j k, okj j k → ok k) ∧ cs.length = rows.length ∧ ∀ j x, rows[j]? = some x → ∃ u, cs[j]? = some u ∧ Kd.R Kd.string 9 w base (okj j) u x
theorem Rw.one {w : World} {base : Nat} {ok : Nat → Prop} {rows : List (List ByteArray)} {cs : List Value} (h : Rw w base ok rows cs) : ∀ u ∈ cs, u.oneCell' = true := fun u hu => by
  obtain ⟨okj, _, _, hl, hr⟩ := h
  obtain ⟨i, hi⟩ := List.getElem?_of_mem hu
  have hlt := (List.getElem?_eq_some_iff.1 hi).1
  obtain ⟨u', h1, h2⟩ := hr i (rows[i]'(by omega)) (List.getElem?_eq_getElem (by omega))
  rw [hi] at h1
  cases h1
  obtain ⟨A, c, rfl⟩ := Kd.R_slice h2
  rfl
theorem Rw.weak {w : World} {base : Nat} {ok ok' : Nat → Prop} {rows : List (List ByteArray)} {cs : List Value} (h : Rw w base ok rows cs) (hok : ∀ k, ok k → ok' k) : Rw w base ok' rows cs := by
  obtain ⟨okj, h1, h2, h3, h4⟩ := h
  exact ⟨okj, h1, fun j k hk => hok k (h2 j k hk), h3, h4⟩
theorem Rw.move {w w' : World} {base : Nat} {ok : Nat → Prop} {rows : List (List ByteArray)} {cs : List Value} (h : Rw w base ok rows cs) (hm : ∀ k, ok k → k < w.heap.size → w'.heap[k]? = w.heap[k]?) : Rw w' base ok rows cs := by
  obtain ⟨okj, h1, h2, h3, h4⟩ := h
  refine ⟨okj, h1, h2, h3, fun j x hx => ?_⟩
  obtain ⟨u, hu, hR⟩ := h4 j x hx
  exact ⟨u, hu, Kd.R_step hR (fun k hk hlt => hm k (h2 j k hk) hlt)⟩
theorem Rw.below {w w' : World} {base : Nat} {ok : Nat → Prop} {rows : List (List ByteArray)} {cs : List Value} (h : Rw w base ok rows cs) (hb : Below w.heap.size w w') : Rw w' base ok rows cs := h.move (fun k _ hk => hb.block k hk)
/-- Other rows out of these, none twice. -/
theorem Rw.pick {w : World} {base : Nat} {ok : Nat → Prop} {rows rows' : List (List ByteArray)} {cs cs' : List Value} (h : Rw w base ok rows cs) (s : Nat → Nat) (hl : cs'.length = rows'.length) (hs : ∀ i j, i < rows'.length → j < rows'.length → s i = s j → i = j) (hr : ∀ j, j < rows'.length → rows'[j]? = rows[s j]?) (hc : ∀ j, j < rows'.length → cs'[j]? = cs[s j]?) : Rw w base ok rows' cs' := by
  obtain ⟨okj, h1, h2, h3, h4⟩ := h
  refine ⟨fun j k => j < rows'.length ∧ okj (s j) k, fun i j k hi hj => hs i j hi.1 hj.1 (h1 _ _ k hi.2 hj.2), fun j k hk => h2 _ k hk.2, hl, fun j x hx => ?_⟩
  have hj := (List.getElem?_eq_some_iff.1 hx).1
  rw [hr j hj] at hx
  obtain ⟨u, hu, hR⟩ := h4 _ x hx
  exact ⟨u, (hc j hj).trans hu, Kd.R_mono hR (fun k hk => ⟨hj, hk⟩)⟩
theorem Rw.cons {w : World} {base : Nat} {ok okp : Nat → Prop} {rows : List (List ByteArray)} {cs : List Value} (h : Rw w base ok rows cs) {u : Value} {x : List ByteArray} (hu : Kd.R Kd.string 9 w base okp u x) (hap : ∀ k, okp k → ¬ ok k) : Rw w base (fun k => ok k ∨ okp k) (x :: rows) (u :: cs) := by
  obtain ⟨okj, h1, h2, h3, h4⟩ := h
  refine ⟨fun j k => match j with | 0 => okp k | j + 1 => okj j k, ?_, ?_, by simp [h3], ?_⟩
  · rintro (_ | i) (_ | j) k hi hj
    · rfl
    · exact absurd (h2 j k hj) (hap k hi)
    · exact absurd (h2 i k hi) (hap k hj)
    · rw [h1 i j k hi hj]
  · rintro (_ | j) k hk
    · exact .inr hk
    · exact .inl (h2 j k hk)
  · rintro (_ | j) y hy
    · cases hy
      exact ⟨u, rfl, hu⟩
    · exact h4 j y hy
theorem Rw.put {w : World} {base : Nat} {ok okp : Nat → Prop} {rows : List (List ByteArray)} {cs : List Value} (h : Rw w base ok rows cs) {u : Value} {x : List ByteArray} (hu : Kd.R Kd.string 9 w base okp u x) (hap : ∀ k, okp k → ¬ ok k) {i : Nat} (hi : i ≤ rows.length) : Rw w base (fun k => ok k ∨ okp k) (putL rows i x) (putL cs i u) := by
  have hl : cs.length = rows.length := h.choose_spec.2.2.1
  refine (h.cons hu hap).pick (fun j => if j < i then j + 1 else if j = i then 0 else j) (by rw [putL_length u (by omega), putL_length x hi, hl]) (fun a b ha hb e => ?_) (fun j hj => ?_) (fun j hj => ?_)
  · repeat' split at e
    all_goals omega
  · rw [putL_get x hi]
    by_cases h1 : j < i
    · simp [h1]
    · by_cases h2 : j = i
      · simp [h1, h2]
      · rw [if_neg h1, if_neg h2]
        simp only [h1, h2, if_false]
        obtain ⟨j', rfl⟩ : ∃ j', j = j' + 1 := ⟨j - 1, by omega⟩
        simp
  · rw [putL_get u (by omega)]
    by_cases h1 : j < i
    · simp [h1]
    · by_cases h2 : j = i
      · simp [h1, h2]
      · rw [if_neg h1, if_neg h2]
        simp only [h1, h2, if_false]
        obtain ⟨j', rfl⟩ : ∃ j', j = j' + 1 := ⟨j - 1, by omega⟩
        simp
theorem Rw.drop {w : World} {base : Nat} {ok : Nat → Prop} {rows : List (List ByteArray)} {cs : List Value} (h : Rw w base ok rows cs) {i : Nat} (hi : i < rows.length) : Rw w base ok (dropL rows i) (dropL cs i) := by
  have hl : cs.length = rows.length := h.choose_spec.2.2.1
  refine h.pick (fun j => if j < i then j else j + 1) (by rw [dropL_length (by omega), dropL_length hi, hl]) (fun a b ha hb e => ?_) (fun j hj => ?_) (fun j hj => ?_)
  · repeat' split at e
    all_goals omega
  · rw [dropL_get hi]
    by_cases h1 : j < i <;> simp [h1]
  · rw [dropL_get (by omega)]
    by_cases h1 : j < i <;> simp [h1]
theorem Rw.shift {w : World} {base : Nat} {ok : Nat → Prop} {rows : List (List ByteArray)} {cs : List Value} (h : Rw w base ok rows cs) {i k : Nat} (hi : i < rows.length) (hk : k < rows.length) {x : List ByteArray} {u : Value} (hx : rows[i]? = some x) (hu : cs[i]? = some u) : Rw w base ok (putL (dropL rows i) k x) (putL (dropL cs i) k u) := by
  have hl : cs.length = rows.length := h.choose_spec.2.2.1
  have d1 : (dropL rows i).length = rows.length - 1 := dropL_length hi
  have d2 : (dropL cs i).length = cs.length - 1 := dropL_length (by omega)
  refine h.pick (fun j => if j < k then (if j < i then j else j + 1) else if j = k then i else (if j - 1 < i then j - 1 else j - 1 + 1)) (by rw [putL_length u (by omega), putL_length x (by omega), d1, d2, hl]) (fun a b ha hb e => ?_) (fun j hj => ?_) (fun j hj => ?_)
  · repeat' split at e
    all_goals omega
  · rw [putL_get x (by omega)]
    by_cases h1 : j < k
    · simp only [h1, if_true]
      rw [dropL_get hi]
      by_cases h2 : j < i <;> simp [h2]
    · by_cases h2 : j = k
      · simp [h1, h2, hx]
      · simp only [h1, h2, if_false]
        rw [dropL_get hi]
        by_cases h3 : j - 1 < i <;> simp [h3]
  · rw [putL_get u (by omega)]
    by_cases h1 : j < k
    · simp only [h1, if_true]
      rw [dropL_get (by omega)]
      by_cases h2 : j < i <;> simp [h2]
    · by_cases h2 : j = k
      · simp [h1, h2, hu]
      · simp only [h1, h2, if_false]
        rw [dropL_get (by omega)]
        by_cases h3 : j - 1 < i <;> simp [h3]
theorem own_set {W : World} {base g n cap i : Nat} {e : TypeId} {cs : List Value} (h : W.ownsRow base e 1 (.slice (some ⟨g, 0, none⟩) n cap) n cs) (u : Value) : (W.setCell ⟨g, i, none⟩ u).ownsRow base e 1 (.slice (some ⟨g, 0, none⟩) n cap) n (cs.set i u) := by
  rcases h.2 with ⟨h2, _⟩ | ⟨g', cap', cur, hv, hb, hh, hc, hm, hs, ht⟩
  · cases h2
  · cases hv
    refine ⟨by rw [List.length_set]; exact h.1, .inr ⟨_, _, _, rfl, hb, blk_set hh i u, hc, hm, by simpa using hs, ?_⟩⟩
    rw [Array.toList_setIfInBounds, List.take_set, ht]
/-- One cell of one row is set. -/
theorem Rw.set {w : World} {base : Nat} {ok : Nat → Prop} {rows : List (List ByteArray)} {cs : List Value} (h : Rw w base ok rows cs) {i : Nat} {x : List ByteArray} (hx : rows[i]? = some x) {g n cap : Nat} (hu : cs[i]? = some (.slice (some ⟨g, 0, none⟩) n cap)) (k : Nat) (s : ByteArray) : Rw (w.setCell ⟨g, k, none⟩ (.string s)) base ok (rows.set i (x.set k s)) cs ∧ ok g := by
  obtain ⟨okj, h1, h2, h3, h4⟩ := h
  obtain ⟨u, hu', hR⟩ := h4 i x hx
  rw [hu] at hu'
  cases hu'
  obtain ⟨ho, hok⟩ := own_of_R hR
  have hg : okj i g := hok g rfl
  refine ⟨⟨okj, h1, h2, by rw [h3, List.length_set], fun j y hy => ?_⟩, h2 i g hg⟩
  by_cases hj : j = i
  · subst hj
    have hlt := (List.getElem?_eq_some_iff.1 hx).1
    rw [List.getElem?_set_self hlt] at hy
    cases hy
    have hn : n = x.length := by have := ho.1; rcases Kd.R_reads hR with ⟨A, c, e, _⟩; cases e; rfl
    subst hn
    have hs := own_set (i := k) ho (.string s)
    rw [show (x.map Value.string).set k (.string s) = (x.set k s).map Value.string by rw [List.map_set]] at hs
    have hs2 := R_of_own hs
    refine ⟨_, hu, Kd.R_mono (Kd.R_tight rfl hs2) (fun q hq => ?_)⟩
    have : q = g := by simpa [Value.ownBlock] using hq
    rw [this]; exact hg
  · rw [List.getElem?_set_ne (fun e => hj e.symm)] at hy
    obtain ⟨u2, hu2, hR2⟩ := h4 j y hy
    exact ⟨u2, hu2, Kd.R_far (p := ⟨g, k, none⟩) hR2 (fun q hq e => hj (h1 j i q hq (by rw [e]; exact hg))) _⟩
/-- A made row of rows, and its cells. -/
theorem S_cells {w : World} {base : Nat} {ok : Nat → Prop} {v : Value} {rows : List (List ByteArray)} (h : Kd.S (Kd.slice 9 Kd.string) 22 w base ok v rows) : ∃ cs, w.ownsRow base 22 1 v rows.length cs ∧ (∀ k, v.ownBlock = some k → ok k) ∧ Rw w base (fun k => ok k ∧ some k ≠ v.ownBlock) rows cs := by
  obtain ⟨f, h0, inner, ho, hr⟩ := h
  rw [List.length_zipIdx] at ho
  have hl : inner.length = rows.length := by
    have := hr.1
    rw [List.length_zipIdx] at this
    rw [this]
    show rows.length * 1 = rows.length
    omega
  refine ⟨inner, ho, h0, fun j k => (ok k ∧ some k ≠ v.ownBlock) ∧ f k = j, fun i j k hi hj => hi.2.symm.trans hj.2, fun j k hk => hk.1, hl, fun j x hx => ?_⟩
  have h2 := hr.2 j (x, j) (Kd.zip_at hx)
  obtain ⟨u, hu, hR⟩ := h2
  have hlt : j < inner.length := by rw [hl]; exact (List.getElem?_eq_some_iff.1 hx).1
  rw [show (Kd.tag f (Kd.slice 9 Kd.string)).sz = 1 from rfl, Nat.mul_one, List.drop_eq_getElem_cons hlt, List.take_succ_cons, List.take_zero] at hu
  injection hu with hu
  exact ⟨u, by rw [List.getElem?_eq_getElem hlt, hu], hR⟩
theorem cells_S {w : World} {base : Nat} {ok : Nat → Prop} {v : Value} {rows : List (List ByteArray)} {cs : List Value} {n : Nat} (ho : w.ownsRow base 22 1 v n cs) (h0 : ∀ k, v.ownBlock = some k → ok k) (h : Rw w base (fun k => ok k ∧ some k ≠ v.ownBlock) rows cs) : Kd.S (Kd.slice 9 Kd.string) 22 w base ok v rows := by
  obtain ⟨okj, h1, h2, h3, h4⟩ := h
  have hn : n = rows.length := by have := ho.1; omega
  subst hn
  obtain ⟨f, hf⟩ := Kd.reps_tag (d := Kd.slice 9 Kd.string) (w := w) (base := base) (ok := fun k => ok k ∧ some k ≠ v.ownBlock) (xs := rows) (inner := cs) okj h1 h2 (by rw [h3]; show rows.length = rows.length * 1; omega) (fun j x hx => by
    obtain ⟨u, hu, hR⟩ := h4 j x hx
    obtain ⟨hlt, hu⟩ := List.getElem?_eq_some_iff.1 hu
    refine ⟨u, ?_, hR⟩
    show (cs.drop (j * 1)).take 1 = [u]
    rw [Nat.mul_one, List.drop_eq_getElem_cons hlt, List.take_succ_cons, List.take_zero, hu])
  exact ⟨f, h0, cs, by rw [List.length_zipIdx]; exact ho, hf⟩
end Go.Proofs.Ytaolakknkhggnaa.X
end
section
namespace Go.Proofs.Ytaolakknkhggnaa.X
open Go.RowKit Go.Maps Go.Shelf Go.Proofs.YtaolakknkhggnaaW.PrintWords Go.Proofs.YtaolakknkhggnaaW.PrintLast
set_option linter.unusedVariables false
set_option linter.unusedSimpArgs false
theorem enters58 : Enters 58 := fun args W => enters_ Try.func58 (by kernel_rfl) rfl args W
theorem enters54 : Enters 54 := fun args W => enters_ Try.func54 (by kernel_rfl) rfl args W
theorem enters56 : Enters 56 := fun args W => enters_ Try.func56 (by kernel_rfl) rfl args W
theorem enters47 : Enters 47 := fun args W => enters_ Try.func47 (by kernel_rfl) rfl args W
theorem enters45 : Enters 45 := fun args W => enters_ Try.func45 (by kernel_rfl) rfl args W
set_option maxRecDepth 100000 in
set_option maxHeartbeats 1600000 in
theorem how58 (w : World) (ga a m : Nat) (hg : w.heap[ga]? = some (.cells #[.int .i64 a] 3 (0, 0))) (hm : a < m) (hl : m ≤ 1000000) : HowL 58 #[.pointer (some ⟨ga, 0, none⟩)] w (fun l => dropL l a) (fun x => x.length = m) := by
  intro W A c x hW hx hc hC
  show Calls Try.prog 58 #[.slice A x.length c, .pointer (some ⟨ga, 0, none⟩)] W _
  have hga := blk_cell ((hW.block _ (lt_of_block hg)).trans hg) 0
  have HS := Aside0.mk (C_src hC)
  have hax : a < x.length := by omega
  have hxl : x.length ≤ 1000000 := by omega
  clear hg hW hC hx
  go_enter Try.func58, Try.ntmps58
  go_wp2_with (go_at_call 59; refine (dropS_calls A x.length c a (x.map Value.string) W HS.out.1 (List.length_map _) HS.out.2 (str_one x) hax hxl).mono ?_; rintro e w1 ⟨v, rfl, ho, hb⟩; have HO := Aside0.mk ho; have HB := Aside0.mk hb; clear ho hb)
  go_ret
  refine ⟨_, rfl, R_of_own (n := x.length - 1) (by rw [dropL_map]; exact HO.out), HB.out⟩
set_option maxRecDepth 100000 in
set_option maxHeartbeats 1600000 in
theorem how54 (w : World) (ga gs a m : Nat) (s : ByteArray) (hg : w.heap[ga]? = some (.cells #[.int .i64 a] 3 (0, 0))) (hs : w.heap[gs]? = some (.cells #[.string s] 9 (0, 0))) (hm : a ≤ m) (hl : m ≤ 1000000) : HowL 54 #[.pointer (some ⟨ga, 0, none⟩), .pointer (some ⟨gs, 0, none⟩)] w (fun l => putL l a s) (fun x => x.length = m) := by
  intro W A c x hW hx hc hC
  show Calls Try.prog 54 #[.slice A x.length c, .pointer (some ⟨ga, 0, none⟩), .pointer (some ⟨gs, 0, none⟩)] W _
  have hga := blk_cell ((hW.block _ (lt_of_block hg)).trans hg) 0
  have hgs := blk_cell ((hW.block _ (lt_of_block hs)).trans hs) 0
  have HS := Aside0.mk (C_src hC)
  have hax : a ≤ x.length := by omega
  have hxl : x.length ≤ 1000000 := by omega
  clear hg hs hW hC hx
  go_enter Try.func54, Try.ntmps54
  go_wp2_with (go_at_call 55; refine (putS_calls A x.length c a (x.map Value.string) s W HS.out.1 (List.length_map _) HS.out.2 (str_one x) hax hxl).mono ?_; rintro e w1 ⟨v, rfl, ho, hb⟩; have HO := Aside0.mk ho; have HB := Aside0.mk hb; clear ho hb)
  go_ret
  refine ⟨_, rfl, R_of_own (n := x.length + 1) (by rw [putL_map]; exact HO.out), HB.out⟩
set_option maxRecDepth 100000 in
set_option maxHeartbeats 1600000 in
theorem how47 (w : World) (ga gb a b m : Nat) (hg : w.heap[ga]? = some (.cells #[.int .i64 a] 3 (0, 0))) (hs : w.heap[gb]? = some (.cells #[.int .i64 b] 3 (0, 0))) (hm : a < m) (hm2 : b < m) (hl : m ≤ 1000000) : HowL 47 #[.pointer (some ⟨ga, 0, none⟩), .pointer (some ⟨gb, 0, none⟩)] w (fun l => putL (dropL l a) b (l.getD a ByteArray.empty)) (fun x => x.length = m) := by
  intro W A c x hW hx hc hC
  show Calls Try.prog 47 #[.slice A x.length c, .pointer (some ⟨ga, 0, none⟩), .pointer (some ⟨gb, 0, none⟩)] W _
  have hga := blk_cell ((hW.block _ (lt_of_block hg)).trans hg) 0
  have hgb := blk_cell ((hW.block _ (lt_of_block hs)).trans hs) 0
  have HS := Aside0.mk (C_src hC)
  have hax : a < x.length := by omega
  have hbx : b < x.length := by omega
  have hxl : x.length ≤ 1000000 := by omega
  have HX : Aside0 ((x.map Value.string)[a]? = some (Value.string (x.getD a ByteArray.empty))) := ⟨by rw [List.getElem?_map, List.getD_eq_getElem?_getD, List.getElem?_eq_getElem hax]; rfl⟩
  clear hg hs hW hC hx
  go_enter Try.func47, Try.ntmps47
  go_wp2_with (go_at_call 48; refine (moveS_calls A x.length c a b (x.map Value.string) (x.getD a ByteArray.empty) W HS.out.1 (List.length_map _) HS.out.2 (str_one x) hax hbx HX.out hxl).mono ?_; rintro e w1 ⟨v, rfl, ho, hb⟩; have HO := Aside0.mk ho; have HB := Aside0.mk hb; clear ho hb)
  go_ret
  refine ⟨_, rfl, R_of_own (n := x.length - 1 + 1) (by rw [putL_map, dropL_map]; exact HO.out), HB.out⟩
set_option maxRecDepth 100000 in
set_option maxHeartbeats 4000000 in
theorem how56 (w : World) (ga gc a m : Nat) (Ac : Option Addr) (cc : Nat) (cells : List ByteArray) (rows : List (List ByteArray)) (hg : w.heap[ga]? = some (.cells #[.int .i64 a] 3 (0, 0))) (hs : w.heap[gc]? = some (.cells #[.slice Ac cells.length cc] 22 (0, 0))) (hcr : Kd.C Kd.string w Ac cells.length cells) (hm : a ≤ m) (hl : m ≤ 1000000) (hrow : ∀ x ∈ rows, x.length = m) (hcl : cells.length = rows.length) : HowI 56 #[.pointer (some ⟨ga, 0, none⟩), .pointer (some ⟨gc, 0, none⟩)] w (fun i l => putL l a (cells.getD i ByteArray.empty)) rows := by
  intro W i A c x hW hx hc hC
  show Calls Try.prog 56 #[.int .i64 i, .slice A x.length c, .pointer (some ⟨ga, 0, none⟩), .pointer (some ⟨gc, 0, none⟩)] W _
  have hxm := hrow x (List.mem_of_getElem? hx)
  have hi : i < cells.length := by rw [hcl]; exact (List.getElem?_eq_some_iff.1 hx).1
  obtain ⟨ad, e, hel⟩ := strAtA (Kd.C_below hcr hW) hi
  subst e
  obtain ⟨s, hsd⟩ : ∃ s, s = cells.getD i ByteArray.empty := ⟨_, rfl⟩
  have hel2 : W.cell? (ad.add i) = some (.string s) := by rw [hsd]; exact hel
  have HH : Aside0 (W.drew.cell? ⟨ga, 0, none⟩ = some (.int .i64 a) ∧ W.drew.cell? ⟨gc, 0, none⟩ = some (.slice (some ad) cells.length cc) ∧ W.drew.cell? (ad.add i) = some (.string s)) :=
    ⟨(blk_cell ((hW.block _ (lt_of_block hg)).trans hg) 0).trans rfl, (blk_cell ((hW.block _ (lt_of_block hs)).trans hs) 0).trans rfl, hel2⟩
  have HS := Aside0.mk (C_src hC)
  have HSD := Aside0.mk hsd
  have hax : a ≤ x.length := by omega
  have hxl : x.length ≤ 1000000 := by omega
  obtain ⟨m, hm⟩ : ∃ m, m = cells.length := ⟨_, rfl⟩
  rw [← hm] at hi HH
  have hiI : 0 ≤ (i : Int) ∧ (i : Int) < (m : Int) := by omega
  clear hg hs hW hC hx hcr hel hel2 hsd hrow hcl hxm hm
  go_enter Try.func56, Try.ntmps56
  go_wp2_with fail
  refine start_ (n := 8) (S := fun w' => w'.cell? ⟨ga, 0, none⟩ = some (.int .i64 a) ∧ w'.cell? ⟨gc, 0, none⟩ = some (.slice (some ad) m cc) ∧ w'.cell? (ad.add i) = some (.string s)) (ds := []) #[false, false, false, false, false, false, false, false] (by kernel_rfl) rfl rfl HH.out (fun hHeld => ?_)
  generalize hW3 : W.drew = W3 at hHeld ⊢
  have HB3 : Aside0 (Below W.heap.size W W3) := ⟨by rw [← hW3]; exact below_drew (Below.refl _ _)⟩
  clear hW3
  refine pure_ (i := 0) (N := some 7) (v := ?_) (a' := ?_) #[true, false, false, false, false, false, false, false] rfl rfl (by kernel_rfl) (fun _ _ _ h => h) (Or.inl ⟨by rfl, ?_⟩) ?_ ?_
  rotate_left
  · intro w'
    go_simp
    with_reducible rfl
  rotate_left
  · simp only [Act.put, List.setIfInBounds_toArray, List.set_cons_zero, List.set_cons_succ]
    rfl
  refine take_ (i := 1) (N := some 8) (v := ?_) (a' := ?_) #[true, true, false, false, false, false, false, false] rfl rfl (by kernel_rfl) (fun _ _ _ h => h) (Or.inl ⟨by rfl, ?_⟩) hHeld ?_ ?_
  rotate_left
  · rintro w' ⟨hx0, hx1, hx2⟩
    go_simp
    with_reducible rfl
  rotate_left
  · simp only [Act.put, List.setIfInBounds_toArray, List.set_cons_zero, List.set_cons_succ]
    rfl
  refine take_ (i := 2) (N := some 9) (v := ?_) (a' := ?_) #[true, true, true, false, false, false, false, false] rfl rfl (by kernel_rfl) (fun _ _ _ h => h) (Or.inl ⟨by rfl, ?_⟩) hHeld ?_ ?_
  rotate_left
  · rintro w' ⟨hx0, hx1, hx2⟩
    go_simp
    with_reducible rfl
  rotate_left
  · simp only [Act.put, List.setIfInBounds_toArray, List.set_cons_zero, List.set_cons_succ]
    rfl
  refine pure_ (i := 3) (N := some 10) (v := ?_) (a' := ?_) #[true, true, true, true, false, false, false, false] rfl rfl (by kernel_rfl) (fun _ _ _ h => h) (Or.inl ⟨by rfl, ?_⟩) ?_ ?_
  rotate_left
  · intro w'
    go_simp
    with_reducible rfl
  rotate_left
  · simp only [Act.put, List.setIfInBounds_toArray, List.set_cons_zero, List.set_cons_succ]
    rfl
  refine pure_ (i := 4) (N := some 11) (v := ?_) (a' := ?_) #[true, true, true, true, true, false, false, false] rfl rfl (by kernel_rfl) (fun _ _ _ h => h) (Or.inl ⟨by rfl, ?_⟩) ?_ ?_
  rotate_left
  · intro w'
    go_simp
    with_reducible rfl
  rotate_left
  · simp only [Act.put, List.setIfInBounds_toArray, List.set_cons_zero, List.set_cons_succ]
    rfl
  refine take_ (i := 5) (N := some 12) (v := ?_) (a' := ?_) #[true, true, true, true, true, true, false, false] rfl rfl (by kernel_rfl) (fun _ _ _ h => h) (Or.inl ⟨by rfl, ?_⟩) hHeld ?_ ?_
  rotate_left
  · rintro w' ⟨hx0, hx1, hx2⟩
    go_simp
    with_reducible rfl
  rotate_left
  · simp only [Act.put, List.setIfInBounds_toArray, List.set_cons_zero, List.set_cons_succ]
    rfl
  refine one_ (i := 6) (N := some 13) #[true, true, true, true, true, true, true, false] rfl rfl (by kernel_rfl) (by decide) (fun K hK => ?_)
  refine goes_ Try.func55 (by kernel_rfl) rfl #[.slice A x.length c, .int .i64 a, .string s] (by rfl) rfl rfl (by (try simp only [List.map_toArray, List.map_cons, List.map_nil]); first | done | rfl) ?_
  refine (putS_calls A x.length c a (x.map Value.string) s _ (fun ad' e j u hu => pw_cell_below HB3.out (HS.out.1 ad' e j u hu)) (List.length_map _) HS.out.2 (str_one x) hax hxl).mono ?_
  rintro e w4 ⟨v4, rfl, ho4, hb4⟩
  refine ⟨_, rfl, ?_⟩
  have HB4 := Aside0.mk (HB3.out.trans (hb4.mono HB3.out.size))
  have HO4 := Aside0.mk (own_weaken ho4 HB3.out.size)
  clear ho4 hb4
  refine hK.out _ _ ⟨pw_cell_below HB4.out HH.out.1, pw_cell_below HB4.out HH.out.2.1, pw_cell_below HB4.out HH.out.2.2⟩ (fun hHeld => ?_)
  clear hK K
  refine norm_ (a' := ?_) ?_ ?_
  rotate_left
  · show Act.put _ (some 13) _ = _
    simp only [Act.put, List.setIfInBounds_toArray, List.set_cons_zero, List.set_cons_succ]
    rfl
  refine pure_ (i := 7) (N := some 6) (v := ?_) (a' := ?_) #[true, true, true, true, true, true, true, true] rfl rfl (by kernel_rfl) (fun _ _ _ h => h) (Or.inl ⟨by rfl, ?_⟩) ?_ ?_
  rotate_left
  · intro w'
    go_simp
    with_reducible rfl
  rotate_left
  · simp only [Act.put, List.setIfInBounds_toArray, List.set_cons_zero, List.set_cons_succ]
    rfl
  refine done_ (by kernel_rfl) ?_
  clear hHeld
  go_wp2
  go_ret
  refine ⟨_, rfl, R_of_own (n := x.length + 1) (by rw [putL_map, ← HSD.out]; exact HO4.out), HB4.out⟩
/-- Some columns of a row. -/
def projL (cols : List Int) (l : List ByteArray) : List ByteArray := cols.map fun c => l.getD c.toNat ByteArray.empty
theorem projL_snoc (cols : List Int) (l : List ByteArray) (i : Nat) (c : Int) (h : cols[i]? = some c) : projL (cols.take (i + 1)) l = projL (cols.take i) l ++ [l.getD c.toNat ByteArray.empty] := by
  obtain ⟨hi, rfl⟩ := List.getElem?_eq_some_iff.1 h
  unfold projL
  rw [List.take_succ_eq_append_getElem hi, List.map_append]
  rfl
theorem projL_length (cols : List Int) (l : List ByteArray) : (projL cols l).length = cols.length := by unfold projL; simp
theorem intAtA {w : World} {A : Option Addr} {l : List Int} (h : Kd.C (Kd.int .i64) w A l.length l) {k : Nat} {x : Int} (hx : l[k]? = some x) : ∃ ad, A = some ad ∧ w.cell? (ad.add k) = some (.int .i64 x) := by
  have hlt := (List.getElem?_eq_some_iff.1 hx).1
  obtain ⟨ad, e, hc⟩ := h.2.2 (by omega)
  obtain ⟨cs, hl, hK, hu⟩ := hc k x hx
  have hK' : cs = [Value.int .i64 x] := hK
  subst hK'
  have := hu 0 _ rfl
  have e2 : k * (Kd.int .i64).sz + 0 = k := by show k * 1 + 0 = k; omega
  rw [e2] at this
  exact ⟨ad, e, this⟩
set_option maxRecDepth 100000 in
set_option maxHeartbeats 4000000 in
theorem how45 (w : World) (gc m : Nat) (Ac : Option Addr) (cc : Nat) (cols : List Int) (hs : w.heap[gc]? = some (.cells #[.slice Ac cols.length cc] 26 (0, 0))) (hcr : Kd.C (Kd.int .i64) w Ac cols.length cols) (hcl : cols.length ≤ 1000000) (hin : ∀ c ∈ cols, 0 ≤ c ∧ c < (m : Int)) (hl : m ≤ 1000000) : HowL 45 #[.pointer (some ⟨gc, 0, none⟩)] w (fun l => projL cols l) (fun x => x.length = m) := by
  intro W A c x hW hx hc hC
  show Calls Try.prog 45 #[.slice A x.length c, .pointer (some ⟨gc, 0, none⟩)] W _
  obtain ⟨i0, hi, hz0, hz1, hz2⟩ := info_parts info9
  have hgc := blk_cell ((hW.block _ (lt_of_block hs)).trans hs) 0
  have HC := Aside0.mk (Kd.C_below hcr hW)
  have HX := Aside0.mk hC
  have HIN : Aside0 (∀ c ∈ cols, 0 ≤ c ∧ c < (x.length : Int)) := ⟨by rw [show x.length = m from hx]; exact hin⟩
  obtain ⟨n, hn⟩ : ∃ n, n = cols.length := ⟨_, rfl⟩
  have HN := Aside0.mk hn
  have hn1 : n ≤ 1000000 := by omega
  rw [← hn] at hgc
  clear hs hcr hC hn hcl hin hW hx hl
  go_enter Try.func45, Try.ntmps45
  go_wp2
  go_loopw [9, 4] (fun vi v4 wr => ∃ i : Nat, vi = .int .i64 i ∧ i ≤ n ∧ Aside0 (wr.ownsRow W.heap.size 9 1 v4 i ((projL (cols.take i) x).map Value.string)) ∧ Aside0 (Below W.heap.size W wr))
    (fun vi _ _ => n - (intOf vi).toNat)
  case atStart => exact ⟨0, rfl, Nat.zero_le _, ⟨⟨rfl, .inl ⟨rfl, rfl⟩⟩⟩, ⟨Below.refl _ _⟩⟩
  case round =>
    obtain ⟨i, rfl, hiN, HO, HB⟩ := hrel
    by_cases hlt : i < n
    · obtain ⟨q, hq⟩ : ∃ q, cols[i]? = some q := ⟨_, List.getElem?_eq_getElem (by rw [← HN.out]; exact hlt)⟩
      obtain ⟨adc, e, hqc⟩ := intAtA (Kd.C_below HC.out HB.out) hq
      subst e
      have hq2 := HIN.out q (List.mem_of_getElem? hq)
      obtain ⟨t, rfl⟩ : ∃ t : Nat, q = (t : Int) := ⟨q.toNat, by omega⟩
      have ht : t < x.length := by omega
      obtain ⟨adx, e, hxc⟩ := strAtA (Kd.C_below HX.out HB.out) ht
      subst e
      have HPS := Aside0.mk (projL_snoc cols x i _ hq)
      have hP0 : rdOf ByteArray.empty x (t : Int) = x.getD ((t : Int)).toNat ByteArray.empty := rfl
      rw [← hP0] at HPS
      obtain ⟨s, hs⟩ : ∃ s, s = rdOf ByteArray.empty x (t : Int) := ⟨_, rfl⟩
      rw [← hs] at HPS hxc
      have hiI : (i : Int) < (n : Int) := by omega
      have hi0 : (0 : Int) ≤ (i : Int) := by omega
      have htI : (t : Int) < (x.length : Int) := by omega
      have hml : i + 1 ≤ maxLen := by unfold maxLen; omega
      have hml2 : (i + 1) * 16 ≤ 140737488355328 := by omega
      have HO2 := Aside0.mk (own_move HO.out (fun k hk => (below_alloc (Below.refl _ wr) (.cells #[.string s] 9)).block _ (own_lt HO.out k hk)))
      have HB2 := Aside0.mk (HB.out.alloc HB.out.size (.cells #[.string s] 9))
      have HNW : Aside0 (∀ j u, [Value.string s][j]? = some u → (wr.alloc (.cells #[.string s] 9)).cell? ((⟨wr.heap.size, 0, none⟩ : Addr).add j) = some u) := ⟨fun j u hu => by
        rw [add_plain, blk_cell (blk_new wr _) j, ← Array.getElem?_toList]
        exact hu⟩
      clear hq hP0 hs hq2 HO HB
      go_wp2_with (first
        | (at_builtin; refine wpList_append_own _ rfl _ _ 22 rfl W.heap.size 9 i0 _ 1 16 Try.underlying22 hi hz0 hz1 hz2 rfl (by decide) _ _ _ rfl HO2.out ⟨wr.heap.size, 0, none⟩ 1 1 [.string s] rfl rfl HNW.out (str_one [s]) hml hml2 HB2.out.size ?_; intro v' w1 hown' hgrow _))
      have HO3 : Aside0 (w1.ownsRow W.heap.size 9 1 v' (i + 1) ((projL (cols.take (i + 1)) x).map Value.string)) := ⟨by rw [HPS.out, List.map_append]; exact hown'⟩
      have HB3 := Aside0.mk (below_own_grown HO2.out HB2.out.size HB2.out hgrow)
      clear hown' hgrow
      go_wp2
      go_roundw
      case rel => exact ⟨i + 1, by go_num, by omega, HO3, HB3⟩
      case measure => simp [intOf]; omega
    · obtain rfl : i = n := by omega
      have HO3 : Aside0 (wr.ownsRow W.heap.size 9 1 u4 i ((projL cols x).map Value.string)) := ⟨by have h := HO.out; rwa [List.take_of_length_le (by rw [HN.out]; exact Nat.le_refl _)] at h⟩
      clear HO
      go_wp2
      go_ret
      exact ⟨_, rfl, R_of_own HO3.out, HB.out⟩
end Go.Proofs.Ytaolakknkhggnaa.X
end
section
namespace Go.Proofs.Ytaolakknkhggnaa.X
open Go.RowKit Go.Maps Go.Shelf Go.Proofs.YtaolakknkhggnaaW.PrintWords Go.Proofs.YtaolakknkhggnaaW.PrintLast
set_option linter.unusedVariables false
set_option linter.unusedSimpArgs false
theorem enters66 : Enters 66 := fun args W => enters_ Try.func66 (by kernel_rfl) rfl args W
theorem enters62 : Enters 62 := fun args W => enters_ Try.func62 (by kernel_rfl) rfl args W
theorem enters50 : Enters 50 := fun args W => enters_ Try.func50 (by kernel_rfl) rfl args W
theorem enters40 : Enters 40 := fun args W => enters_ Try.func40 (by kernel_rfl) rfl args W
theorem howR_end {W W1 W' : World} {base n' : Nat} {ok okr : Nat → Prop} {rows' : List (List ByteArray)} {cs' : List Value} {v' : Value} (hW1 : Below W.heap.size W W1) (hbase : base ≤ W.heap.size) (hr : Rw W1 base okr rows' cs') (hor : ∀ k, okr k → (ok k ∨ W.heap.size ≤ k) ∧ k < W1.heap.size) (ho : W'.ownsRow W1.heap.size 22 1 v' n' cs') (hb : Below W1.heap.size W1 W') :
    Kd.S (Kd.slice 9 Kd.string) 22 W' base (fun k => ok k ∨ W.heap.size ≤ k) v' rows' ∧ Below base W W' ∧ ∀ k, k < W.heap.size → ¬ ok k → W'.heap[k]? = W.heap[k]? := by
  have hs := hW1.size
  have hb2 : Below W.heap.size W W' := hW1.trans (hb.mono hs)
  refine ⟨cells_S (own_weaken ho (Nat.le_trans hbase hs)) (fun k hk => .inr (Nat.le_trans hs (own_base ho k hk))) ((hr.below hb).weak (fun k hk => ⟨(hor k hk).1, fun e => ?_⟩)), hb2.mono hbase, fun k hk _ => hb2.block k hk⟩
  have := own_base ho k e.symm
  have := (hor k hk).2
  omega
theorem cs_len {W : World} {base n : Nat} {e : TypeId} {v : Value} {cs : List Value} (ho : W.ownsRow base e 1 v n cs) : cs.length = n := by have := ho.1; omega
set_option maxRecDepth 100000 in
set_option maxHeartbeats 1600000 in
theorem how66 (w : World) (ga a : Nat) (rows : List (List ByteArray)) (hg : w.heap[ga]? = some (.cells #[.int .i64 a] 3 (0, 0))) (hm : a < rows.length) (hl : rows.length ≤ 1000000) : HowR 66 #[.pointer (some ⟨ga, 0, none⟩)] w rows (dropL rows a) := by
  intro W A c base ok hW hwb hbase hok hS
  show Calls Try.prog 66 #[.slice A rows.length c, .pointer (some ⟨ga, 0, none⟩)] W _
  obtain ⟨cs, ho, hown, hrw⟩ := S_cells hS
  obtain ⟨A', c', e, h0, hsrc⟩ := own_slice ho
  cases e
  have hga := blk_cell ((hW.block _ (lt_of_block hg)).trans hg) 0
  have HC := Aside0.mk (dropR_calls A rows.length c a cs W hsrc (cs_len ho) h0 hrw.one hm hl)
  have HF := Aside0.mk (fun (W' : World) (v' : Value) (ho' : W'.ownsRow W.heap.size 22 1 v' (rows.length - 1) (dropL cs a)) (hb : Below W.heap.size W W') => howR_end (ok := ok) (Below.refl _ W) hbase (hrw.drop hm) (fun k hk => ⟨.inl hk.1, hok k hk.1⟩) ho' hb)
  clear hg hW hS ho hown hrw hsrc h0 hok hm hl
  go_enter Try.func66, Try.ntmps66
  go_wp2_with (go_at_call 67; refine HC.out.mono ?_; rintro e w1 ⟨v, rfl, ho, hb⟩; have HG := Aside0.mk (HF.out w1 v ho hb); clear ho hb)
  go_ret
  exact ⟨_, rfl, HG.out⟩
set_option maxRecDepth 100000 in
set_option maxHeartbeats 1600000 in
theorem how50 (w : World) (ga gb a b : Nat) (rows : List (List ByteArray)) (hg : w.heap[ga]? = some (.cells #[.int .i64 a] 3 (0, 0))) (hgb : w.heap[gb]? = some (.cells #[.int .i64 b] 3 (0, 0))) (hm : a < rows.length) (hm2 : b < rows.length) (hl : rows.length ≤ 1000000) : HowR 50 #[.pointer (some ⟨ga, 0, none⟩), .pointer (some ⟨gb, 0, none⟩)] w rows (putL (dropL rows a) b (rows.getD a [])) := by
  intro W A c base ok hW hwb hbase hok hS
  show Calls Try.prog 50 #[.slice A rows.length c, .pointer (some ⟨ga, 0, none⟩), .pointer (some ⟨gb, 0, none⟩)] W _
  obtain ⟨cs, ho, hown, hrw⟩ := S_cells hS
  obtain ⟨A', c', e, h0, hsrc⟩ := own_slice ho
  cases e
  have hga := blk_cell ((hW.block _ (lt_of_block hg)).trans hg) 0
  have hgb2 := blk_cell ((hW.block _ (lt_of_block hgb)).trans hgb) 0
  have hx : rows[a]? = some (rows.getD a []) := by rw [List.getD_eq_getElem?_getD, List.getElem?_eq_getElem hm]; rfl
  obtain ⟨okj, _, _, _, h4⟩ := id hrw
  obtain ⟨u, hu, hR⟩ := h4 a _ hx
  obtain ⟨Au, cu, rfl⟩ := Kd.R_slice hR
  have HC := Aside0.mk (moveR_calls A rows.length c a b cs Au _ cu W hsrc (cs_len ho) h0 hrw.one hm hm2 hu hl)
  have HF := Aside0.mk (fun (W' : World) (v' : Value) (ho' : W'.ownsRow W.heap.size 22 1 v' (rows.length - 1 + 1) (putL (dropL cs a) b (.slice Au (rows.getD a []).length cu))) (hb : Below W.heap.size W W') => howR_end (ok := ok) (Below.refl _ W) hbase (hrw.shift hm hm2 hx hu) (fun k hk => ⟨.inl hk.1, hok k hk.1⟩) ho' hb)
  clear hg hgb hW hS ho hown hrw hsrc h0 hok hm hm2 hl hx hu hR h4
  go_enter Try.func50, Try.ntmps50
  go_wp2_with (go_at_call 51; refine HC.out.mono ?_; rintro e w1 ⟨v, rfl, ho, hb⟩; have HG := Aside0.mk (HF.out w1 v ho hb); clear ho hb)
  go_ret
  exact ⟨_, rfl, HG.out⟩
set_option maxRecDepth 100000 in
set_option maxHeartbeats 4000000 in
theorem how62 (w : World) (ga gc a : Nat) (Ac : Option Addr) (cc : Nat) (cells : List ByteArray) (rows : List (List ByteArray)) (hg : w.heap[ga]? = some (.cells #[.int .i64 a] 3 (0, 0))) (hgc : w.heap[gc]? = some (.cells #[.slice Ac cells.length cc] 22 (0, 0))) (hcr : Kd.C Kd.string w Ac cells.length cells) (hcc : cells.length ≤ cc) (hcl : cells.length ≤ 1000000) (hm : a ≤ rows.length) (hl : rows.length ≤ 1000000) : HowR 62 #[.pointer (some ⟨ga, 0, none⟩), .pointer (some ⟨gc, 0, none⟩)] w rows (putL rows a cells) := by
  intro W A c base ok hW hwb hbase hok hS
  show Calls Try.prog 62 #[.slice A rows.length c, .pointer (some ⟨ga, 0, none⟩), .pointer (some ⟨gc, 0, none⟩)] W _
  obtain ⟨cs, ho, hown, hrw⟩ := S_cells hS
  obtain ⟨A', c', e, h0, hsrc⟩ := own_slice ho
  cases e
  have HH : Aside0 (W.cell? ⟨ga, 0, none⟩ = some (.int .i64 a) ∧ W.cell? ⟨gc, 0, none⟩ = some (.slice Ac cells.length cc)) := ⟨(blk_cell ((hW.block _ (lt_of_block hg)).trans hg) 0).trans rfl, (blk_cell ((hW.block _ (lt_of_block hgc)).trans hgc) 0).trans rfl⟩
  have HC := Aside0.mk (Kd.C_below hcr hW)
  have HS : Aside0 ((A = none → rows.length = 0) ∧ ∀ ad, A = some ad → ∀ j u, cs[j]? = some u → W.cell? (ad.add j) = some u) := ⟨h0, hsrc⟩
  have HL := Aside0.mk (cs_len ho)
  have HR := Aside0.mk hrw
  have HOK := Aside0.mk hok
  have hax := hm
  have hxl := hl
  clear hg hgc hW hS ho hown hrw hsrc h0 hok hm hl hcr
  go_enter Try.func62, Try.ntmps62
  go_wp2_with fail
  refine start_ (n := 6) (S := fun w' => w'.cell? ⟨ga, 0, none⟩ = some (.int .i64 a) ∧ w'.cell? ⟨gc, 0, none⟩ = some (.slice Ac cells.length cc)) (ds := []) #[false, false, false, false, false, false] (by kernel_rfl) rfl rfl HH.out (fun hHeld => ?_)
  generalize hW3 : W.drew = W3 at hHeld ⊢
  have HB3 : Aside0 (Below W.heap.size W W3) := ⟨by rw [← hW3]; exact below_drew (Below.refl _ _)⟩
  clear hW3
  refine pure_ (i := 0) (N := some 5) (v := ?_) (a' := ?_) #[true, false, false, false, false, false] rfl rfl (by kernel_rfl) (fun _ _ _ h => h) (Or.inl ⟨by rfl, ?_⟩) ?_ ?_
  rotate_left
  · intro w'
    go_simp
    with_reducible rfl
  rotate_left
  · simp only [Act.put, List.setIfInBounds_toArray, List.set_cons_zero, List.set_cons_succ]
    rfl
  refine take_ (i := 1) (N := some 6) (v := ?_) (a' := ?_) #[true, true, false, false, false, false] rfl rfl (by kernel_rfl) (fun _ _ _ h => h) (Or.inl ⟨by rfl, ?_⟩) hHeld ?_ ?_
  rotate_left
  · rintro w' ⟨hx0, hx1⟩
    go_simp
    with_reducible rfl
  rotate_left
  · simp only [Act.put, List.setIfInBounds_toArray, List.set_cons_zero, List.set_cons_succ]
    rfl
  refine take_ (i := 2) (N := some 7) (v := ?_) (a' := ?_) #[true, true, true, false, false, false] rfl rfl (by kernel_rfl) (fun _ _ _ h => h) (Or.inl ⟨by rfl, ?_⟩) hHeld ?_ ?_
  rotate_left
  · rintro w' ⟨hx0, hx1⟩
    go_simp
    with_reducible rfl
  rotate_left
  · simp only [Act.put, List.setIfInBounds_toArray, List.set_cons_zero, List.set_cons_succ]
    rfl
  refine one_ (i := 3) (N := some 8) #[true, true, true, true, false, false] rfl rfl (by kernel_rfl) (by decide) (fun K hK => ?_)
  refine goes_ Try.func64 (by kernel_rfl) rfl #[.slice Ac cells.length cc] (by rfl) rfl rfl (by (try simp only [List.map_toArray, List.map_cons, List.map_nil]); first | done | rfl) ?_
  refine (clone_calls Ac cc cells _ (Kd.C_below HC.out HB3.out) hcc hcl).mono ?_
  rintro e w4 ⟨u, rfl, hu, hb4⟩
  obtain ⟨Au, cu, rfl, hcu, hCu⟩ := Kd.R_reads hu
  refine ⟨_, rfl, ?_⟩
  have HB4 := Aside0.mk (HB3.out.trans (hb4.mono HB3.out.size))
  have HU := Aside0.mk (Kd.R_lower (Kd.R_mono (Kd.R_bound hu) (fun k hk => (⟨Nat.le_trans HB3.out.size hk.2.1, hk.2.2.1⟩ : W.heap.size ≤ k ∧ k < w4.heap.size))) HB3.out.size)
  clear hu hb4 hCu
  refine hK.out _ _ ⟨pw_cell_below HB4.out HH.out.1, pw_cell_below HB4.out HH.out.2⟩ (fun hHeld => ?_)
  clear hK K
  refine norm_ (a' := ?_) ?_ ?_
  rotate_left
  · show Act.put _ (some 8) _ = _
    simp only [Act.put, List.setIfInBounds_toArray, List.set_cons_zero, List.set_cons_succ]
    rfl
  refine one_ (i := 4) (N := some 9) #[true, true, true, true, true, false] rfl rfl (by kernel_rfl) (by decide) (fun K hK => ?_)
  refine goes_ Try.func63 (by kernel_rfl) rfl #[.slice A rows.length c, .int .i64 a, .slice Au cells.length cu] (by rfl) rfl rfl (by (try simp only [List.map_toArray, List.map_cons, List.map_nil]); first | done | rfl) ?_
  refine (putR_calls A rows.length c a cs Au cells.length cu _ (fun ad' e j u hu => pw_cell_below HB4.out (HS.out.2 ad' e j u hu)) HL.out HS.out.1 HR.out.one hax hxl).mono ?_
  rintro e w5 ⟨v5, rfl, ho5, hb5⟩
  refine ⟨_, rfl, ?_⟩
  have HB5 := Aside0.mk hb5
  have HO5 := Aside0.mk ho5
  clear ho5 hb5
  refine hK.out _ _ ⟨pw_cell_below HB5.out hHeld.1, pw_cell_below HB5.out hHeld.2⟩ (fun hHeld => ?_)
  clear hK K
  refine norm_ (a' := ?_) ?_ ?_
  rotate_left
  · show Act.put _ (some 9) _ = _
    simp only [Act.put, List.setIfInBounds_toArray, List.set_cons_zero, List.set_cons_succ]
    rfl
  refine pure_ (i := 5) (N := some 4) (v := ?_) (a' := ?_) #[true, true, true, true, true, true] rfl rfl (by kernel_rfl) (fun _ _ _ h => h) (Or.inl ⟨by rfl, ?_⟩) ?_ ?_
  rotate_left
  · intro w'
    go_simp
    with_reducible rfl
  rotate_left
  · simp only [Act.put, List.setIfInBounds_toArray, List.set_cons_zero, List.set_cons_succ]
    rfl
  refine done_ (by kernel_rfl) ?_
  clear hHeld
  have HP := Aside0.mk ((HR.out.below HB4.out).put (Kd.R_lower HU.out hbase) (fun k hk h => Nat.lt_irrefl _ (Nat.lt_of_lt_of_le (HOK.out k h.1) hk.1)) hax)
  have HG := Aside0.mk (howR_end (ok := ok) HB4.out hbase HP.out (fun k hk => by
    rcases hk with hk | hk
    · exact ⟨.inl hk.1, Nat.lt_of_lt_of_le (HOK.out k hk.1) HB4.out.size⟩
    · exact ⟨.inr hk.1, hk.2⟩) HO5.out HB5.out)
  go_wp2
  go_ret
  exact ⟨_, rfl, HG.out⟩
set_option maxRecDepth 100000 in
set_option maxHeartbeats 4000000 in
theorem how40 (w : World) (gr gc gs a b : Nat) (s : ByteArray) (rows : List (List ByteArray)) (x : List ByteArray) (hg : w.heap[gr]? = some (.cells #[.int .i64 a] 3 (0, 0))) (hgc : w.heap[gc]? = some (.cells #[.int .i64 b] 3 (0, 0))) (hgs : w.heap[gs]? = some (.cells #[.string s] 9 (0, 0))) (hx : rows[a]? = some x) (hb : b < x.length) : HowR 40 #[.pointer (some ⟨gs, 0, none⟩), .pointer (some ⟨gr, 0, none⟩), .pointer (some ⟨gc, 0, none⟩)] w rows (rows.set a (x.set b s)) := by
  intro W A c base ok hW hwb hbase hok hS
  show Calls Try.prog 40 #[.slice A rows.length c, .pointer (some ⟨gs, 0, none⟩), .pointer (some ⟨gr, 0, none⟩), .pointer (some ⟨gc, 0, none⟩)] W _
  have ha : a < rows.length := (List.getElem?_eq_some_iff.1 hx).1
  obtain ⟨cs, ho, hown, hrw⟩ := S_cells hS
  obtain ⟨A', c', e, h0, hsrc⟩ := own_slice ho
  cases e
  obtain ⟨ad, rfl⟩ : ∃ ad, A = some ad := by
    rcases A with _ | ad
    · have := h0 rfl; omega
    · exact ⟨ad, rfl⟩
  obtain ⟨okj, o1, o2, o3, o4⟩ := id hrw
  obtain ⟨u, hu, hR⟩ := o4 a x hx
  obtain ⟨hox, _⟩ := own_of_R hR
  rcases hox.2 with ⟨_, h00⟩ | ⟨g, cu, cur, rfl, hgb, hgh, hgc2, hgm, hgs2, hgt⟩
  · omega
  have HH : Aside0 (W.drew.cell? ⟨gr, 0, none⟩ = some (.int .i64 a) ∧ W.drew.cell? ⟨gc, 0, none⟩ = some (.int .i64 b) ∧ W.drew.cell? ⟨gs, 0, none⟩ = some (.string s) ∧ W.drew.cell? (ad.add a) = some (.slice (some ⟨g, 0, none⟩) x.length cu)) :=
    ⟨(blk_cell ((hW.block _ (lt_of_block hg)).trans hg) 0).trans rfl, (blk_cell ((hW.block _ (lt_of_block hgc)).trans hgc) 0).trans rfl, (blk_cell ((hW.block _ (lt_of_block hgs)).trans hgs) 0).trans rfl, hsrc ad rfl a _ hu⟩
  obtain ⟨hset, hokg⟩ := hrw.set hx hu b s
  have hlt : b < cur.size := by omega
  obtain ⟨sb, hsb⟩ : ∃ sb, W.cell? ⟨g, b, none⟩ = some (.string sb) := by
    have h1 : (x.map Value.string)[b]? = some (Value.string (x[b]'hb)) := by rw [List.getElem?_map, List.getElem?_eq_getElem hb]; rfl
    rw [← hgt, List.getElem?_take] at h1
    split at h1
    · exact ⟨_, (blk_cell hgh b).trans (by rw [← Array.getElem?_toList]; exact h1)⟩
    · cases h1
  have HGB : Aside0 (W.drew.cell? ⟨g, b, none⟩ = some (.string sb)) := ⟨hsb⟩
  have HGF : Aside0 (W.drew.frozen? ⟨g, b, none⟩ = false) := ⟨blk_frozen hgh b⟩
  have hne : some g ≠ (Value.slice (some ad) rows.length c).ownBlock := hokg.2
  have HF : Aside0 (∀ W', W' = W.drew.setCell ⟨g, b, none⟩ (.string s) → Kd.S (Kd.slice 9 Kd.string) 22 W' base (fun k => ok k ∨ W.heap.size ≤ k) (.slice (some ad) rows.length c) (rows.set a (x.set b s)) ∧ Below base W W' ∧ ∀ k, k < W.heap.size → ¬ ok k → W'.heap[k]? = W.heap[k]?) := ⟨fun W' e => by
    subst e
    refine ⟨?_, ?_, fun k hk hnk => ?_⟩
    · refine Kd.S_mono (cells_S (n := rows.length) (own_move ho (fun k hk => Below.heap_setCell W.drew ⟨g, b, none⟩ (.string s) k (fun e => hne (by rw [← show k = g from e]; exact hk.symm)))) hown (hset.move (w' := W.drew.setCell ⟨g, b, none⟩ (.string s)) (fun _ _ _ => rfl))) (fun k hk => .inl hk)
    · exact (below_drew (Below.refl base W)).setCell hgb _
    · exact Below.heap_setCell W.drew ⟨g, b, none⟩ (.string s) k (fun e => hnk (by rw [show k = g from e]; exact hokg.1))⟩
  have haI : 0 ≤ (a : Int) ∧ (a : Int) < (rows.length : Int) := by omega
  have hbI : 0 ≤ (b : Int) ∧ (b : Int) < (x.length : Int) := by omega
  clear hg hgc hgs hW hS ho hown hrw hsrc h0 hok hx hb ha o1 o2 o3 o4 hR hox hgb hgh hgc2 hgm hgs2 hgt hset hokg hlt hsb hne hu
  go_enter Try.func40, Try.ntmps40
  go_wp2_with fail
  refine start_ (n := 8) (S := fun w' => w'.cell? ⟨gr, 0, none⟩ = some (.int .i64 a) ∧ w'.cell? ⟨gc, 0, none⟩ = some (.int .i64 b) ∧ w'.cell? ⟨gs, 0, none⟩ = some (.string s) ∧ w'.cell? (ad.add a) = some (.slice (some ⟨g, 0, none⟩) x.length cu)) (ds := [7]) #[false, false, false, false, false, false, false, false] (by kernel_rfl) rfl rfl HH.out (fun hHeld => ?_)
  generalize hW3 : W.drew = W3 at hHeld ⊢
  have HW3 := Aside0.mk hW3
  have hgb : W3.cell? ⟨g, b, none⟩ = some (.string sb) := by rw [← hW3]; exact HGB.out
  have hgf : W3.frozen? ⟨g, b, none⟩ = false := by rw [← hW3]; exact HGF.out
  clear hW3
  refine pure_ (i := 0) (N := some 6) (v := ?_) (a' := ?_) #[true, false, false, false, false, false, false, false] rfl rfl (by kernel_rfl) (fun _ _ _ h => h) (Or.inl ⟨by rfl, ?_⟩) ?_ ?_
  rotate_left
  · intro w'
    go_simp
    with_reducible rfl
  rotate_left
  · simp only [Act.put, List.setIfInBounds_toArray, List.set_cons_zero, List.set_cons_succ]
    rfl
  refine take_ (i := 1) (N := some 7) (v := ?_) (a' := ?_) #[true, true, false, false, false, false, false, false] rfl rfl (by kernel_rfl) (fun _ _ _ h => h) (Or.inl ⟨by rfl, ?_⟩) hHeld ?_ ?_
  rotate_left
  · rintro w' ⟨hx0, hx1, hx2, hx3⟩
    go_simp
    with_reducible rfl
  rotate_left
  · simp only [Act.put, List.setIfInBounds_toArray, List.set_cons_zero, List.set_cons_succ]
    rfl
  refine pure_ (i := 2) (N := some 8) (v := ?_) (a' := ?_) #[true, true, true, false, false, false, false, false] rfl rfl (by kernel_rfl) (fun _ _ _ h => h) (Or.inl ⟨by rfl, ?_⟩) ?_ ?_
  rotate_left
  · intro w'
    go_simp
    with_reducible rfl
  rotate_left
  · simp only [Act.put, List.setIfInBounds_toArray, List.set_cons_zero, List.set_cons_succ]
    rfl
  refine take_ (i := 3) (N := some 9) (v := ?_) (a' := ?_) #[true, true, true, true, false, false, false, false] rfl rfl (by kernel_rfl) (fun _ _ _ h => h) (Or.inl ⟨by rfl, ?_⟩) hHeld ?_ ?_
  rotate_left
  · rintro w' ⟨hx0, hx1, hx2, hx3⟩
    go_simp
    with_reducible rfl
  rotate_left
  · simp only [Act.put, List.setIfInBounds_toArray, List.set_cons_zero, List.set_cons_succ]
    rfl
  refine take_ (i := 4) (N := some 10) (v := ?_) (a' := ?_) #[true, true, true, true, true, false, false, false] rfl rfl (by kernel_rfl) (fun _ _ _ h => h) (Or.inl ⟨by rfl, ?_⟩) hHeld ?_ ?_
  rotate_left
  · rintro w' ⟨hx0, hx1, hx2, hx3⟩
    go_simp
    with_reducible rfl
  rotate_left
  · simp only [Act.put, List.setIfInBounds_toArray, List.set_cons_zero, List.set_cons_succ]
    rfl
  refine take_ (i := 5) (N := some 11) (v := ?_) (a' := ?_) #[true, true, true, true, true, true, false, false] rfl rfl (by kernel_rfl) (fun _ _ _ h => h) (Or.inl ⟨by rfl, ?_⟩) hHeld ?_ ?_
  rotate_left
  · rintro w' ⟨hx0, hx1, hx2, hx3⟩
    go_simp
    with_reducible rfl
  rotate_left
  · simp only [Act.put, List.setIfInBounds_toArray, List.set_cons_zero, List.set_cons_succ]
    rfl
  refine pure_ (i := 6) (N := some 12) (v := ?_) (a' := ?_) #[true, true, true, true, true, true, true, false] rfl rfl (by kernel_rfl) (fun _ _ _ h => h) (Or.inl ⟨by rfl, ?_⟩) ?_ ?_
  rotate_left
  · intro w'
    go_simp
    with_reducible rfl
  rotate_left
  · simp only [Act.put, List.setIfInBounds_toArray, List.set_cons_zero, List.set_cons_succ]
    rfl
  refine last_ (i := 7) (N := none) #[true, true, true, true, true, true, true, true] rfl rfl (by kernel_rfl) (by decide) (fun K hK => ?_)
  refine skip_ (w1 := W3.setCell ⟨g, b, none⟩ (.string s)) rfl rfl ?hr2 ?_
  case hr2 => first | (go_simp; done) | (go_simp; rfl)
  refine hK.out _ _ ?_
  clear hK K
  refine done_ (by kernel_rfl) ?_
  clear hHeld
  have HG := Aside0.mk (HF.out _ (by rw [HW3.out]))
  clear HF
  go_wp2
  go_ret
  exact ⟨_, rfl, HG.out⟩
end Go.Proofs.Ytaolakknkhggnaa.X
end
section
namespace Go.Proofs.Ytaolakknkhggnaa.X
open Go.RowKit Go.Maps Go.Shelf Go.Proofs.YtaolakknkhggnaaW.PrintWords Go.Proofs.YtaolakknkhggnaaW.PrintLast
set_option linter.unusedVariables false
set_option linter.unusedSimpArgs false
def errV (x : Int) : Value := .iface 32 (.int .i64 x)
set_option maxRecDepth 100000 in
theorem need_ok (x : Int) (w : World) : Calls Try.prog 37 #[.bool true, .int .i64 x] w fun e w' => e = .returned (.tuple #[]) ∧ w' = w := by
  go_enter Try.func37, Try.ntmps37
  go_wp2
  refine bodyPost_end (results_none rfl _ _ _) rfl ?_
  exact ⟨rfl, rfl⟩
set_option maxRecDepth 100000 in
theorem need_no (x : Int) (w : World) : Calls Try.prog 37 #[.bool false, .int .i64 x] w fun e w' => e = .panicked [{ v := errV x, recovered := false }] ∧ w' = w := by
  go_enter Try.func37, Try.ntmps37
  go_wp2
  exact ⟨rfl, rfl, rfl⟩
theorem assert_err (x : Int) (w : World) : (Instr.typeAssert (.iface 32 (.int .i64 x)) 20 32 true).run Try.prog w = .ok (.tuple #[.int .i64 x, .bool true]) w := by kernel_rfl
theorem assert_nil (w : World) : (Instr.typeAssert .nilIface 20 32 true).run Try.prog w = .ok (.tuple #[.int .i64 0, .bool false]) w := by kernel_rfl
set_option maxHeartbeats 1600000 in
set_option maxRecDepth 100000 in
theorem catch_panicking (Z E : Nat) (x : Int) (c0 c1 c2 : Value) (older : List PanicEntry) (w : World) (hZ : w.heap[Z]? = some (.cells #[c0, c1] 25 (0, 0))) (hE : w.heap[E]? = some (.cells #[c2] 32 (0, 0))) (hne : Z ≠ E) :
    CallsD Try.prog 80 #[.pointer (some ⟨Z, 0, none⟩), .pointer (some ⟨E, 0, none⟩)] (.panicking ({ v := errV x, recovered := false } :: older)) w fun e u' w' =>
      e = .returned (.tuple #[]) ∧ u' = .panicking ({ v := errV x, recovered := true } :: older) ∧ w' = ((w.setCell ⟨Z, 0, none⟩ (.slice none 0 0)).setCell ⟨Z, 1, none⟩ (.slice none 0 0)).setCell ⟨E, 0, none⟩ (.int .i64 x) := by
  have hz0 := blk_cell hZ 0
  have hz1 := blk_cell hZ 1
  have hf0 := blk_frozen hZ 0
  have hf1 := blk_frozen hZ 1
  have he0 := blk_cell hE 0
  have hfe := blk_frozen hE 0
  have hne' : ¬ E = Z := fun e => hne e.symm
  refine callsD_of_wpS Try.func80 rfl fun c₀ cs hu => ?_
  simp only [Try.ntmps80, List.size_toArray, List.length_cons, List.length_nil, Nat.reduceAdd, Nat.reduceSub, Array.replicate_succ, Array.replicate_zero, List.push_toArray, List.append_toArray, List.nil_append, List.cons_append]
  apply wpS_seq
  apply wpS_region
  simp [wpOpsS, go_sem, recoverD, hu, Exit.thenS, errV, assert_err]
  apply wpS_seq
  apply wpS_region
  simp [wpOpsS, go_sem, Exit.thenS]
  refine wpS_cond (t := true) (by simp [Act.eval]) ?_
  simp only [if_true]
  apply wpS_region
  simp [wpOpsS, go_sem, hz0, hz1, hf0, hf1, he0, hfe, hne, hne', bodyPostS, results, Try.results80]
set_option maxHeartbeats 1600000 in
set_option maxRecDepth 100000 in
theorem catch_idle (Z E : Nat) (w : World) :
    CallsD Try.prog 80 #[.pointer (some ⟨Z, 0, none⟩), .pointer (some ⟨E, 0, none⟩)] .returning w fun e u' w' => e = .returned (.tuple #[]) ∧ u' = .returning ∧ w' = w := by
  refine callsD_of_wpS Try.func80 rfl fun c₀ cs hu => ?_
  simp only [Try.ntmps80, List.size_toArray, List.length_cons, List.length_nil, Nat.reduceAdd, Nat.reduceSub, Array.replicate_succ, Array.replicate_zero, List.push_toArray, List.append_toArray, List.nil_append, List.cons_append]
  apply wpS_seq
  apply wpS_region
  simp [wpOpsS, go_sem, recoverD, hu, Exit.thenS, errV, assert_nil]
  apply wpS_seq
  apply wpS_region
  simp [wpOpsS, go_sem, Exit.thenS]
  refine wpS_cond (t := false) (by simp [Act.eval]) ?_
  simp only [Bool.false_eq_true, if_false]
  refine wpS_of_wp (wp_skip ?_)
  cases c₀
  simp_all [bodyPostS, results, Try.results80]
end Go.Proofs.Ytaolakknkhggnaa.X
end
section
namespace Go.Proofs.Ytaolakknkhggnaa.X
open Go.RowKit Go.Maps Go.Shelf Go.Proofs.YtaolakknkhggnaaW.PrintWords Go.Proofs.YtaolakknkhggnaaW.PrintLast
set_option linter.unusedVariables false
set_option linter.unusedSimpArgs false
/-- A closure that turns the table: it gives up with x, or what it makes is h, r. -/
def HowT (K : FuncId) (cap : Array Value) (w : World) (x : Int) (h : List ByteArray) (r : List (List ByteArray)) : Prop :=
  ∀ W, Below w.heap.size w W → Calls Try.prog K cap W fun e W' => (x = 0 ∧ ∃ v0 v1, e = .returned (.agg #[v0, v1]) ∧ MadeT W.heap.size W' v0 v1 h r ∧ Below W.heap.size W W') ∨ (x ≠ 0 ∧ e = .panicked [{ v := errV x, recovered := false }] ∧ Below W.heap.size W W')
def madeT (hd : List ByteArray) (rows : List (List ByteArray)) (x : Int) (h : List ByteArray) (r : List (List ByteArray)) : List ByteArray × List (List ByteArray) × Int :=
  if checkT hd rows ≠ 0 then ([], [], checkT hd rows) else if x ≠ 0 then ([], [], x) else if checkT h r ≠ 0 then ([], [], checkT h r) else (h, r, 0)
/-- made's state. -/
structure MdAt (w : World) (W : World) (ev : Value) : Prop where
  z : W.heap[w.heap.size + 1]? = some (.cells #[.slice none 0 0, .slice none 0 0] 25 (0, 0))
  e : W.heap[w.heap.size + 1 + 1]? = some (.cells #[ev] 32 (0, 0))
  lo : Below w.heap.size w W
theorem MdAt.below {w W W' : World} {ev : Value} (h : MdAt w W ev) (hb : Below W.heap.size W W') : MdAt w W' ev := ⟨(hb.block _ (lt_of_block h.z)).trans h.z, (hb.block _ (lt_of_block h.e)).trans h.e, h.lo.trans (hb.mono h.lo.size)⟩
theorem MdAt.set {w W : World} {ev : Value} (h : MdAt w W ev) (u : Value) : MdAt w (W.setCell ⟨w.heap.size + 1 + 1, 0, none⟩ u) u :=
  ⟨(Below.heap_setCell _ _ _ _ (by show w.heap.size + 1 ≠ w.heap.size + 1 + 1; omega)).trans h.z, heap_setCell_same _ _ 0 _ _ _ h.e, h.lo.setCell (by show w.heap.size ≤ w.heap.size + 1 + 1; omega) _⟩
theorem md_start (w : World) (T : Value → Value → Array Value) (t0 t1 : Value) : MdAt w (((w.alloc (.cells #[t0, t1] 25)).alloc (.cells #[.slice none 0 0, .slice none 0 0] 25)).alloc (.cells #[.int .i64 0] 32)) (.int .i64 0) := by
  have h1 := blk_new (w.alloc (.cells #[t0, t1] 25)) (.cells #[.slice none 0 0, .slice none 0 0] 25)
  have h2 := blk_new ((w.alloc (.cells #[t0, t1] 25)).alloc (.cells #[.slice none 0 0, .slice none 0 0] 25)) (.cells #[.int .i64 0] 32)
  rw [World.size_alloc] at h1
  rw [World.size_alloc, World.size_alloc] at h2
  exact ⟨((below_alloc (Below.refl _ _) _).block _ (by simp)).trans h1, h2, below_alloc (below_alloc (below_alloc (Below.refl _ _) _) _) _⟩
/-- What the deferred closure leaves, behind a panic. -/
theorem md_caught {w W : World} {ev : Value} (h : MdAt w W ev) (x : Int) :
    MdAt w (((W.setCell ⟨w.heap.size + 1, 0, none⟩ (.slice none 0 0)).setCell ⟨w.heap.size + 1, 1, none⟩ (.slice none 0 0)).setCell ⟨w.heap.size + 1 + 1, 0, none⟩ (.int .i64 x)) (.int .i64 x) := by
  have hz := heap_setCell_same _ _ 1 _ _ (.slice none 0 0) (heap_setCell_same _ _ 0 _ _ (.slice none 0 0) h.z)
  refine MdAt.set (ev := ev) ⟨hz, ?_, (h.lo.setCell (by show w.heap.size ≤ w.heap.size + 1; omega) _).setCell (by show w.heap.size ≤ w.heap.size + 1; omega) _⟩ _
  exact (Below.heap_setCell _ _ _ _ (by show w.heap.size + 1 + 1 ≠ w.heap.size + 1; omega)).trans ((Below.heap_setCell _ _ _ _ (by show w.heap.size + 1 + 1 ≠ w.heap.size + 1; omega)).trans h.e)
set_option maxRecDepth 100000 in
set_option maxHeartbeats 1600000 in
/-- The door behind a panic. -/
theorem md_door_panic (w W : World) (ev : Value) (x : Int) (h : MdAt w W ev) (tmps : Array Value) (ht4 : tmps.getD 4 undef = .pointer (some ⟨w.heap.size + 1, 0, none⟩)) (ht5 : tmps.getD 5 undef = .pointer (some ⟨w.heap.size + 1 + 1, 0, none⟩)) (R : List ByteArray × List (List ByteArray) × Int) (hR : R = ([], [], x)) :
    bodyPostD Try.prog Try.f35 (fun e W' => ∃ v0 v1, e = .returned (.tuple #[.agg #[v0, v1], .int .i64 R.2.2]) ∧ MadeT w.heap.size W' v0 v1 R.1 R.2.1 ∧ Below w.heap.size w W') (Exit.panic [{ v := errV x, recovered := false }])
      { tmps := tmps, defers := [{ target := Target.fn (Fn.func 80) #[.pointer (some ⟨w.heap.size + 1, 0, none⟩), .pointer (some ⟨w.heap.size + 1 + 1, 0, none⟩)], args := #[] }] } W := by
  subst hR
  refine leaves_cons (f := 80) (args := #[.pointer (some ⟨w.heap.size + 1, 0, none⟩), .pointer (some ⟨w.heap.size + 1 + 1, 0, none⟩)]) (by simp) (by simp [go_sem]) ?_
  refine (catch_panicking _ _ x _ _ _ [] _ h.z h.e (by omega)).mono ?_
  rintro e u' w'' ⟨rfl, rfl, rfl⟩
  have h3 := md_caught h x
  generalize ((W.setCell ⟨w.heap.size + 1, 0, none⟩ (.slice none 0 0)).setCell ⟨w.heap.size + 1, 1, none⟩ (.slice none 0 0)).setCell ⟨w.heap.size + 1 + 1, 0, none⟩ (.int .i64 x) = W3 at h3
  have hc0 := blk_cell h3.z 0
  have hc1 := blk_cell h3.z 1
  have hc2 := blk_cell h3.e 0
  have hg4 : tmps[4]?.getD undef = .pointer (some ⟨w.heap.size + 1, 0, none⟩) := by rw [← ht4, Array.getD_eq_getD_getElem?]
  have hg5 : tmps[5]?.getD undef = .pointer (some ⟨w.heap.size + 1 + 1, 0, none⟩) := by rw [← ht5, Array.getD_eq_getD_getElem?]
  refine ⟨.tuple #[.agg #[.slice none 0 0, .slice none 0 0], .int .i64 x], ?_, _, _, rfl, MadeT.nil _ _, h3.lo⟩
  simp [settle, results, Try.results35, go_sem, hc0, hc1, hc2, hg4, hg5]
set_option maxRecDepth 100000 in
set_option maxHeartbeats 1600000 in
/-- The door behind a return. -/
theorem md_door_ret (w W : World) (v0 v1 : Value) (z : W.heap[w.heap.size + 1]? = some (.cells #[v0, v1] 25 (0, 0))) (e : W.heap[w.heap.size + 1 + 1]? = some (.cells #[.int .i64 0] 32 (0, 0))) (A0 A1 : Option Addr) (n0 n1 c0 c1 : Nat) (hv0 : v0 = .slice A0 n0 c0) (hv1 : v1 = .slice A1 n1 c1) (tmps : Array Value) (ht4 : tmps.getD 4 undef = .pointer (some ⟨w.heap.size + 1, 0, none⟩)) (ht5 : tmps.getD 5 undef = .pointer (some ⟨w.heap.size + 1 + 1, 0, none⟩)) (Q : Ending → World → Prop) (hQ : Q (.returned (.tuple #[.agg #[v0, v1], .int .i64 0])) W) :
    bodyPostD Try.prog Try.f35 Q Exit.ret
      { tmps := tmps, defers := [{ target := Target.fn (Fn.func 80) #[.pointer (some ⟨w.heap.size + 1, 0, none⟩), .pointer (some ⟨w.heap.size + 1 + 1, 0, none⟩)], args := #[] }] } W := by
  subst hv0
  subst hv1
  refine leaves_cons (f := 80) (args := #[.pointer (some ⟨w.heap.size + 1, 0, none⟩), .pointer (some ⟨w.heap.size + 1 + 1, 0, none⟩)]) (by simp) (by simp [go_sem]) ?_
  refine (catch_idle _ _ _).mono ?_
  rintro e' u' w'' ⟨rfl, rfl, rfl⟩
  have hc0 := blk_cell z 0
  have hc1 := blk_cell z 1
  have hc2 := blk_cell e 0
  have hg4 : tmps[4]?.getD undef = .pointer (some ⟨w.heap.size + 1, 0, none⟩) := by rw [← ht4, Array.getD_eq_getD_getElem?]
  have hg5 : tmps[5]?.getD undef = .pointer (some ⟨w.heap.size + 1 + 1, 0, none⟩) := by rw [← ht5, Array.getD_eq_getD_getElem?]
  refine ⟨.tuple #[.agg #[.slice A0 n0 c0, .slice A1 n1 c1], .int .i64 0], ?_, hQ⟩
  simp [settle, results, Try.results35, go_sem, hc0, hc1, hc2, hg4, hg5]
set_option maxRecDepth 100000 in
set_option maxHeartbeats 8000000 in
theorem made_calls (K : FuncId) (cap : Array Value) (A0 : Option Addr) (c0 : Nat) (hd : List ByteArray) (A1 : Option Addr) (c1 : Nat) (rows : List (List ByteArray)) (x : Int) (h : List ByteArray) (r : List (List ByteArray)) (w : World)
    (hr0 : Kd.C Kd.string w A0 hd.length hd) (hc0 : hd.length ≤ c0) (hr1 : Kd.C (Kd.slice 9 Kd.string) w A1 rows.length rows) (hc1 : rows.length ≤ c1) (hok : okT hd rows = true) (hok2 : checkT hd rows = 0 → x = 0 → okT h r = true) (hE : Enters K) (hK : checkT hd rows = 0 → HowT K cap w x h r) :
    Calls Try.prog 35 #[.agg #[.slice A0 hd.length c0, .slice A1 rows.length c1], .func (.func K) #[] cap] w fun e W' => ∃ v0 v1, e = .returned (.tuple #[.agg #[v0, v1], .int .i64 (madeT hd rows x h r).2.2]) ∧ MadeT w.heap.size W' v0 v1 (madeT hd rows x h r).1 (madeT hd rows x h r).2.1 ∧ Below w.heap.size w W' := by
  have hmf : ∀ (fn : Fn) (first cap : Array Value) (w : World), (Instr.makeFunc fn first cap).run Try.prog w = .ok (.func fn first cap) w := fun _ _ _ _ => rfl
  obtain ⟨R, hR⟩ : ∃ R, Aside0 (madeT hd rows x h r = R) := ⟨_, ⟨rfl⟩⟩
  rw [hR.out]
  have HS := Aside0.mk (md_start w (fun _ _ => #[]) (.slice A0 hd.length c0) (.slice A1 rows.length c1))
  have HC := Aside0.mk (check_calls A0 c0 hd A1 c1 rows _ (Kd.C_below hr0 HS.out.lo) hc0 (Kd.C_below hr1 HS.out.lo) hok)
  have hE' : ∀ (args : Array Value) (W : World), (callFunc K args).run Try.prog W = .ok (.enter K args) W := hE
  clear hr0 hr1 hok hE
  obtain ⟨q, hq⟩ : ∃ q, Aside0 (checkT hd rows = q) := ⟨_, ⟨rfl⟩⟩
  rw [hq.out] at hok2 hK HC
  by_cases hz : q = 0
  · subst hz
    by_cases hx : x = 0
    · subst hx
      have HO2 := Aside0.mk (hok2 rfl rfl)
      clear hok2
      have HKx : Aside0 (∀ W, Below w.heap.size w W → Calls Try.prog K cap W fun e W' => ∃ v0 v1, e = .returned (.agg #[v0, v1]) ∧ MadeT W.heap.size W' v0 v1 h r ∧ Below W.heap.size W W') := ⟨fun W hW => (hK rfl W hW).mono (fun e W' hh => hh.elim (fun h1 => h1.2) (fun h1 => absurd rfl h1.1))⟩
      clear hK
      obtain ⟨q2, hq2⟩ : ∃ q2, Aside0 (checkT h r = q2) := ⟨_, ⟨rfl⟩⟩
      by_cases hz2 : q2 = 0
      · subst hz2
        have HE : Aside0 (R = (h, r, 0)) := ⟨by rw [← hR.out, madeT, if_neg (by rw [hq.out]; simp), if_neg (by simp), if_neg (by rw [hq2.out]; simp)]⟩
        go_enter_defers Try.func35, Try.ntmps35
        go_wp2_with (first
          | (go_at_call 81; refine HC.out.mono ?_; rintro e w1 ⟨rfl, hb⟩; have HM1 := Aside0.mk ((HS.out.below hb).set (.int .i64 0)); have he0 := blk_cell (HS.out.below hb).e 0; have hf0 := blk_frozen (HS.out.below hb).e 0; clear HC hb HS)
          | (go_at_call 37; refine (need_ok 0 _).mono ?_; rintro e w9 ⟨rfl, rfl⟩)
          | (refine (HKx.out _ HM1.out.lo).mono ?_; rintro e w2 ⟨v0, v1, rfl, hM, hb2⟩; obtain ⟨Av, cv, rfl, hcv, hCv⟩ := Kd.R_reads hM.1; obtain ⟨Ar, cr, rfl, hcr, hCr⟩ := Kd.S_reads hM.2; have HM := Aside0.mk hM; have HM2 := Aside0.mk (HM1.out.below hb2); have HCC := Aside0.mk (check_calls Av cv h Ar cr r (w2.alloc (.cells #[.slice Av h.length cv, .slice Ar r.length cr] 25)) (Kd.C_below hCv (below_alloc (Below.refl _ _) _)) hcv (Kd.C_below hCr (below_alloc (Below.refl _ _) _)) HO2.out); clear HKx hM hb2 hCv hCr)
          | (go_at_call 81; refine HCC.out.mono ?_; rintro e w3 ⟨rfl, hb3⟩; rw [hq2.out]; have HM3 := Aside0.mk ((HM2.out.below (below_alloc (Below.refl _ _) (.cells #[.slice Av h.length cv, .slice Ar r.length cr] 25))).below hb3); have HMM := Aside0.mk ((HM.out.below (below_alloc (Below.refl _ _) (.cells #[.slice Av h.length cv, .slice Ar r.length cr] 25))).below hb3); have HT6 := Aside0.mk ((hb3.block _ (by simp)).trans (blk_new w2 (.cells #[.slice Av h.length cv, .slice Ar r.length cr] 25))); have hE0 := blk_cell HM3.out.e 0; have hF0 := blk_frozen HM3.out.e 0; have hZ0 := blk_cell HM3.out.z 0; have hZ1 := blk_cell HM3.out.z 1; have hG0 := blk_frozen HM3.out.z 0; have hG1 := blk_frozen HM3.out.z 1; have hT0 := blk_cell HT6.out 0; have hT1 := blk_cell HT6.out 1; have hn1 : ¬ w2.heap.size = w.heap.size + 1 := (by have := lt_of_block HM2.out.z; omega); have hn2 : ¬ w2.heap.size = w.heap.size + 1 + 1 := (by have := lt_of_block HM2.out.e; omega); clear hb3 HCC))
        rw [HE.out]
        have HQ := Aside0.mk (HM3.out.set (.int .i64 0))
        have hz3 := heap_setCell_same _ _ 1 _ _ (.slice Ar r.length cr) (heap_setCell_same _ _ 0 _ _ (.slice Av h.length cv) HQ.out.z)
        have hz4 := (Below.heap_setCell (((w3.setCell ⟨w.heap.size + 1 + 1, 0, none⟩ (.int .i64 0)).setCell ⟨w.heap.size + 1, 0, none⟩ (.slice Av h.length cv)).setCell ⟨w.heap.size + 1, 1, none⟩ (.slice Ar r.length cr)) ⟨w.heap.size + 1 + 1, 0, none⟩ (.int .i64 0) (w.heap.size + 1) (by show w.heap.size + 1 ≠ w.heap.size + 1 + 1; omega)).trans hz3
        have he4 := heap_setCell_same _ _ 0 _ _ (.int .i64 0) ((Below.heap_setCell _ ⟨w.heap.size + 1, 1, none⟩ (.slice Ar r.length cr) (w.heap.size + 1 + 1) (by show w.heap.size + 1 + 1 ≠ w.heap.size + 1; omega)).trans ((Below.heap_setCell _ ⟨w.heap.size + 1, 0, none⟩ (.slice Av h.length cv) (w.heap.size + 1 + 1) (by show w.heap.size + 1 + 1 ≠ w.heap.size + 1; omega)).trans HQ.out.e))
        have h1e := lt_of_block HM1.out.e
        have h1z := lt_of_block HM1.out.z
        refine md_door_ret w _ _ _ hz4 he4 Av Ar _ _ cv cr rfl rfl _ rfl rfl _ ⟨_, _, rfl, ?_, ?_⟩
        · exact ((((HMM.out.far (p := ⟨w.heap.size + 1 + 1, 0, none⟩) h1e _).far (p := ⟨w.heap.size + 1, 0, none⟩) h1z _).far (p := ⟨w.heap.size + 1, 1, none⟩) h1z _).far (p := ⟨w.heap.size + 1 + 1, 0, none⟩) h1e _).lower HM1.out.lo.size
        · exact ((HQ.out.lo.setCell (by show w.heap.size ≤ w.heap.size + 1; omega) _).setCell (by show w.heap.size ≤ w.heap.size + 1; omega) _).setCell (by show w.heap.size ≤ w.heap.size + 1 + 1; omega) _
      · have HE : Aside0 (R = ([], [], q2)) := ⟨by rw [← hR.out, madeT, if_neg (by rw [hq.out]; simp), if_neg (by simp), if_pos (by rw [hq2.out]; exact hz2), hq2.out]⟩
        have hqb : (q2 == 0) = false := beq_eq_false_iff_ne.2 hz2
        go_enter_defers Try.func35, Try.ntmps35
        go_wp2_with (first
          | (go_at_call 81; refine HC.out.mono ?_; rintro e w1 ⟨rfl, hb⟩; have HM1 := Aside0.mk ((HS.out.below hb).set (.int .i64 0)); have he0 := blk_cell (HS.out.below hb).e 0; have hf0 := blk_frozen (HS.out.below hb).e 0; clear HC hb HS)
          | (go_at_call 37; refine (need_ok 0 _).mono ?_; rintro e w9 ⟨rfl, rfl⟩)
          | (refine (HKx.out _ HM1.out.lo).mono ?_; rintro e w2 ⟨v0, v1, rfl, hM, hb2⟩; obtain ⟨Av, cv, rfl, hcv, hCv⟩ := Kd.R_reads hM.1; obtain ⟨Ar, cr, rfl, hcr, hCr⟩ := Kd.S_reads hM.2; have HM := Aside0.mk hM; have HM2 := Aside0.mk (HM1.out.below hb2); have HCC := Aside0.mk (check_calls Av cv h Ar cr r (w2.alloc (.cells #[.slice Av h.length cv, .slice Ar r.length cr] 25)) (Kd.C_below hCv (below_alloc (Below.refl _ _) _)) hcv (Kd.C_below hCr (below_alloc (Below.refl _ _) _)) HO2.out); clear HKx hM hb2 hCv hCr)
          | (go_at_call 81; refine HCC.out.mono ?_; rintro e w3 ⟨rfl, hb3⟩; rw [hq2.out]; have HM3 := Aside0.mk ((HM2.out.below (below_alloc (Below.refl _ _) (.cells #[.slice Av h.length cv, .slice Ar r.length cr] 25))).below hb3); have HMM := Aside0.mk ((HM.out.below (below_alloc (Below.refl _ _) (.cells #[.slice Av h.length cv, .slice Ar r.length cr] 25))).below hb3); have HT6 := Aside0.mk ((hb3.block _ (by simp)).trans (blk_new w2 (.cells #[.slice Av h.length cv, .slice Ar r.length cr] 25))); have hE0 := blk_cell HM3.out.e 0; have hF0 := blk_frozen HM3.out.e 0; have hZ0 := blk_cell HM3.out.z 0; have hZ1 := blk_cell HM3.out.z 1; have hG0 := blk_frozen HM3.out.z 0; have hG1 := blk_frozen HM3.out.z 1; have hT0 := blk_cell HT6.out 0; have hT1 := blk_cell HT6.out 1; have hn1 : ¬ w2.heap.size = w.heap.size + 1 := (by have := lt_of_block HM2.out.z; omega); have hn2 : ¬ w2.heap.size = w.heap.size + 1 + 1 := (by have := lt_of_block HM2.out.e; omega); clear hb3 HCC)
          | (go_at_call 37; refine (need_no q2 _).mono ?_; rintro e w10 ⟨rfl, rfl⟩))
        exact md_door_panic w _ _ q2 (HM3.out.set _) _ rfl rfl R HE.out
    · have HE : Aside0 (R = ([], [], x)) := ⟨by rw [← hR.out, madeT, if_neg (by rw [hq.out]; simp), if_pos hx]⟩
      have HKx : Aside0 (∀ W, Below w.heap.size w W → Calls Try.prog K cap W fun e W' => e = .panicked [{ v := errV x, recovered := false }] ∧ Below W.heap.size W W') := ⟨fun W hW => (hK rfl W hW).mono (fun e W' hh => hh.elim (fun h1 => absurd h1.1 hx) (fun h1 => h1.2))⟩
      clear hok2 hK
      go_enter_defers Try.func35, Try.ntmps35
      go_wp2_with (first
        | (go_at_call 81; refine HC.out.mono ?_; rintro e w1 ⟨rfl, hb⟩; have HM1 := Aside0.mk ((HS.out.below hb).set (.int .i64 0)); have he0 := blk_cell (HS.out.below hb).e 0; have hf0 := blk_frozen (HS.out.below hb).e 0; clear HC hb HS)
        | (go_at_call 37; refine (need_ok 0 _).mono ?_; rintro e w9 ⟨rfl, rfl⟩)
        | (refine (HKx.out _ HM1.out.lo).mono ?_; rintro e w2 ⟨rfl, hb2⟩; have HM2 := Aside0.mk (HM1.out.below hb2); clear hb2))
      exact md_door_panic w _ _ x HM2.out _ rfl rfl R HE.out
  · have HE : Aside0 (R = ([], [], q)) := ⟨by rw [← hR.out, madeT, if_pos (by rw [hq.out]; exact hz), hq.out]⟩
    have hqb : (q == 0) = false := beq_eq_false_iff_ne.2 hz
    clear hok2 hK
    go_enter_defers Try.func35, Try.ntmps35
    go_wp2_with (first
      | (go_at_call 81; refine HC.out.mono ?_; rintro e w1 ⟨rfl, hb⟩; have HM1 := Aside0.mk (HS.out.below hb); have he0 := blk_cell HM1.out.e 0; have hf0 := blk_frozen HM1.out.e 0; clear HC hb HS)
      | (go_at_call 37; refine (need_no q _).mono ?_; rintro e w2 ⟨rfl, rfl⟩))
    exact md_door_panic w _ _ q (HM1.out.set _) _ rfl rfl R HE.out
end Go.Proofs.Ytaolakknkhggnaa.X
end
section
namespace Go.Proofs.Ytaolakknkhggnaa.X
open Go.RowKit Go.Maps Go.Shelf Go.Proofs.YtaolakknkhggnaaW.PrintWords Go.Proofs.YtaolakknkhggnaaW.PrintLast
set_option linter.unusedVariables false
set_option linter.unusedSimpArgs false
structure TB (w : World) (gt : Nat) (A0 : Option Addr) (c0 : Nat) (hd : List ByteArray) (A1 : Option Addr) (c1 : Nat) (rows : List (List ByteArray)) : Prop where
  t : w.heap[gt]? = some (.cells #[.slice A0 hd.length c0, .slice A1 rows.length c1] 25 (0, 0))
  r0 : Kd.C Kd.string w A0 hd.length hd
  c0 : hd.length ≤ c0
  r1 : Kd.C (Kd.slice 9 Kd.string) w A1 rows.length rows
  hh : hd.length ≤ 100000
  hl : rows.length ≤ 100000
  row : ∀ x, x = hd ∨ x ∈ rows → x.length = hd.length
theorem TB.below {w w' : World} {gt : Nat} {A0 : Option Addr} {c0 : Nat} {hd : List ByteArray} {A1 : Option Addr} {c1 : Nat} {rows : List (List ByteArray)} (h : TB w gt A0 c0 hd A1 c1 rows) (hb : Below w.heap.size w w') : TB w' gt A0 c0 hd A1 c1 rows :=
  ⟨(hb.block _ (lt_of_block h.t)).trans h.t, Kd.C_below h.r0 hb, h.c0, Kd.C_below h.r1 hb, h.hh, h.hl, h.row⟩
set_option maxRecDepth 100000 in
theorem within_yes (a n : Int) (h0 : 0 ≤ a) (h1 : a < n) (w : World) : Calls Try.prog 38 #[.int .i64 a, .int .i64 n] w fun e w' => e = .returned (.bool true) ∧ w' = w := by
  go_enter Try.func38, Try.ntmps38
  go_wp2
  go_ret
  exact ⟨rfl, rfl⟩
set_option maxRecDepth 100000 in
theorem within_no (a n : Int) (h : ¬ (0 ≤ a ∧ a < n)) (w : World) : Calls Try.prog 38 #[.int .i64 a, .int .i64 n] w fun e w' => e = .returned (.bool false) ∧ w' = w := by
  by_cases h0 : 0 ≤ a
  · have h1 : ¬ a < n := fun h1 => h ⟨h0, h1⟩
    clear h
    go_enter Try.func38, Try.ntmps38
    go_wp2
    go_ret
    exact ⟨rfl, rfl⟩
  · clear h
    go_enter Try.func38, Try.ntmps38
    go_wp2
    go_ret
    exact ⟨rfl, rfl⟩
theorem z_start (W : World) (A0 A1 : Option Addr) (n0 n1 c0 c1 : Nat) (W2 : World) (hb : Below (W.alloc (.cells #[.slice none 0 0, .slice none 0 0] 25)).heap.size (W.alloc (.cells #[.slice none 0 0, .slice none 0 0] 25)) W2) :
    W2.heap[W.heap.size]? = some (.cells #[.slice none 0 0, .slice none 0 0] 25 (0, 0)) ∧ ((W2.setCell ⟨W.heap.size, 0, none⟩ (.slice A0 n0 c0)).setCell ⟨W.heap.size, 1, none⟩ (.slice A1 n1 c1)).heap[W.heap.size]? = some (.cells #[.slice A0 n0 c0, .slice A1 n1 c1] 25 (0, 0)) := by
  have h := (hb.block W.heap.size (by simp)).trans (blk_new W _)
  exact ⟨h, heap_setCell_same _ _ 1 _ _ _ (heap_setCell_same _ _ 0 _ _ _ h)⟩
theorem z_end {W W2 : World} {v0 v1 : Value} {hd : List ByteArray} {rows : List (List ByteArray)} (hM : MadeT (W.alloc (.cells #[.slice none 0 0, .slice none 0 0] 25)).heap.size W2 v0 v1 hd rows) (hb : Below (W.alloc (.cells #[.slice none 0 0, .slice none 0 0] 25)).heap.size (W.alloc (.cells #[.slice none 0 0, .slice none 0 0] 25)) W2) (x y : Value) :
    MadeT W.heap.size ((W2.setCell ⟨W.heap.size, 0, none⟩ x).setCell ⟨W.heap.size, 1, none⟩ y) v0 v1 hd rows ∧ Below W.heap.size W ((W2.setCell ⟨W.heap.size, 0, none⟩ x).setCell ⟨W.heap.size, 1, none⟩ y) := by
  have hlt : W.heap.size < (W.alloc (.cells #[.slice none 0 0, .slice none 0 0] 25)).heap.size := by simp
  have hb1 := below_alloc (Below.refl W.heap.size W) (.cells #[.slice none 0 0, .slice none 0 0] 25)
  exact ⟨((hM.far (p := ⟨W.heap.size, 0, none⟩) hlt _).far (p := ⟨W.heap.size, 1, none⟩) hlt _).lower hb1.size, ((hb1.trans (hb.mono hb1.size)).setCell (Nat.le_refl _) _).setCell (Nat.le_refl _) _⟩
/-- What is wrong with a place. -/
def xIn (a : Int) (n : Nat) : Int := if 0 ≤ a ∧ a < (n : Int) then 0 else 11
end Go.Proofs.Ytaolakknkhggnaa.X
end
