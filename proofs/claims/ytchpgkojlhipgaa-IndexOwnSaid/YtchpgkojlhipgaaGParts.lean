/- keys.all, keys.split, keys.Unique. -/
import Derived.Test.YtchpgkojlhipgaaGGroups
import Derived.Test.YtchpgkojlhipgaaPCell
import Derived.Test.YtchpgkojlhipgaaPSplit
import Derived.Test.YtchpgkojlhipgaaWLast
import Derived.Maps.AppendAt
import Derived.Laws.AppendOwnNone
import Derived.WalkKit
namespace Go.Proofs.Ytchpgkojlhipgaa.X
open Go.RowKit Go.Maps Go.Proofs.YtchpgkojlhipgaaW.PrintWords Go.Proofs.YtchpgkojlhipgaaW.PrintLast Go.Proofs.YtchpgkojlhipgaaW.PrintMore Go.Proofs.Ytchpgkojlhipgaa.GGr
set_option linter.unusedVariables false

theorem allR_snoc (n : Nat) : allR (n + 1) = allR n ++ [(n : Int)] := by unfold allR; rw [List.range_succ, List.map_append]; rfl
theorem allR_len (n : Nat) : (allR n).length = n := by unfold allR; simp
set_option maxRecDepth 100000 in
set_option maxHeartbeats 800000 in
theorem kall_calls (n : Nat) (hn : n ≤ 100000) (w : World) :
    Calls Try.prog 48 #[.int .i64 n] w fun e w' => ∃ v : Value, e = .returned v ∧ Kd.R (Kd.int .i64) 3 w' w.heap.size (fun _ => True) v (allR n) ∧ Below w.heap.size w w' := by
  go_enter Try.func48, Try.ntmps48
  go_wp2
  go_loopw [3, 6] (fun vo vi wr => ∃ t : Nat, vi = .int .i64 t ∧ t ≤ n ∧ Aside0 (Kd.R (Kd.int .i64) 3 wr w.heap.size (fun _ => True) vo (allR t)) ∧ Aside0 (Below w.heap.size w wr))
    (fun _ vi _ => n - (intOf vi).toNat)
  case atStart => exact ⟨0, rfl, Nat.zero_le _, ⟨Kd.R_nil _ _ _ _ _⟩, ⟨Below.refl _ _⟩⟩
  case round =>
    obtain ⟨t, rfl, ht, HO, HB⟩ := hrel
    by_cases hlt : t < n
    · have hltI : (t : Int) < (n : Int) := by omega
      have hsz := HB.out.size
      go_wp2_with (first | ((with_reducible refine gate_builtin (b := .append) (xs := #[.tmp 9, .tmp 11]) rfl ?_); at_builtin; refine Kd.R_append (Kd.int .i64) (w0 := w) w.heap.size rfl (.tmp 9) (.tmp 11) 42 3 (.int .i64 0) 8 rfl Try.underlying42 info3 rfl (by decide) (by omega) u3 (allR t) (t : Int) [.int .i64 t] (fun _ => True) (fun _ => False) rfl rfl ?aP (fun _ hk => hk.elim) (fun _ _ => trivial) HO.out HB.out hsz ?aL ?_; (case aP => exact rfl); (case aL => rw [allR_len]; omega); intro v1 w1 ho hb hg hat))
      go_roundw
      case rel => exact ⟨t + 1, by go_num, by omega, ⟨by rw [allR_snoc]; exact ho⟩, ⟨hb⟩⟩
      case measure => simp [intOf]; omega
    · obtain rfl : t = n := by omega
      go_wp2
      go_ret
      exact ⟨_, rfl, HO.out, HB.out⟩

abbrev KP := 86
def mkA (s : ByteArray) : Value := .agg #[.string s]
theorem mkA_inj (s s' : ByteArray) (h : mkA s = mkA s') : s = s' := by unfold mkA at h; simpa using h
theorem arrK : WideMaps.ArrKey Try.prog 86 9 1 := ⟨Try.underlying86, by kernel_rfl, by kernel_rfl, by kernel_rfl⟩
theorem lawK : WideMaps.KeyLaw Try.prog 86 := arrK.law
theorem keyK {s : ByteArray} (hs : s.size ≤ maxLen) : ∃ kl, keyOf Try.prog 86 (mkA s) = some kl :=
  keyArr arrK Try.underlying9 ⟨Try.prog.types.size - 2, by have : 2 ≤ Try.prog.types.size := of_decide_eq_true (by kernel_rfl); omega⟩ hs
theorem zeroSl (w : World) : (zeroValue 42).run Try.prog w = .ok (.slice none 0 0) w := by kernel_rfl
theorem entry_arm {P : Program} {ops : Array Oper} {rest : List Oper} {o : Oper} {a : Act} {Q : Exit → Act → World → Prop} (w : World) (hg : o.guard = none) (m x : Operand) (t : TypeId) (hop : o.op = Op.mapEntry t m x) (M X v : Value) (w2 : World) (hm : a.eval m = M) (hx : a.eval x = X)
    (hrun : (Instr.mapEntry t M X).run P w = .ok v w2) (hK : wpList P ops Q rest (a.put o.dst v) w2) : wpList P ops Q (o :: rest) a w := by
  refine wpList_plain hg fun K' hK' => ?_
  unfold Oper.wp
  simp [execOp, hop, hm, hx, hrun, Result.andThen]
  exact hK' _ _ hK
theorem estore_arm {P : Program} {ops : Array Oper} {rest : List Oper} {o : Oper} {a : Act} {Q : Exit → Act → World → Prop} (w : World) (hg : o.guard = none) (m s x : Operand) (t : TypeId) (hop : o.op = Op.entryStore t m s x) (M S X : Value) (w2 : World) (hm : a.eval m = M) (hs : a.eval s = S) (hx : a.eval x = X)
    (hrun : (Instr.entryStore t M S X).run P w = .ok () w2) (hK : wpList P ops Q rest (a.put o.dst undef) w2) : wpList P ops Q (o :: rest) a w := by
  refine wpList_plain hg fun K' hK' => ?_
  unfold Oper.wp
  simp [execOp, hop, hm, hs, hx, hrun, Result.andThen]
  exact hK' _ _ hK
theorem look_arm {P : Program} {ops : Array Oper} {rest : List Oper} {o : Oper} {a : Act} {Q : Exit → Act → World → Prop} (w : World) (hg : o.guard = none) (m x : Operand) (t : TypeId) (hop : o.op = Op.lookup t m x false) (M X v : Value) (hm : a.eval m = M) (hx : a.eval x = X)
    (hrun : (Instr.lookup t M X false).run P w = .ok v w) (hK : wpList P ops Q rest (a.put o.dst v) w) : wpList P ops Q (o :: rest) a w := by
  refine wpList_plain hg fun K' hK' => ?_
  unfold Oper.wp
  simp [execOp, hop, hm, hx, hrun, Result.andThen]
  exact hK' _ _ hK
theorem ints_below {w w' : World} {base : Nat} {e : TypeId} {q : IntKind} {v : Value} {zs : List Int} (h : w.ownsInts base e q v zs) (hb : Below w.heap.size w w') : w'.ownsInts base e q v zs := ⟨pw_own_below h.1 hb, h.2⟩
theorem GM_below {P : Program} {k : TypeId} {mk : ByteArray → Value} {el : TypeId} {q : IntKind} {w w' : World} {base b n : Nat} {f : ByteArray → List Int} (h : GM P k mk el q w base b n f) (hb : Below w.heap.size w w') : GM P k mk el q w' base b n f := by
  obtain ⟨es, clock, h1, F, hn, hbb, hown, r⟩ := h
  exact ⟨es, clock, (hb.block b (Array.getElem?_eq_some_iff.1 h1).1).trans h1, F, hn, hbb, fun x hx => by
    obtain ⟨s, h1, h2, h3⟩ := hown x hx
    exact ⟨s, h1, h2, ints_below h3 hb⟩, r⟩
theorem gAt {w : World} {A : Option Addr} {G : List (List Int)} (h : Kd.C (Kd.slice 3 (Kd.int .i64)) w A G.length G) {i : Nat} (hi : i < G.length) : ∃ (ad : Addr) (Ax : Option Addr) (cx : Nat), A = some ad ∧ w.cell? (ad.add i) = some (.slice Ax (G.getD i []).length cx) ∧ (G.getD i []).length ≤ cx ∧ Kd.C (Kd.int .i64) w Ax (G.getD i []).length (G.getD i []) := by
  obtain ⟨ad, e, hc⟩ := h.2.2 (by omega)
  obtain ⟨cs, hl, ⟨Ax, cx, rfl, h1, h2⟩, hu⟩ := hc i (G.getD i []) (by rw [List.getD_eq_getElem?_getD, List.getElem?_eq_getElem hi]; rfl)
  have := hu 0 _ rfl
  have e2 : i * (Kd.slice 3 (Kd.int .i64)).sz + 0 = i := by show i * 1 + 0 = i; omega
  rw [e2] at this
  exact ⟨ad, Ax, cx, e, this, h1, h2⟩
theorem intAt {w : World} {A : Option Addr} {l : List Int} (h : Kd.C (Kd.int .i64) w A l.length l) {t : Nat} (ht : t < l.length) : ∃ ad, A = some ad ∧ w.cell? (ad.add t) = some (.int .i64 (rd l (t : Int))) := by
  obtain ⟨ad, e, hx⟩ := Kd.at_int h (t : Int) (by omega) (by omega)
  exact ⟨ad, e, hx⟩
theorem take_rdI {l : List Int} {k : Nat} (h : k < l.length) : l.take (k + 1) = l.take k ++ [rd l (k : Int)] := by
  unfold rd
  rw [show ((k : Int)).toNat = k from rfl, List.take_succ_eq_append_getElem h, List.getD_eq_getElem?_getD, List.getElem?_eq_getElem h]; rfl
theorem rd_memI {l : List Int} {k : Nat} (h : k < l.length) : rd l (k : Int) ∈ l := by
  unfold rd
  rw [show ((k : Int)).toNat = k from rfl, List.getD_eq_getElem?_getD, List.getElem?_eq_getElem h]
  exact List.getElem_mem h
theorem cell_calls (A0 : Option Addr) (c0 : Nat) (hd : List ByteArray) (A1 : Option Addr) (c1 : Nat) (rows : List (List ByteArray)) (i c : Int) (w : World)
    (hr0 : Kd.C Kd.string w A0 hd.length hd) (hc0 : hd.length ≤ c0) (hr1 : Kd.C (Kd.slice 9 Kd.string) w A1 rows.length rows) (hc1 : rows.length ≤ c1) :
    Calls Try.prog 46 #[.agg #[.slice A0 hd.length c0, .slice A1 rows.length c1], .int .i64 i, .int .i64 c] w fun e w' => e = .returned (.string (cellR rows i c)) ∧ Below w.heap.size w w' :=
  table_Cell.calls A0 c0 hd A1 c1 rows i c (cellR rows i c) w hr0 hc0 hr1 hc1 (cell_some hd rows i c)
/-- The groups so far. -/
def grpF (cell : Int → Int → ByteArray) (c : Int) (l : List Int) : ByteArray → List Int := fun s => l.filter fun j => decide (cell j c = s)
theorem grpF_snoc (cell : Int → Int → ByteArray) (c : Int) (l : List Int) (i : Int) : grpF cell c (l ++ [i]) = upd (grpF cell c l) (cell i c) (grpF cell c l (cell i c) ++ [i]) := by
  funext s
  unfold grpF upd
  rw [List.filter_append]
  by_cases h : s = cell i c
  · subst h; simp
  · rw [if_neg h]; simp; exact fun e => h e.symm
theorem splitR_snoc (cell : Int → Int → ByteArray) (G : List (List Int)) (g : List Int) (c : Int) : splitR cell (G ++ [g]) c = splitR cell G c ++ partG cell g c := by unfold splitR; rw [List.flatMap_append]; simp

theorem one_after {w1 w2 : World} {b : Nat} {x : Value} {t : TypeId} {o : Obj} (hb : b < w1.heap.size) (hg : ((w1.alloc o).alloc (.cells #[x] t)).grownBy w2 (some b)) : ∀ j u, [x][j]? = some u → w2.cell? ((⟨w1.heap.size + 1, 0, none⟩ : Addr).add j) = some u := by
  intro j u hj
  have h := cell_one_new (w1.alloc o) x t j u hj
  have e : (w1.alloc o).heap.size = w1.heap.size + 1 := World.size_alloc _ _
  rw [e] at h
  exact hg.cell h (by
    have e2 : ((⟨w1.heap.size + 1, 0, none⟩ : Addr).add j).block = w1.heap.size + 1 := by unfold Addr.add; split <;> rfl
    rw [e2]; simp; omega)
theorem below_row {w wr w1 : World} {row : Option Nat} (hb : Below w.heap.size w wr) (hg : wr.grownBy w1 row) (h : ∀ j, row = some j → w.heap.size ≤ j) : Below w.heap.size w w1 := hb.grown hg hb.size h

theorem infoRow : (Try.prog.info? 42).map (fun i => (i.zero, i.size, i.bytes)) = some (some (.slice none 0 0), 1, 24) := by kernel_rfl
theorem shuns_below {w w' : World} {b : Nat} {No : Nat → Prop} (h : w.Shuns b No) (hlt : b < w.heap.size) (hb : Below w.heap.size w w') : w'.Shuns b No := fun es clock h1 => h es clock ((hb.block b hlt).symm.trans h1)
theorem own_head {W : World} {base : Nat} {v : Value} {z : Int} {zs : List Int} (ho : W.ownsInts base 3 .i64 v (z :: zs)) : ∃ g cap, v = .slice (some ⟨g, 0, none⟩) (zs.length + 1) cap ∧ W.cell? ⟨g, 0, none⟩ = some (.int .i64 z) := by
  rcases ho.1.2 with ⟨_, h0⟩ | ⟨g, cap, cur, hv, _, hh, _, _, _, ht⟩
  · cases h0
  · refine ⟨g, cap, hv, ?_⟩
    have := ho.1
    rw [hv] at this
    rw [this.cellAt 0 (by simp)]
    rfl
theorem splitR_pre {cell : Int → Int → ByteArray} {G : List (List Int)} {c : Int} {t k : Nat} {g : List Int} (ht : G.take (t + 1) = G.take t ++ [g]) : (splitR cell (G.take t) c ++ (g.take k).flatMap (partQ cell g c)).length ≤ (splitR cell G c).length := by
  have h1 : (splitR cell (G.take (t + 1)) c).length ≤ (splitR cell G c).length := by
    conv => rhs; rw [← List.take_append_drop (t + 1) G]
    unfold splitR
    rw [List.flatMap_append, List.length_append]; omega
  have h2 : ((g.take k).flatMap (partQ cell g c)).length ≤ (partG cell g c).length := by
    unfold partG
    conv => rhs; rw [← List.take_append_drop k g]
    rw [List.flatMap_append, List.length_append]
    rw [List.take_append_drop]; omega
  rw [ht, splitR_snoc, List.length_append] at h1
  rw [List.length_append]; omega

set_option maxRecDepth 100000 in
set_option maxHeartbeats 4000000 in
theorem split_calls (A0 : Option Addr) (c0 : Nat) (hd : List ByteArray) (A1 : Option Addr) (c1 : Nat) (rows : List (List ByteArray)) (Ag : Option Addr) (cg : Nat) (G : List (List Int)) (c : Int) (N : Nat) (w : World)
    (hr0 : Kd.C Kd.string w A0 hd.length hd) (hc0 : hd.length ≤ c0) (hr1 : Kd.C (Kd.slice 9 Kd.string) w A1 rows.length rows) (hc1 : rows.length ≤ c1) (hrG : Kd.C (Kd.slice 3 (Kd.int .i64)) w Ag G.length G)
    (hN : N ≤ 100000) (hG : ∀ g ∈ G, g.length ≤ N ∧ ∀ i ∈ g, 0 ≤ i ∧ i < (N : Int)) (hGl : G.length ≤ 100000) (hS : (splitR (cellR rows) G c).length ≤ 100000) (hsz : ∀ i j, (cellR rows i j).size ≤ maxLen) :
    Calls Try.prog 49 #[.agg #[.slice A0 hd.length c0, .slice A1 rows.length c1], .slice Ag G.length cg, .int .i64 c] w fun e w' => ∃ v : Value, e = .returned v ∧ Kd.R (Kd.slice 3 (Kd.int .i64)) 42 w' w.heap.size (fun _ => True) v (splitR (cellR rows) G c) ∧ Below w.heap.size w w' := by
  have hmm := @run_makeMap Try.prog
  obtain ⟨i0, hi0, hz0, hz1, hz2⟩ := info_parts info3
  obtain ⟨W0, hW0⟩ : ∃ W0, Aside0 (w.alloc (.cells #[.slice A0 hd.length c0, .slice A1 rows.length c1] 41 (0, 0)) = W0) := ⟨_, ⟨rfl⟩⟩
  have HB0 : Aside0 (Below w.heap.size w W0) := ⟨by rw [← hW0.out]; exact below_alloc (Below.refl _ _) _⟩
  have hT : W0.heap[w.heap.size]? = some (.cells #[.slice A0 hd.length c0, .slice A1 rows.length c1] 41 (0, 0)) := by rw [← hW0.out]; exact blk_new w _
  have HT := Aside0.mk hT
  have HR := Aside0.mk (And.intro (Kd.C_below hr0 HB0.out) (And.intro (Kd.C_below hr1 HB0.out) (Kd.C_below hrG HB0.out)))
  have HG := Aside0.mk hG
  have HS := Aside0.mk hS
  have HZ := Aside0.mk hsz
  clear hr0 hr1 hrG hG hS hsz hT
  go_enter Try.func49, Try.ntmps49
  go_wp2
  rw [hW0.out]
  go_loopw [7, 19] (fun vo vi wr => ∃ t : Nat, vi = .int .i64 t ∧ t ≤ G.length ∧ Aside0 (Kd.R (Kd.slice 3 (Kd.int .i64)) 42 wr W0.heap.size (fun _ => True) vo (splitR (cellR rows) (G.take t) c)) ∧ Aside0 (Below W0.heap.size W0 wr))
    (fun _ vi _ => G.length - (intOf vi).toNat)
  case atStart => exact ⟨0, rfl, Nat.zero_le _, ⟨Kd.R_nil _ _ _ _ _⟩, ⟨Below.refl _ _⟩⟩
  case round =>
    obtain ⟨t, rfl, ht, HO, HB⟩ := hrel
    obtain ⟨W1, hW1⟩ : ∃ W1, W1 = wr := ⟨_, rfl⟩
    subst hW1
    by_cases hlt : t < G.length
    · have hltI : (t : Int) < (G.length : Int) := by omega
      obtain ⟨ad, Ax, cx, eA, hx0, hcx, hCx⟩ := gAt HR.out.2.2 hlt
      cases eA
      have hx := pw_cell_below HB.out hx0
      clear hx0
      have HGt := Aside0.mk (HG.out (G.getD t []) (by rw [List.getD_eq_getElem?_getD, List.getElem?_eq_getElem hlt]; exact List.getElem_mem hlt))
      have Htk : Aside0 (G.take (t + 1) = G.take t ++ [G.getD t []]) := ⟨by rw [List.take_succ_eq_append_getElem hlt, List.getD_eq_getElem?_getD, List.getElem?_eq_getElem hlt]; rfl⟩
      generalize hg : G.getD t [] = g at *
      have HCx := Aside0.mk hCx
      clear hCx hg
      go_wp2
      obtain ⟨WM, hWM⟩ : ∃ WM, Aside0 (W1.alloc (.map #[] 0) = WM) := ⟨_, ⟨rfl⟩⟩
      have HM0 : Aside0 (GM Try.prog KP mkA 3 .i64 WM (W1.heap.size + 1) W1.heap.size 0 (grpF (cellR rows) c (g.take 0))) := ⟨by rw [← hWM.out]; exact  GM.made _ _ _ _ _ W1⟩
      have HBM : Aside0 (Below W1.heap.size W1 WM) := ⟨by rw [← hWM.out]; exact below_alloc (Below.refl _ _) _⟩
      rw [hWM.out]
      go_loopw [26] (fun vj wk => ∃ k : Nat, vj = .int .i64 k ∧ k ≤ g.length ∧ Aside0 (GM Try.prog KP mkA 3 .i64 wk (W1.heap.size + 1) W1.heap.size k (grpF (cellR rows) c (g.take k))) ∧ Aside0 (Below W1.heap.size W1 wk))
        (fun vj _ => g.length - (intOf vj).toNat)
      case atStart => exact ⟨0, rfl, Nat.zero_le _, HM0, HBM⟩
      case round =>
        obtain ⟨k, rfl, hk, HM, HBk⟩ := hrel
        by_cases hlk : k < g.length
        · have hlkI : (k : Int) < (g.length : Int) := by omega
          have HBk0 := Aside0.mk (below_step HB.out HBk.out)
          obtain ⟨ad, eA, hy⟩ := intAt (Kd.C_below HCx.out HBk0.out) hlk
          cases eA
          have hBMlt := Aside0.mk HM.out.lt
          have hT0 := blk_cell (blk_below HT.out HBk0.out) 0
          have hT1 := blk_cell (blk_below HT.out HBk0.out) 1
          have HGk := Aside0.mk (HGt.out.2 _ (rd_memI hlk))
          have Htj := Aside0.mk (take_rdI hlk)
          generalize rd g (k : Int) = j at *
          obtain ⟨s, hs⟩ : ∃ s, Aside0 (cellR rows j c = s) := ⟨_, ⟨rfl⟩⟩
          have HK := Aside0.mk (keyK (by rw [← hs.out]; exact HZ.out j c) : ∃ kl, keyOf Try.prog KP (mkA s) = some kl)
          have hfl : (grpF (cellR rows) c (g.take k) s).length ≤ k := by
            refine Nat.le_trans (List.length_filter_le _ _) ?_
            rw [List.length_take]; exact Nat.min_le_left _ _
          have HFL := Aside0.mk hfl
          generalize hF : grpF (cellR rows) c (g.take k) = F at *
          have HFF := Aside0.mk hF
          clear hF hfl
          have hgN := HGt.out.1
          have hwf : (Lit.int .i64 j).wf = true := WalkArith.wf_i64 (by have := HGk.out; omega)
          go_wp2_with (first
            | (go_at_call 46; refine (cell_calls A0 c0 hd A1 c1 rows j c _ (Kd.C_below HR.out.1 HBk0.out) hc0 (Kd.C_below HR.out.2.1 HBk0.out) hc1).mono ?_; rintro e w1 ⟨rfl, hb1⟩; rw [hs.out]; obtain ⟨kl, hkl⟩ := HK.out; obtain ⟨v0, st, w2, hrun, hg2, hz2', hoi, hback⟩ := GM.entry (((GM_below HM.out hb1).alloc (.cells #[.string s] 86)).alloc (.cells #[.int .i64 j] 3)) (by unfold maxLen; have := HGt.out.1; omega) lawK mkA_inj Try.underlying85 zeroSl s hkl)
            | (refine entry_arm _ rfl _ _ _ rfl _ _ _ _ rfl rfl hrun ?_)
            | (at_builtin; refine wpList_append_own_at _ rfl _ _ 42 rfl (W1.heap.size + 1) 3 i0 (.int .i64 0) 1 8 Try.underlying42 hi0 hz0 hz1 hz2 rfl (by decide) v0 _ _ rfl hoi.1 ⟨w1.heap.size + 1, 0, none⟩ 1 1 [.int .i64 j] rfl rfl (one_after (Nat.lt_of_lt_of_le hBMlt.out hb1.size) hg2) (ints_oneCell .i64 [j]) (by unfold maxLen; have := HFL.out; have := HGt.out.1; omega) (by have := HFL.out; have := HGt.out.1; omega) (by rw [hz2', World.size_alloc, World.size_alloc]; have := hb1.size; have := hBMlt.out; omega) ?_; intro v' w3 hown' hgrow hnil hloc; obtain ⟨w4, hrun4, hg4, hsz4, hGM⟩ := hback w3 v' (F s ++ [j]) hgrow (hoi.appended hown' hwf) (by simp) (hloc.imp id (fun h => ⟨_, h, Nat.le_refl _⟩)))
            | (refine estore_arm _ rfl _ _ _ _ rfl _ _ _ _ rfl rfl rfl hrun4 ?_))
          have hb4 : Below W1.heap.size W1 w4 := by
            have h1 := below_step HBk.out hb1
            have h2 := below_row (below_alloc (below_alloc h1 _) _) hg2 (fun q hq => by cases hq; exact Nat.le_refl _)
            have h3 := below_row h2 hgrow (fun q hq => by have := (hoi.1.lt q hq).1; omega)
            exact below_row h3 hg4 (fun q hq => by cases hq; exact Nat.le_refl _)
          have HGM : Aside0 (GM Try.prog KP mkA 3 .i64 w4 (W1.heap.size + 1) W1.heap.size (k + 1) (grpF (cellR rows) c (g.take (k + 1)))) := ⟨by rw [Htj.out, grpF_snoc, HFF.out, hs.out]; exact hGM⟩
          clear hGM hrun hrun4 hback hg2 hg4 hgrow hown'
          go_roundw
          case rel => exact ⟨k + 1, by go_num, by omega, HGM, ⟨hb4⟩⟩
          case measure => simp [intOf]; omega
        · obtain rfl : k = g.length := by omega
          obtain ⟨W2, hW2⟩ : ∃ W2, W2 = wr := ⟨_, rfl⟩
          subst hW2
          rw [List.take_length] at HM
          have hBW := Aside0.mk HB.out.size
          have HO2 := Aside0.mk (Kd.R_below HO.out HBk.out)
          have HB2 := Aside0.mk (below_step HB.out HBk.out)
          have hblk : ∀ q, u7.ownBlock = some q → q < W1.heap.size := fun q hq => by obtain ⟨inner, ho⟩ := Kd.R_own HO.out; exact (ho.lt q hq).2
          have HSh : Aside0 (∀ q, u7.ownBlock = some q → q ≠ W1.heap.size ∧ W2.Shuns W1.heap.size (· = q)) := ⟨fun q hq => ⟨by have := hblk q hq; omega, HM.out.shuns (.inl (by have := hblk q hq; omega))⟩⟩
          clear HO hblk
          have hgN := HGt.out.1
          go_wp2
          go_loopw [7, 46] (fun vo vj wk => ∃ k : Nat, vj = .int .i64 k ∧ k ≤ g.length ∧ Aside0 (Kd.R (Kd.slice 3 (Kd.int .i64)) 42 wk W0.heap.size (fun _ => True) vo (splitR (cellR rows) (G.take t) c ++ (g.take k).flatMap (partQ (cellR rows) g c))) ∧
              Aside0 (GM Try.prog KP mkA 3 .i64 wk (W1.heap.size + 1) W1.heap.size g.length (grpF (cellR rows) c g)) ∧ Aside0 (Below W0.heap.size W0 wk) ∧ Aside0 (∀ q, vo.ownBlock = some q → q ≠ W1.heap.size ∧ wk.Shuns W1.heap.size (· = q)))
            (fun _ vj _ => g.length - (intOf vj).toNat)
          case atStart => exact ⟨0, rfl, Nat.zero_le _, by simpa using HO2, HM, HB2, HSh⟩
          case round =>
            obtain ⟨k, rfl, hk, HO3, HM3, HB3, HSh3⟩ := hrel
            clear HO2 HM HB2 HSh HBk
            by_cases hlk : k < g.length
            · have hlkI : (k : Int) < (g.length : Int) := by omega
              obtain ⟨ad, eA, hy⟩ := intAt (Kd.C_below HCx.out HB3.out) hlk
              cases eA
              have hT0 := blk_cell (blk_below HT.out HB3.out) 0
              have hT1 := blk_cell (blk_below HT.out HB3.out) 1
              have HGk := Aside0.mk (HGt.out.2 _ (rd_memI hlk))
              have Htj := Aside0.mk (take_rdI hlk)
              have hjm := rd_memI hlk
              have hBMlt := Aside0.mk HM3.out.lt
              generalize rd g (k : Int) = j at *
              have hcl0 : j ∈ clsR (cellR rows) g c j := (mem_cls _).2 ⟨hjm, rfl⟩
              have hcln : (clsR (cellR rows) g c j).length ≤ g.length := List.length_filter_le _ _
              have hgrp : grpF (cellR rows) c g (cellR rows j c) = clsR (cellR rows) g c j := rfl
              have hfm : ∀ X : List (List Int), partQ (cellR rows) g c j = X → (g.take (k + 1)).flatMap (partQ (cellR rows) g c) = (g.take k).flatMap (partQ (cellR rows) g c) ++ X := fun X hX => by rw [Htj.out, List.flatMap_append, ← hX]; simp
              have hpq : partQ (cellR rows) g c j = if 1 < (clsR (cellR rows) g c j).length ∧ (clsR (cellR rows) g c j).head? = some j then [clsR (cellR rows) g c j] else [] := rfl
              generalize clsR (cellR rows) g c j = cl at *
              obtain ⟨z, zs, rfl⟩ : ∃ z zs, cl = z :: zs := by cases cl with
                | nil => cases hcl0
                | cons z zs => exact ⟨z, zs, rfl⟩
              obtain ⟨s, hs⟩ : ∃ s, Aside0 (cellR rows j c = s) := ⟨_, ⟨rfl⟩⟩
              have HK := Aside0.mk (keyK (by rw [← hs.out]; exact HZ.out j c) : ∃ kl, keyOf Try.prog KP (mkA s) = some kl)
              have HGR := Aside0.mk (show grpF (cellR rows) c g s = z :: zs by rw [← hs.out]; exact hgrp)
              have HPQ := Aside0.mk hpq
              have HFM := Aside0.mk hfm
              have hpre := splitR_pre (cell := cellR rows) (c := c) (k := k) Htk.out
              have HPR := Aside0.mk (Nat.le_trans hpre HS.out)
              clear hgrp hpq hfm hpre hcl0 hjm
              simp only [List.length_cons] at hcln
              by_cases hL : 0 < zs.length
              · by_cases hj : z = j
                · subst hj
                  go_wp2_with (first
                    | (go_at_call 46; refine (cell_calls A0 c0 hd A1 c1 rows z c _ (Kd.C_below HR.out.1 HB3.out) hc0 (Kd.C_below HR.out.2.1 HB3.out) hc1).mono ?_; rintro e w1 ⟨rfl, hb1⟩; rw [hs.out]; obtain ⟨kl, hkl⟩ := HK.out; obtain ⟨v, hrun, hov, hshv⟩ := (GM_below HM3.out hb1).look lawK mkA_inj Try.underlying85 (zeroSl _) s hkl; rw [HGR.out] at hov; obtain ⟨gq, cap, rfl, hq0⟩ := own_head hov)
                    | (refine look_arm _ rfl _ _ _ rfl _ _ _ rfl rfl hrun ?_)
                    | ((with_reducible refine gate_builtin (b := .append) (xs := #[.tmp 67, .tmp 69]) rfl ?_); at_builtin; refine Kd.R_append (Kd.slice 3 (Kd.int .i64)) (w0 := W0) W0.heap.size rfl (.tmp 67) (.tmp 69) 74 42 (.slice none 0 0) 24 rfl Try.underlying74 infoRow rfl (by decide) (by omega) u7 _ (z :: zs) [.slice (some ⟨gq, 0, none⟩) (zs.length + 1) cap] (fun _ => True) (fun q => (Value.slice (some ⟨gq, 0, none⟩) (zs.length + 1) cap).ownBlock = some q) rfl rfl ?aP ?aK (fun _ _ => trivial) (Kd.R_below HO3.out hb1) (below_step HB3.out hb1) (Nat.le_trans HB3.out.size hb1.size) ?aL ?_; (case aP => exact ⟨_, rfl, Kd.R_of_own (own_weaken hov.1 (by have := hBW.out; omega)) (fun _ h => h)⟩); (case aK => exact fun q hq => ⟨trivial, fun e => hshv q hq _ (shuns_below (HSh3.out q e.symm).2 hBMlt.out hb1) rfl⟩); (case aL => have := HPR.out; omega); intro v1 w5 ho5 hb5 hg5 hat5))
                  have hE : splitR (cellR rows) (G.take t) c ++ (g.take (k + 1)).flatMap (partQ (cellR rows) g c) = (splitR (cellR rows) (G.take t) c ++ (g.take k).flatMap (partQ (cellR rows) g c)) ++ [z :: zs] := by
                    rw [HFM.out [z :: zs] (by rw [HPQ.out, if_pos ⟨by simp only [List.length_cons]; omega, rfl⟩]), List.append_assoc]
                  have hGMw := (GM_below HM3.out hb1).alloc (.cells #[.slice (some ⟨gq, 0, none⟩) (zs.length + 1) cap] 42)
                  have hblt : W1.heap.size < w1.heap.size := Nat.lt_of_lt_of_le hBMlt.out hb1.size
                  have hsh1 : ∀ q, u7.ownBlock = some q → q ≠ W1.heap.size ∧ w1.Shuns W1.heap.size (· = q) := fun q hq => ⟨(HSh3.out q hq).1, shuns_below (HSh3.out q hq).2 hBMlt.out hb1⟩
                  have hGM5 : GM Try.prog KP mkA 3 .i64 w5 (W1.heap.size + 1) W1.heap.size g.length (grpF (cellR rows) c g) := (GM_below HM3.out hb1).kept hg5 (fun e => (hsh1 _ e.symm).1 rfl) (fun q hq => (hsh1 q hq).2)
                  have hsh5 : ∀ q, v1.ownBlock = some q → q ≠ W1.heap.size ∧ w5.Shuns W1.heap.size (· = q) := fun q hq => by
                    rcases hat5 with h | ⟨q', h, hge⟩
                    · rw [hq] at h
                      exact ⟨(hsh1 q h.symm).1, (hsh1 q h.symm).2.kept hg5 hblt (fun e => (hsh1 _ e.symm).1 rfl)⟩
                    · rw [hq] at h
                      cases h
                      exact ⟨by omega, ((GM_below HM3.out hb1).shuns (.inr hge)).kept hg5 hblt (fun e => (hsh1 _ e.symm).1 rfl)⟩
                  clear hGMw hrun hshv hg5 hat5
                  go_roundw
                  case rel => exact ⟨k + 1, by go_num, by omega, ⟨by rw [hE]; exact ho5⟩, ⟨hGM5⟩, ⟨hb5⟩, ⟨hsh5⟩⟩
                  case measure => simp [intOf]; omega
                · have hzj : (z == j) = false := by simp; exact hj
                  go_wp2_with (first
                    | (go_at_call 46; refine (cell_calls A0 c0 hd A1 c1 rows j c _ (Kd.C_below HR.out.1 HB3.out) hc0 (Kd.C_below HR.out.2.1 HB3.out) hc1).mono ?_; rintro e w1 ⟨rfl, hb1⟩; rw [hs.out]; obtain ⟨kl, hkl⟩ := HK.out; obtain ⟨v, hrun, hov, hshv⟩ := (GM_below HM3.out hb1).look lawK mkA_inj Try.underlying85 (zeroSl _) s hkl; rw [HGR.out] at hov; obtain ⟨gq, cap, rfl, hq0⟩ := own_head hov)
                    | (refine look_arm _ rfl _ _ _ rfl _ _ _ rfl rfl hrun ?_))
                  have hE : splitR (cellR rows) (G.take t) c ++ (g.take (k + 1)).flatMap (partQ (cellR rows) g c) = splitR (cellR rows) (G.take t) c ++ (g.take k).flatMap (partQ (cellR rows) g c) := by
                    rw [HFM.out [] (by rw [HPQ.out, if_neg (fun e => hj (by simpa using e.2))]), List.append_nil]
                  have hsh1 : ∀ q, u7.ownBlock = some q → q ≠ W1.heap.size ∧ w1.Shuns W1.heap.size (· = q) := fun q hq => ⟨(HSh3.out q hq).1, shuns_below (HSh3.out q hq).2 hBMlt.out hb1⟩
                  clear hrun hshv
                  go_roundw
                  case rel => exact ⟨k + 1, by go_num, by omega, ⟨by rw [hE]; exact Kd.R_below HO3.out hb1⟩, ⟨GM_below HM3.out hb1⟩, ⟨below_step HB3.out hb1⟩, ⟨hsh1⟩⟩
                  case measure => simp [intOf]; omega
              · have hl0 : zs.length = 0 := by omega
                have hl1 : ¬ ((zs.length + 1 : Nat) : Int) > 1 := by omega
                go_wp2_with (first
                  | (go_at_call 46; refine (cell_calls A0 c0 hd A1 c1 rows j c _ (Kd.C_below HR.out.1 HB3.out) hc0 (Kd.C_below HR.out.2.1 HB3.out) hc1).mono ?_; rintro e w1 ⟨rfl, hb1⟩; rw [hs.out]; obtain ⟨kl, hkl⟩ := HK.out; obtain ⟨v, hrun, hov, hshv⟩ := (GM_below HM3.out hb1).look lawK mkA_inj Try.underlying85 (zeroSl _) s hkl; rw [HGR.out] at hov; obtain ⟨gq, cap, rfl, hq0⟩ := own_head hov)
                  | (refine look_arm _ rfl _ _ _ rfl _ _ _ rfl rfl hrun ?_))
                have hE : splitR (cellR rows) (G.take t) c ++ (g.take (k + 1)).flatMap (partQ (cellR rows) g c) = splitR (cellR rows) (G.take t) c ++ (g.take k).flatMap (partQ (cellR rows) g c) := by
                  rw [HFM.out [] (by rw [HPQ.out, if_neg (fun e => hL (by have := e.1; simp only [List.length_cons] at this; omega))]), List.append_nil]
                have hsh1 : ∀ q, u7.ownBlock = some q → q ≠ W1.heap.size ∧ w1.Shuns W1.heap.size (· = q) := fun q hq => ⟨(HSh3.out q hq).1, shuns_below (HSh3.out q hq).2 hBMlt.out hb1⟩
                clear hrun hshv
                go_roundw
                case rel => exact ⟨k + 1, by go_num, by omega, ⟨by rw [hE]; exact Kd.R_below HO3.out hb1⟩, ⟨GM_below HM3.out hb1⟩, ⟨below_step HB3.out hb1⟩, ⟨hsh1⟩⟩
                case measure => simp [intOf]; omega
            · obtain rfl : k = g.length := by omega
              have hE : splitR (cellR rows) (G.take (t + 1)) c = splitR (cellR rows) (G.take t) c ++ (g.take g.length).flatMap (partQ (cellR rows) g c) := by rw [Htk.out, splitR_snoc, List.take_length]; rfl
              have HO4 : Aside0 (Kd.R (Kd.slice 3 (Kd.int .i64)) 42 wr W0.heap.size (fun _ => True) u7 (splitR (cellR rows) (G.take (t + 1)) c)) := ⟨by rw [hE]; exact HO3.out⟩
              clear HO3 hE HM3 HSh3
              go_wp2
              go_roundw
              case rel => exact ⟨t + 1, by go_num, by omega, HO4, HB3⟩
              case measure => simp [intOf]; omega
    · obtain rfl : t = G.length := by omega
      rw [List.take_length] at HO
      go_wp2
      go_ret
      exact ⟨_, rfl, Kd.R_lower HO.out HB0.out.size, below_step HB0.out HB.out⟩
end Go.Proofs.Ytchpgkojlhipgaa.X
