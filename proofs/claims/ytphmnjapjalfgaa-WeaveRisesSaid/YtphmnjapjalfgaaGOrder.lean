/- weave.Order. -/
import Derived.Test.YtphmnjapjalfgaaGTake
import Derived.Laws.AppendOwnNone
namespace Go.Proofs.Ytphmnjapjalfgaa.X
open Go.RowKit Go.Maps Go.Proofs.YtphmnjapjalfgaaW.PrintWords Go.Proofs.YtphmnjapjalfgaaW.PrintLast Go.Proofs.YtphmnjapjalfgaaW.PrintMore Go.Proofs.Ytphmnjapjalfgaa.GMap
set_option linter.unusedVariables false
set_option linter.unusedSimpArgs false

/-- The Bs of what is still. -/
def stB (l : List PS) : List Int := (stillR l).map fun i => (rd_T37 l i).f1
def mk1 (bs : List Int) : Int → Option Int := fun x => if x ∈ bs then some 1 else none
theorem mk1_snoc (bs : List Int) (x : Int) : mk1 (bs ++ [x]) = upd (mk1 bs) x 1 := by
  funext y
  unfold mk1 upd
  by_cases e : y = x
  · subst e; simp
  · simp [e]
/-- One B of the woven list: what is left of the pairs, of the gone ones, what is woven so far. -/
def wvStep (sb : List Int) (st : List PS × List Int × List PS) (b : Nat) : List PS × List Int × List PS :=
  let hit := decide (0 < st.1.length ∧ (rd_T37 st.1 ((0 : Nat) : Int)).f1 = (b : Int))
  let p : PS := if hit then rd_T37 st.1 ((0 : Nat) : Int) else ⟨-1, b⟩
  let l := if hit then st.1.drop 1 else st.1
  if (b : Int) ∈ sb then (l, st.2.1.dropWhile (fun a => !decide (a > p.f0)), st.2.2 ++ (st.2.1.takeWhile (fun a => !decide (a > p.f0))).map mkG ++ [p])
  else (l, st.2.1, st.2.2 ++ [p])
def wvAt (l : List PS) (na : Int) (b : Nat) : List PS × List Int × List PS := (List.range b).foldl (wvStep (stB l)) (l, restR (l.map (·.f0)) na.toNat, [])
def ordR (l : List PS) (na nb : Int) : List PS := (wvAt l na nb.toNat).2.2 ++ (wvAt l na nb.toNat).2.1.map mkG
theorem wvAt_succ (l : List PS) (na : Int) (b : Nat) : wvAt l na (b + 1) = wvStep (stB l) (wvAt l na b) b := by unfold wvAt; rw [List.range_succ, List.foldl_append]; rfl
theorem still_len0 (l : List PS) : (stillR l).length ≤ l.length := stAt_len l l.length
def weave_Order.f (l : List PS) (na nb : Int) : Option (List PS × Int) := if okP l = true ∧ na ≤ 100000 ∧ nb ≤ 100000 then some (if checkR l na nb = 0 then ordR l na nb else [], checkR l na nb) else none

theorem look_any {α : Type} {P : Program} {k e t : TypeId} {E : Enc α} {w : World} {m sz : Nat} {f : α → Option Int} (law : Keyed P k) (ht : P.underlying t = some (.map k e)) (he : P.underlying e = some (.int .i64)) (hz : ∀ w, (zeroValue e).run P w = .ok (.int .i64 0) w)
    (H : MapO P k e E w m sz f) {key : Value} {y : α} (hkey : keyOf P k key = some (E.lit y)) : Sem.run P (Instr.lookup t (.map (some m)) key false) w = .ok (.int .i64 ((f y).getD 0)) w := by
  obtain ⟨D, hown, hs, hD, hf⟩ := H
  obtain ⟨c, hrun, hat, hwc⟩ := hown.lookup_int law ht he (hz _) hkey
  have h := (hf y).2
  rw [hat] at h
  injection h with h1
  injection h1 with h1 h2
  subst h2
  exact hrun
theorem look1 {w : World} {m sz : Nat} {bs : List Int} {y : Int} (H : MapI w m sz (mk1 bs)) (hy : (Lit.int .i64 y).wf = true) : Sem.run Try.prog (Instr.lookup 45 (.map (some m)) (.int .i64 y) false) w = .ok (.int .i64 (if y ∈ bs then 1 else 0)) w := by
  have h := look_any lawI Try.underlying45 Try.underlying3 zeroI H (keyI hy)
  rw [h]
  unfold mk1
  by_cases e : y ∈ bs <;> simp [e]
/-- append(own row, a row). -/
theorem append_two {P : Program} {W : World} {ops : Array Oper} {rest : List Oper} {o : Oper} {a : Act} {Q : Exit → Act → World → Prop} (hgd : o.guard = none) (s x : Operand) (t : TypeId)
    (ho : o.op = .call { callee := .builtin .append, args := #[s, x], argTypes := #[t, t] })
    (base : Nat) (e : TypeId) (i : TypeInfo) (z : Value) (size bytes : Nat) (ht : P.underlying t = some (.slice e)) (hi : P.info? e = some i) (hz : i.zero = some z)
    (hsize : i.size = size) (hby : i.bytes = bytes) (hzs : z.cells.size = size) (hsz : 0 < size)
    (v : Value) (n : Nat) (xs : List Value) (hs : a.eval s = v) (hown : W.ownsRow base e size v n xs)
    (u : Value) (m b2 : Nat) (ys : List Value) (hx : a.eval x = u) (hov : W.ownsRow b2 e size u m ys) (h1 : ∀ q ∈ ys, q.oneCell' = true)
    (h63 : n + m ≤ maxLen) (hbytes : (n + m) * bytes ≤ 140737488355328) (hbase : base ≤ W.heap.size)
    (h : ∀ v' w', w'.ownsRow base e size v' (n + m) (xs ++ ys) → W.grownBy w' v.ownBlock → wpList P ops Q rest (a.put o.dst v') w') : wpList P ops Q (o :: rest) a W := by
  rcases hov.2 with ⟨rfl, rfl⟩ | ⟨g, cap, cur, rfl, hg⟩
  · have hy : ys = [] := List.eq_nil_of_length_eq_zero (by rw [hov.1]; simp)
    subst hy
    exact wpList_append_own_none hgd s x t ho base e i size ht hi v n xs hs hown hx (h v W (by rw [List.append_nil]; exact hown) (grown_refl _ _))
  · refine wpList_append_own W hgd s x t ho base e i z size bytes ht hi hz hsize hby hzs hsz v n xs hs hown ⟨g, 0, none⟩ m cap ys hx hov.1 (fun j q hq => ?_) h1 h63 hbytes hbase (fun v' w' h2 h3 _ => h v' w' h2 h3)
    have hj : j < m * size := by
      have := (List.getElem?_eq_some_iff.1 hq).1
      rw [hov.1] at this; exact this
    have h5 := hov.cellAt j hj
    have e5 : (⟨g, 0, none⟩ : Addr).add j = ⟨g, j, none⟩ := by unfold Addr.add; split <;> simp_all
    rw [e5, h5]; exact hq
theorem cells_one (ps : List PS) : ∀ q ∈ cellsS ps, q.oneCell' = true := by
  intro q hq
  unfold cellsS at hq
  obtain ⟨p, _, hq⟩ := List.mem_flatMap.1 hq
  simp at hq
  rcases hq with rfl | rfl <;> simp [Value.oneCell']
theorem cellsS_append (a b : List PS) : cellsS (a ++ b) = cellsS a ++ cellsS b := by simp [cellsS]
theorem wv_no {sb : List Int} {L O : List PS} {Gr : List Int} {b : Nat} (hit : ¬ (0 < L.length ∧ (rd_T37 L ((0 : Nat) : Int)).f1 = (b : Int))) (hs : (b : Int) ∉ sb) : wvStep sb (L, Gr, O) b = (L, Gr, O ++ [⟨-1, (b : Int)⟩]) := by
  unfold wvStep
  simp only [decide_eq_false hit, Bool.false_eq_true, if_false]
  rw [if_neg hs]
theorem wv_ns {sb : List Int} {L O : List PS} {Gr : List Int} {b : Nat} (hit : ¬ (0 < L.length ∧ (rd_T37 L ((0 : Nat) : Int)).f1 = (b : Int))) (hs : (b : Int) ∈ sb) : wvStep sb (L, Gr, O) b = (L, Gr.dropWhile (fun a => !decide (a > -1)), O ++ (Gr.takeWhile (fun a => !decide (a > -1))).map mkG ++ [⟨-1, (b : Int)⟩]) := by
  unfold wvStep
  simp only [decide_eq_false hit, Bool.false_eq_true, if_false]
  rw [if_pos hs]
theorem wv_hn {sb : List Int} {L O : List PS} {Gr : List Int} {b : Nat} (hit : 0 < L.length ∧ (rd_T37 L ((0 : Nat) : Int)).f1 = (b : Int)) (hs : (b : Int) ∉ sb) : wvStep sb (L, Gr, O) b = (L.drop 1, Gr, O ++ [rd_T37 L ((0 : Nat) : Int)]) := by
  unfold wvStep
  simp only [decide_eq_true hit, if_true]
  rw [if_neg hs]
theorem wv_hs {sb : List Int} {L O : List PS} {Gr : List Int} {b : Nat} (hit : 0 < L.length ∧ (rd_T37 L ((0 : Nat) : Int)).f1 = (b : Int)) (hs : (b : Int) ∈ sb) : wvStep sb (L, Gr, O) b = (L.drop 1, Gr.dropWhile (fun a => !decide (a > (rd_T37 L ((0 : Nat) : Int)).f0)), O ++ (Gr.takeWhile (fun a => !decide (a > (rd_T37 L ((0 : Nat) : Int)).f0))).map mkG ++ [rd_T37 L ((0 : Nat) : Int)]) := by
  unfold wvStep
  simp only [decide_eq_true hit, if_true]
  rw [if_pos hs]
theorem span_take {u : Int → Bool} : ∀ {G : List Int} {t : Nat}, t ≤ G.length → (∀ x ∈ G.take t, u x = false) → (∀ x xs, G.drop t = x :: xs → u x = true) → G.takeWhile (fun a => !u a) = G.take t ∧ G.dropWhile (fun a => !u a) = G.drop t
  | [], t, ht, _, _ => by simp at ht; subst ht; simp
  | g :: G, 0, _, _, h2 => by
    have := h2 g G rfl
    simp [this]
  | g :: G, t + 1, ht, h1, h2 => by
    have hg := h1 g (by simp)
    have ih := span_take (G := G) (t := t) (by simpa using ht) (fun x hx => h1 x (by simp [hx])) (fun x xs e => h2 x xs (by simpa using e))
    simp [hg, ih.1, ih.2]
theorem GAt.below {gb : Nat} {G : List Int} {A : Option Addr} {c : Nat} {W W' : World} (h : GAt gb G A c W) (hb : Below W.heap.size W W') : GAt gb G A c W' :=
  ⟨(hb.block _ (lt_of_block h.blk)).trans h.blk, C_heap h.C (fun ad e => hb.block _ (h.lt ad e)), h.le, h.ne, fun ad e => Nat.lt_of_lt_of_le (h.lt ad e) hb.size⟩
/-- Behind a growth of the woven row. -/
theorem GAt.row {gb base K : Nat} {G : List Int} {A : Option Addr} {c n : Nat} {W W' : World} {v : Value} {xs : List Value} (h : GAt gb G A c W) (hK : ∀ ad, A = some ad → ad.block < K) (hKb : K ≤ base) (ho : W.ownsRow base 37 2 v n xs) (hg : W.grownBy W' v.ownBlock) : GAt gb G A c W' := by
  refine ⟨(hg.block gb (lt_of_block h.blk) (fun e => ?_)).trans h.blk, C_heap h.C (fun ad e => hg.block _ (h.lt ad e) (fun e2 => ?_)), h.le, h.ne, fun ad e => Nat.lt_of_lt_of_le (h.lt ad e) hg.size⟩
  · obtain ⟨cells, hc⟩ := own_typed ho gb e.symm
    rw [h.blk] at hc; simp at hc
  · have h1 := own_base ho ad.block e2.symm
    have h2 := hK ad e
    omega
theorem map_row {base n m sz : Nat} {W W' : World} {v : Value} {xs : List Value} {f : Int → Option Int} (hm : MapI W m sz f) (ho : W.ownsRow base 37 2 v n xs) (hg : W.grownBy W' v.ownBlock) : MapI W' m sz f := by
  refine hm.kept hg (fun e => ?_)
  obtain ⟨cells, hc⟩ := own_typed ho _ e.symm
  exact hm.noCells hc
theorem gr_row {w5 W W' : World} {gb base n : Nat} {v : Value} {xs : List Value} (hgr : w5.grownBy W (some gb)) (hb : w5.heap.size ≤ base) (ho : W.ownsRow base 37 2 v n xs) (hg : W.grownBy W' v.ownBlock) : w5.grownBy W' (some gb) :=
  ⟨hg.os.trans hgr.os, hg.tape.trans hgr.tape, hg.output.trans hgr.output, Nat.le_trans hgr.size hg.size, fun k hk hne => (hg.block k (Nat.lt_of_lt_of_le hk hgr.size) (fun e => by have := own_base ho k e.symm; omega)).trans (hgr.block k hk hne)⟩
/-- All that the round of the second loop needs of a world. -/
structure OAt (w w5 : World) (gb M sz : Nat) (l0 : List PS) (L : List PS) (Gr : List Int) (O : List PS) (Al A' : Option Addr) (c' : Nat) (vo : Value) (W : World) : Prop where
  C : Kd.C k37 W Al L.length L
  o : W.ownsRow w5.heap.size 37 2 vo O.length (cellsS O)
  g : GAt gb Gr A' c' W
  k : ∀ ad, A' = some ad → ad.block < w5.heap.size
  m : MapI W M sz (mk1 (stB l0))
  gr : w5.grownBy W (some gb)
  b : Below w.heap.size w W
section
variable {w w5 : World} {gb M sz : Nat} {l0 L : List PS} {Gr : List Int} {O : List PS} {Al A' : Option Addr} {c' : Nat} {vo : Value} {W W' : World}
theorem OAt.below (h : OAt w w5 gb M sz l0 L Gr O Al A' c' vo W) (hb : Below W.heap.size W W') : OAt w w5 gb M sz l0 L Gr O Al A' c' vo W' :=
  ⟨Kd.C_below h.C hb, pw_own_below h.o hb, h.g.below hb, h.k, h.m.below hb, grown_trans h.gr ⟨hb.os, hb.tape, hb.output, hb.size, fun k hk _ => hb.block k hk⟩, h.b.trans (hb.mono h.b.size)⟩
theorem OAt.take (h : OAt w w5 gb M sz l0 L Gr O Al A' c' vo W) (hCw : Kd.C k37 w Al L.length L) (hgw : w.heap.size ≤ gb) {Gr2 : List Int} {A2 : Option Addr} {c2 : Nat} (hg2 : GAt gb Gr2 A2 c2 W') (hk2 : ∀ ad, A2 = some ad → ad.block < w5.heap.size) (hgr : W.grownBy W' (some gb)) : OAt w w5 gb M sz l0 L Gr2 O Al A2 c2 vo W' := by
  have hb' : Below w.heap.size w W' := h.b.grown hgr h.b.size (fun k hk => by cases hk; exact hgw)
  refine ⟨Kd.C_below hCw hb', own_heap h.o (fun g hg => hgr.block g (own_lt h.o hg) (fun e => ?_)), hg2, hk2, h.m.kept hgr (fun e => ?_), grown_trans h.gr hgr, hb'⟩
  · obtain ⟨cells, hc⟩ := own_typed h.o g hg
    obtain rfl : g = gb := by simpa using e
    rw [h.g.blk] at hc; simp at hc
  · obtain rfl : M = gb := by simpa using e
    exact h.m.noCells h.g.blk
/-- .. and behind an append to the woven row. -/
theorem OAt.row (h : OAt w w5 gb M sz l0 L Gr O Al A' c' vo W) (hCw : Kd.C k37 w Al L.length L) (hww : w.heap.size ≤ w5.heap.size) {v' : Value} {O' : List PS} (ho' : W'.ownsRow w5.heap.size 37 2 v' O'.length (cellsS O')) (hg : W.grownBy W' vo.ownBlock) : OAt w w5 gb M sz l0 L Gr O' Al A' c' v' W' := by
  have hb' : Below w.heap.size w W' := h.b.grown hg h.b.size (fun k hk => Nat.le_trans hww (own_base h.o k hk))
  exact ⟨Kd.C_below hCw hb', ho', h.g.row h.k (Nat.le_refl _) h.o hg, h.k, map_row h.m h.o hg, gr_row h.gr (Nat.le_refl _) h.o hg, hb'⟩
end
theorem goneAhead_calls (A : Option Addr) (n c : Nat) (W : World) : Calls Try.prog 45 #[.slice A n c] W fun e w' => e = .returned (.func (.func 52) #[] #[.pointer (some ⟨W.heap.size, 0, none⟩)]) ∧ w' = W.alloc (.cells #[.slice A n c] 31) := by
  go_enter Try.func45, Try.ntmps45
  go_wp2
  go_ret
  exact ⟨rfl, rfl⟩
theorem wv_len (l : List PS) (na : Int) : ∀ b, (wvAt l na b).2.2.length + (wvAt l na b).2.1.length ≤ b + na.toNat
  | 0 => by
    have := restR_le (l.map (·.f0)) na.toNat
    show 0 + (restR (l.map (·.f0)) na.toNat).length ≤ _
    omega
  | b + 1 => by
    have ih := wv_len l na b
    rw [wvAt_succ]
    unfold wvStep
    have h := fun p : Int → Bool => congrArg List.length (List.takeWhile_append_dropWhile (p := p) (l := (wvAt l na b).2.1))
    simp only []
    split
    · simp only [List.length_append, List.length_map, List.length_singleton]
      have h2 := h (fun a => !decide (a > (if decide (0 < (wvAt l na b).1.length ∧ (rd_T37 (wvAt l na b).1 ((0 : Nat) : Int)).f1 = (b : Int)) = true then rd_T37 (wvAt l na b).1 ((0 : Nat) : Int) else ⟨-1, b⟩ : PS).f0))
      rw [List.length_append] at h2
      omega
    · simp only [List.length_append, List.length_singleton]
      omega

set_option maxRecDepth 100000 in
set_option maxHeartbeats 4000000 in
theorem weave_Order.calls (A0 : Option Addr) (c0 : Nat) (l0 : List PS) (a1 : Int) (a2 : Int) (r1 : List PS) (r2 : Int) (w : World) (hr0 : Kd.C k37 w A0 l0.length l0) (hc0 : l0.length ≤ c0) (h : weave_Order.f l0 a1 a2 = some (r1, r2)) :
    Calls Try.prog 31 #[.slice A0 l0.length c0, .int .i64 a1, .int .i64 a2] w fun e w' => ∃ v0_ : Value, e = .returned (.tuple #[v0_, .int .i64 r2]) ∧ Kd.R k37 37 w' w.heap.size (fun _ => True) v0_ r1 ∧ Below w.heap.size w w' := by
  unfold weave_Order.f at h
  split at h
  · rename_i hok
    obtain ⟨hokp, hna, hnb⟩ := hok
    have hla := okP_len hokp
    have h1 := Option.some.inj h
    injection h1 with e1 e2
    subst e2
    have H := Aside0.mk e1
    have HL := Aside0.mk hokp
    have HR0 := Aside0.mk hr0
    have HC0 := Aside0.mk hc0
    have hck : pairs_Check.f l0 a1 a2 = some (checkR l0 a1 a2) := by unfold pairs_Check.f; rw [if_pos hokp]
    have HCk := Aside0.mk hck
    have hmm := @run_makeMap Try.prog
    obtain ⟨i0, hi, hz0, hz1, hz2⟩ := info_parts info37
    obtain ⟨j0, hj, hy0, hy1, hy2⟩ := info_parts info3
    clear h e1 hck hokp hr0 hc0
    go_enter Try.func31, Try.ntmps31
    by_cases hc : checkR l0 a1 a2 = 0
    · rw [if_pos hc] at H
      rw [hc] at HCk ⊢
      have HSt : Aside0 (pairs_Still.f l0 = some (stillR l0)) := ⟨by unfold pairs_Still.f; rw [if_pos hla]⟩
      go_wp2_with (first
        | (go_at_call 16; (with_reducible refine (pairs_Check.calls A0 c0 l0 a1 a2 0 _ HR0.out HC0.out HCk.out).mono ?_); rintro e w1 ⟨rfl, hb1⟩)
        | (go_at_call 24; (with_reducible refine (pairs_Still.calls A0 c0 l0 (stillR l0) _ (Kd.C_alloc (Kd.C_below HR0.out hb1) _) HC0.out HSt.out).mono ?_); rintro e w2 ⟨v, rfl, hn, hb2⟩; obtain ⟨An, cn, rfl, hcn, hN⟩ := Kd.R_reads hn))
      have hownN := Kd.own_of_R hn
      have hbw := hb1.trans (((below_alloc (Below.refl _ _) _).trans (hb2.mono (by simp))).mono hb1.size)
      have hMw : w.heap.size ≤ w1.heap.size := hb1.size
      have hM2 : w1.heap.size + 1 ≤ w2.heap.size := by have := hb2.size; rwa [World.size_alloc] at this
      have hAn : ∀ ad, An = some ad → w1.heap.size < ad.block := by
        intro ad e
        have := own_base hownN ad.block (by rw [e]; rfl)
        rw [World.size_alloc] at this; omega
      have hm0 : MapI w2 w1.heap.size 0 (mk1 ((stB l0).take 0)) := by
        have h0 := MapO.made Try.prog 3 3 encI w1
        have e : mk1 ((stB l0).take 0) = fun _ => none := by funext k; simp [mk1]
        rw [e]
        exact h0.below hb2
      have HBW := Aside0.mk hbw
      have HNr := Aside0.mk hN
      have hsl := still_len0 l0
      clear hn hownN hbw hN hb2
      go_loopw [27] (fun vi wr => ∃ t : Nat, vi = .int .i64 t ∧ t ≤ (stillR l0).length ∧ (∃ sz, sz ≤ t ∧ MapI wr w1.heap.size sz (mk1 ((stB l0).take t))) ∧ w2.grownBy wr (some w1.heap.size))
        (fun vi _ => (stillR l0).length - (intOf vi).toNat)
      case atStart => exact ⟨0, rfl, Nat.zero_le _, ⟨0, Nat.le_refl _, hm0⟩, grown_refl _ _⟩
      case round =>
        clear hm0
        obtain ⟨t, rfl, ht, ⟨sz, hsz, hm⟩, hgr⟩ := hrel
        have hbr := HBW.out.grown hgr HBW.out.size (fun j hj => by cases hj; exact hMw)
        by_cases hlt : t < (stillR l0).length
        · have HRr := Aside0.mk (Kd.C_below HR0.out hbr)
          have HNt := Aside0.mk (C_heap HNr.out (fun ad e => hgr.block ad.block (by
            obtain ⟨_, _, h3⟩ := HNr.out
            obtain ⟨ad', e', hc⟩ := h3 (by omega)
            rw [e] at e'; cases e'
            have hrd := intAt HNr.out hlt
            obtain ⟨ad2, e2, hx⟩ := hrd
            rw [e] at e2; cases e2
            rcases hq : w2.heap[ad.block]? with _ | o
            · have : (ad.add t).block = ad.block := by unfold Addr.add; split <;> rfl
              simp [World.cell?, this, hq] at hx
            · exact lt_of_block hq) (fun e3 => by have := hAn ad e; simp at e3; omega)))
          obtain ⟨ai, eN, hi0⟩ := intAt HNt.out hlt
          cases eN
          have hmem := stAt_mem l0 l0.length (rd (stillR l0) (t : Int)) (by
            unfold rd
            rw [show ((t : Int)).toNat = t from rfl, List.getD_eq_getElem?_getD, List.getElem?_eq_getElem hlt]
            exact List.getElem_mem hlt)
          obtain ⟨j, hj⟩ : ∃ j : Nat, rd (stillR l0) (t : Int) = (j : Int) := ⟨(rd (stillR l0) (t : Int)).toNat, by omega⟩
          have htk : (stB l0).take (t + 1) = (stB l0).take t ++ [(rd_T37 l0 (j : Int)).f1] := by
            unfold stB
            rw [← List.map_take, ← List.map_take, take_rdI hlt, List.map_append, List.map_cons, List.map_nil, hj]
          have HT := Aside0.mk htk
          rw [hj] at hi0 hmem
          have hjl : j < l0.length := by omega
          obtain ⟨ad, eA, hx0, hx1⟩ := pairAt HRr.out hjl
          cases eA
          have hwf := (okP_mem HL.out _ (rdP_mem hjl)).2
          generalize rd_T37 l0 (j : Int) = p at *
          have t8 : (j : Int) < (l0.length : Int) := by omega
          have sl : sz < maxLen := by unfold maxLen; omega
          clear htk hj
          go_wp2_with (first
            | (at_mapUpdate; refine store_arm lawI Try.underlying45 Try.underlying3 rfl _ _ _ rfl _ _ _ rfl hm sl _ _ rfl (keyI hwf) _ rfl (by decide) ?_; intro w3 hm1 hg1))
          go_roundw
          case rel =>
            refine ⟨t + 1, by go_num, by omega, ⟨_, ?_, by rw [HT.out, mk1_snoc]; exact hm1⟩, grown_trans hgr hg1⟩
            have := GMap.grow_le (mk1 ((stB l0).take t)) p.f1 sz
            omega
          case measure => simp [intOf]; omega
        · obtain rfl : t = (stillR l0).length := by omega
          have hstl : (stB l0).length = (stillR l0).length := by unfold stB; rw [List.length_map]
          rw [List.take_of_length_le (by omega)] at hm
          have HRr := Aside0.mk (Kd.C_below HR0.out hbr)
          have HMp := Aside0.mk hm
          have HBR := Aside0.mk hbr
          have HRA : Aside0 (pairs_RestA.f l0 a1 = some (restR (l0.map (·.f0)) a1.toNat)) := ⟨by unfold pairs_RestA.f; rw [if_pos ⟨HL.out, hna⟩]⟩
          have hgl := restR_le (l0.map (·.f0)) a1.toNat
          generalize hG : restR (l0.map (·.f0)) a1.toNat = G at *
          clear hm hbr hgr HNr
          go_wp2_with (first
            | (go_at_call 26; (with_reducible refine (pairs_RestA.calls A0 c0 l0 a1 G _ HRr.out HC0.out HRA.out).mono ?_); rintro e w4 ⟨v, rfl, hn4, hb4⟩; obtain ⟨Ag, cg, rfl, hcg, hN4⟩ := Kd.R_reads hn4)
            | (go_at_call 45; (with_reducible refine (goneAhead_calls Ag G.length cg _).mono ?_); rintro e w5 ⟨rfl, rfl⟩))
          have hown4 := Kd.own_of_R hn4
          have hs4 := hb4.size
          have hbw4 := HBR.out.trans (hb4.mono HBR.out.size)
          have hGA : GAt w4.heap.size G Ag cg (w4.alloc (.cells #[.slice Ag G.length cg] 31)) := by
            have hlt4 : ∀ ad, Ag = some ad → ad.block < w4.heap.size := fun ad e => own_lt hown4 (by rw [e]; rfl)
            refine ⟨by rw [ha, if_pos rfl], C_heap hN4 (fun ad e => by rw [ha, if_neg (by have := hlt4 ad e; omega)]), hcg, fun ad e => by have := hlt4 ad e; omega, fun ad e => by have := hlt4 ad e; rw [World.size_alloc]; omega⟩
          have hMp5 : MapI (w4.alloc (.cells #[.slice Ag G.length cg] 31)) w1.heap.size sz (mk1 (stB l0)) := (HMp.out.below hb4).alloc _
          have hbw5 := hbw4.alloc hbw4.size (.cells #[.slice Ag G.length cg] 31)
          have hMlt : w1.heap.size < w4.heap.size := Nat.lt_of_lt_of_le HMp.out.lt hs4
          have hgw : w.heap.size ≤ w4.heap.size := hbw4.size
          have hg5 : w4.heap.size < (w4.alloc (.cells #[.slice Ag G.length cg] 31)).heap.size := by rw [World.size_alloc]; exact Nat.lt_succ_self _
          generalize hgb : w4.heap.size = gb at *
          generalize w4.alloc (.cells #[.slice Ag G.length cg] 31) = w5 at *
          have HG0 : Aside0 (wvAt l0 a1 0 = (l0, G, [])) := ⟨by unfold wvAt; rw [hG]; rfl⟩
          have HB5 := Aside0.mk hbw5
          clear hown4 hn4 hN4 hb4 hbw4 hbw5 HRr HMp HBR hcg hs4 hgb
          go_loopw [0, 13, 43] (fun vl vo vb wr => ∃ b : Nat, vb = .int .i64 b ∧ b ≤ a2.toNat ∧ (∃ Al cl, vl = .slice Al (wvAt l0 a1 b).1.length cl ∧ (wvAt l0 a1 b).1.length ≤ cl ∧ Kd.C k37 w Al (wvAt l0 a1 b).1.length (wvAt l0 a1 b).1) ∧
              wr.ownsRow w5.heap.size 37 2 vo (wvAt l0 a1 b).2.2.length (cellsS (wvAt l0 a1 b).2.2) ∧ (∃ A' c', GAt gb (wvAt l0 a1 b).2.1 A' c' wr ∧ ∀ ad, A' = some ad → ad.block < w5.heap.size) ∧ MapI wr w1.heap.size sz (mk1 (stB l0)) ∧ w5.grownBy wr (some gb))
            (fun _ _ vb _ => a2.toNat - (intOf vb).toNat)
          case atStart =>
            refine ⟨0, rfl, Nat.zero_le _, ?_⟩
            rw [HG0.out]
            exact ⟨⟨A0, c0, rfl, HC0.out, HR0.out⟩, by simpa [cellsS] using World.ownsRow_nil _ _ _ _, ⟨Ag, cg, hGA, hGA.lt⟩, hMp5, grown_refl _ _⟩
          case round =>
            -- ROUND
            obtain ⟨b, rfl, hbl, ⟨Al, cl, rfl, hlc, hCl⟩, ho, ⟨A', c', hg, hk⟩, hm, hgr⟩ := hrel
            have hbr := HB5.out.grown hgr HB5.out.size (fun j hj => by cases hj; exact hgw)
            by_cases hlt : b < a2.toNat
            · have HU := Aside0.mk (wvAt_succ l0 a1 b)
              have hwl := wv_len l0 a1 b
              generalize wvAt l0 a1 b = st at *
              obtain ⟨L, Gr, O⟩ := st
              simp only at hlc hCl ho hg hwl
              have HCl := Aside0.mk hCl
              have HO := Aside0.mk (show OAt w w5 gb w1.heap.size sz l0 L Gr O Al A' c' u13 wr from ⟨Kd.C_below hCl hbr, ho, hg, hk, hm, hgr, hbr⟩)
              obtain ⟨Ao, co, rfl⟩ := own_slice ho
              have ltb : (b : Int) < a2 := by omega
              have hwfb : (Lit.int .i64 (b : Int)).wf = true := by exact WalkArith.wf_i64 (by omega)
              have HO1 := Aside0.mk (HO.out.below (below_alloc (Below.refl _ _) (.cells #[.int .i64 (-1), .int .i64 (b : Int)] 37)))
              have r1 := look1 HO1.out.m hwfb
              have hz1_ := HO1.out.gr.size
              have hml : O.length + 1 ≤ maxLen := by unfold maxLen; omega
              have hml2 : (O.length + 1) * 16 ≤ 140737488355328 := by omega
              clear hCl ho hg hk hm hgr hbr
              by_cases hit : 0 < L.length ∧ (rd_T37 L ((0 : Nat) : Int)).f1 = (b : Int)
              · have hLp := hit.1
                obtain ⟨al, eL, hl0, hl1⟩ := pairAt HO1.out.C hLp
                cases eL
                rw [hit.2] at hl1
                have HWn := Aside0.mk (fun h : (b : Int) ∉ stB l0 => HU.out.trans (wv_hn hit h))
                have HWs := Aside0.mk (fun h : (b : Int) ∈ stB l0 => HU.out.trans (wv_hs hit h))
                have hpf := hit.2
                generalize rd_T37 L ((0 : Nat) : Int) = p at *
                have hl0' : (wr.alloc (.cells #[.int .i64 (-1), .int .i64 (b : Int)] 37)).cell? al = some (.int .i64 p.f0) := hl0
                have hl1' : (wr.alloc (.cells #[.int .i64 (-1), .int .i64 (b : Int)] 37)).cell? ⟨al.block, al.off + 1, none⟩ = some (.int .i64 (b : Int)) := hl1
                have hcut := cut_from (P := Try.prog) 22 37 .i64 Try.underlying22 hi 2 hz1 (some al) L.length cl 1 (by omega) (by omega)
                obtain ⟨A2, hA2⟩ : ∃ A2, A2 = (if cl = (1 : Int).toNat then (some al) else (some al).map (·.add ((1 : Int).toNat * 2))) := ⟨_, rfl⟩
                rw [← hA2] at hcut
                have hcut2 : ∀ W, Sem.run Try.prog (Instr.slice 22 (.slice (some al) L.length cl) (some (.int .i64 1)) none none) W = .ok (.slice A2 (L.length - 1) (cl - 1)) W := hcut
                have hdl : (L.drop 1).length = L.length - 1 := List.length_drop
                have HCd : Aside0 (Kd.C k37 w A2 (L.drop 1).length (L.drop 1)) := ⟨by
                  have h1 := Kd.C_drop (m := 1) (c := cl) HCl.out hLp hlc
                  rw [hA2]
                  exact h1⟩
                have hb2 := below_alloc (Below.refl wr.heap.size wr) (.cells #[.int .i64 (-1), .int .i64 (b : Int)] 37)
                have HIT := Aside0.mk hit
                have HLc : Aside0 ((L.drop 1).length ≤ cl - 1) := ⟨by rw [hdl]; omega⟩
                clear hcut hA2 hl0 hl1 hit r1
                go_wp2
                refine start_ (n := 7) (S := fun w' => w'.cell? al = some (.int .i64 p.f0) ∧ w'.cell? ⟨al.block, al.off + 1, none⟩ = some (.int .i64 (b : Int))) (ds := [5]) #[false, false, false, false, false, false, false] (by kernel_rfl) rfl rfl ⟨hl0', hl1'⟩ (fun hHeld => ?_)
                have hb3 : Below wr.heap.size wr (wr.alloc (.cells #[.int .i64 (-1), .int .i64 (b : Int)] 37)).drew := ⟨hb2.os, hb2.tape, hb2.output, hb2.size, hb2.block⟩
                have hx3 : (wr.alloc (.cells #[.int .i64 (-1), .int .i64 (b : Int)] 37)).drew.heap[wr.heap.size]? = some (.cells #[.int .i64 (-1), .int .i64 (b : Int)] 37 (0, 0)) := blk_new wr _
                clear hl0' hl1' hb2
                generalize (wr.alloc (.cells #[.int .i64 (-1), .int .i64 (b : Int)] 37)).drew = W3 at *
                refine pure_ (i := 0) (N := some 59) (v := ?_) (a' := ?_) #[true, false, false, false, false, false, false] rfl rfl (by kernel_rfl) (fun _ _ _ h => h) (Or.inl ⟨by rfl, ?_⟩) ?_ ?_
                rotate_left
                · intro w'
                  go_simp
                  with_reducible rfl
                rotate_left
                · simp only [Act.put, List.setIfInBounds_toArray, List.set_cons_zero, List.set_cons_succ]
                  rfl
                refine pure_ (i := 1) (N := some 60) (v := ?_) (a' := ?_) #[true, true, false, false, false, false, false] rfl rfl (by kernel_rfl) (fun _ _ _ h => h) (Or.inl ⟨by rfl, ?_⟩) ?_ ?_
                rotate_left
                · intro w'
                  go_simp
                  with_reducible rfl
                rotate_left
                · simp only [Act.put, List.setIfInBounds_toArray, List.set_cons_zero, List.set_cons_succ]
                  rfl
                refine take_ (i := 2) (N := some 61) (v := ?_) (a' := ?_) #[true, true, true, false, false, false, false] rfl rfl (by kernel_rfl) (fun _ _ _ h => h) (Or.inl ⟨by rfl, ?_⟩) hHeld ?_ ?_
                rotate_left
                · rintro w' ⟨s0, s1⟩
                  go_simp
                  with_reducible rfl
                rotate_left
                · simp only [Act.put, List.setIfInBounds_toArray, List.set_cons_zero, List.set_cons_succ]
                  rfl
                refine pure_ (i := 3) (N := some 62) (v := ?_) (a' := ?_) #[true, true, true, true, false, false, false] rfl rfl (by kernel_rfl) (fun _ _ _ h => h) (Or.inl ⟨by rfl, ?_⟩) ?_ ?_
                rotate_left
                · intro w'
                  go_simp
                  with_reducible rfl
                rotate_left
                · simp only [Act.put, List.setIfInBounds_toArray, List.set_cons_zero, List.set_cons_succ]
                  rfl
                refine pure_ (i := 4) (N := some 63) (v := ?_) (a' := ?_) #[true, true, true, true, true, false, false] rfl rfl (by kernel_rfl) (fun _ _ _ h => h) (Or.inl ⟨by rfl, ?_⟩) ?_ ?_
                rotate_left
                · intro w'
                  go_simp
                  with_reducible rfl
                rotate_left
                · simp only [Act.put, List.setIfInBounds_toArray, List.set_cons_zero, List.set_cons_succ]
                  rfl
                refine last_ (i := 5) (N := none) #[true, true, true, true, true, true, false] rfl rfl (by kernel_rfl) (by decide) (fun K hK => ?_)
                have hq0 := blk_cell hx3 0
                have hq1 := blk_cell hx3 1
                have hf0 := blk_frozen hx3 0
                have hf1 := blk_frozen hx3 1
                refine skip_ (w1 := W3.setCells wr.heap.size 0 [.int .i64 p.f0, .int .i64 (b : Int)]) rfl rfl ?hr2 ?_
                case hr2 => first | (go_simp; done) | (go_simp; rfl)
                refine hK.out _ _ ?_
                clear hK K
                have hb4 : Below wr.heap.size wr (W3.setCells wr.heap.size 0 [.int .i64 p.f0, .int .i64 (b : Int)]) := (hb3.setCell (Nat.le_refl _) _).setCell (Nat.le_refl _) _
                have hx4 : (W3.setCells wr.heap.size 0 [.int .i64 p.f0, .int .i64 (b : Int)]).heap[wr.heap.size]? = some (.cells #[.int .i64 p.f0, .int .i64 (b : Int)] 37 (0, 0)) := (blk_set3 (blk_set3 hx3 0 _) 1 _).trans (by simp)
                clear hb3 hx3 hq0 hq1 hf0 hf1 hHeld
                generalize W3.setCells wr.heap.size 0 [.int .i64 p.f0, .int .i64 (b : Int)] = W4 at *
                refine pure_ (i := 6) (N := some 0) (v := ?_) (a' := ?_) #[true, true, true, true, true, true, true] rfl rfl (by kernel_rfl) (fun _ _ _ h => h) (Or.inl ⟨by rfl, ?_⟩) ?_ ?_
                rotate_left
                · intro w'
                  go_simp
                  with_reducible rfl
                rotate_left
                · simp only [Act.put, List.setIfInBounds_toArray, List.set_cons_zero, List.set_cons_succ]
                  rfl
                refine done_ (by kernel_rfl) ?_
                have HO4 : Aside0 (OAt w w5 gb w1.heap.size sz l0 (L.drop 1) Gr O A2 A' c' (.slice Ao O.length co) W4) := ⟨by
                  have h4 := HO.out.below hb4
                  exact ⟨Kd.C_below HCd.out h4.b, h4.o, h4.g, h4.k, h4.m, h4.gr, h4.b⟩⟩
                have hz1_ := HO4.out.gr.size
                have r1 := look1 HO4.out.m hwfb
                have hpc0 := (cell2 hx4).1
                have hpc1 := (cell2 hx4).2
                by_cases hs : (b : Int) ∈ stB l0
                · rw [if_pos hs] at r1
                  have hpc := (cell2 hx4).1
                  have hpg : wr.heap.size ≠ gb := by have h9 := lt_of_block HO.out.g.blk; omega
                  have hGl : Gr.length ≤ 1000000 := by omega
                  have hOl : ∀ t, t ≤ Gr.length → O.length + ((Gr.take t).map mkG).length ≤ 200000 := fun t ht => by rw [List.length_map, List.length_take]; omega
                  have hwlt := lt_of_block hx4
                  go_wp2_with (first
                    | (go_at_call 52; (with_reducible refine (take1_calls Gr A' c' _ gb wr.heap.size p.f0 HO4.out.g hpc hpg hGl w5.heap.size HO4.out.k hz1_).mono ?_); rintro e w7 ⟨v, t, rfl, ht, hall, hnext, hov, ⟨A2', c2, hg2, hk2⟩, hgr2⟩; have HO7 := Aside0.mk (HO4.out.take HCd.out hgw hg2 hk2 hgr2); have hb7 : w7.heap[wr.heap.size]? = some (.cells #[.int .i64 p.f0, .int .i64 (b : Int)] 37 (0, 0)) := (hgr2.block _ hwlt (fun e => hpg (by simpa using e))).trans hx4)
                    | (at_builtin; refine append_two rfl _ _ 22 rfl w5.heap.size 37 i0 _ 2 16 Try.underlying22 hi hz0 hz1 hz2 rfl (by decide) _ _ _ rfl HO7.out.o _ _ _ _ rfl hov (cells_one _) (by have := hOl t ht; unfold maxLen; omega) (by have := hOl t ht; omega) HO7.out.gr.size ?_; intro v8 w8 hown8 hgrow8; have hb8 : w8.heap[wr.heap.size]? = some (.cells #[.int .i64 p.f0, .int .i64 (b : Int)] 37 (0, 0)) := (hgrow8.block _ (lt_of_block hb7) (fun e => absurd (own_lt HO.out.o e.symm) (Nat.lt_irrefl _))).trans hb7; have c80 := (cell2 hb8).1; have c81 := (cell2 hb8).2; have hown8b : w8.ownsRow w5.heap.size 37 2 v8 (O ++ (Gr.take t).map mkG).length (cellsS (O ++ (Gr.take t).map mkG)) := (by rw [List.length_append, cellsS_append]; exact hown8); have HO8 := Aside0.mk (HO7.out.row HCd.out HB5.out.size hown8b hgrow8))
                    | (at_builtin; refine wpList_append_own _ rfl _ _ 22 rfl w5.heap.size 37 i0 _ 2 16 Try.underlying22 hi hz0 hz1 hz2 rfl (by decide) _ _ _ rfl (HO8.out.o.alloc _) ⟨w8.heap.size, 0, none⟩ 1 1 [.int .i64 p.f0, .int .i64 (b : Int)] rfl rfl (cell_two_at _ _ _ _ _ rfl) (by simp [Value.oneCell']) (by have := hOl t ht; rw [List.length_append]; unfold maxLen; omega) (by have := hOl t ht; rw [List.length_append]; omega) (by have h9 := HO8.out.gr.size; rw [World.size_alloc]; omega) ?_; intro v9 w9 hown9 hgrow9 _))
                  have hsp := span_take ht hall hnext
                  have HWv : Aside0 (wvAt l0 a1 (b + 1) = (L.drop 1, Gr.drop t, O ++ (Gr.take t).map mkG ++ [p])) := ⟨by rw [HWs.out hs, hsp.1, hsp.2]⟩
                  have hown2 : w9.ownsRow w5.heap.size 37 2 v9 (O ++ (Gr.take t).map mkG ++ [p]).length (cellsS (O ++ (Gr.take t).map mkG ++ [p])) := by rw [cellsS_snoc, hpf, List.length_append (bs := [_]), List.length_singleton]; exact hown9
                  have hn := (HO8.out.below (below_alloc (Below.refl _ _) (.cells #[.int .i64 p.f0, .int .i64 (b : Int)] 37))).row HCd.out HB5.out.size hown2 hgrow9
                  go_roundw
                  case rel =>
                    refine ⟨b + 1, by go_num, by omega, ?_⟩
                    rw [HWv.out]
                    exact ⟨⟨A2, cl - 1, by rw [hdl], HLc.out, HCd.out⟩, hown2, ⟨A2', c2, hn.g, hn.k⟩, hn.m, hn.gr⟩
                  case measure => simp [intOf]; omega
                · rw [if_neg hs] at r1
                  have HWv : Aside0 (wvAt l0 a1 (b + 1) = (L.drop 1, Gr, O ++ [p])) := ⟨HWn.out hs⟩
                  have q3 : w5.heap.size ≤ (W4.alloc (.cells #[.int .i64 p.f0, .int .i64 (b : Int)] 37)).heap.size := by rw [World.size_alloc]; exact Nat.le_trans hz1_ (Nat.le_succ _)
                  go_wp2_with (first
                    | (at_builtin; refine wpList_append_own _ rfl _ _ 22 rfl w5.heap.size 37 i0 _ 2 16 Try.underlying22 hi hz0 hz1 hz2 rfl (by decide) _ _ _ rfl (HO4.out.o.alloc _) ⟨W4.heap.size, 0, none⟩ 1 1 [.int .i64 p.f0, .int .i64 (b : Int)] rfl rfl (cell_two_at _ _ _ _ _ rfl) (by simp [Value.oneCell']) hml hml2 q3 ?_; intro v' w8 hown' hgrow _))
                  have hown2 : w8.ownsRow w5.heap.size 37 2 v' (O ++ [p]).length (cellsS (O ++ [p])) := by rw [cellsS_snoc, hpf, List.length_append, List.length_singleton]; exact hown'
                  have hn := (HO4.out.below (below_alloc (Below.refl _ _) (.cells #[.int .i64 p.f0, .int .i64 (b : Int)] 37))).row HCd.out HB5.out.size hown2 hgrow
                  go_roundw
                  case rel =>
                    refine ⟨b + 1, by go_num, by omega, ?_⟩
                    rw [HWv.out]
                    exact ⟨⟨A2, cl - 1, by rw [hdl], HLc.out, HCd.out⟩, hown2, ⟨A', c', hn.g, hn.k⟩, hn.m, hn.gr⟩
                  case measure => simp [intOf]; omega
              · by_cases hL : L.length = 0
                · by_cases hs : (b : Int) ∈ stB l0
                  · rw [if_pos hs] at r1
                    have HWu := Aside0.mk (HU.out.trans (wv_ns hit hs))
                    have hbx := blk_new wr (.cells #[.int .i64 (-1), .int .i64 (b : Int)] 37)
                    have hpc := (cell2 hbx).1
                    have hpg : wr.heap.size ≠ gb := by have h9 := lt_of_block HO.out.g.blk; omega
                    have hGl : Gr.length ≤ 1000000 := by omega
                    have hwb : w5.heap.size ≤ (wr.alloc (.cells #[.int .i64 (-1), .int .i64 (b : Int)] 37)).heap.size := hz1_
                    have hOl : ∀ t, t ≤ Gr.length → O.length + ((Gr.take t).map mkG).length ≤ 200000 := fun t ht => by rw [List.length_map, List.length_take]; omega
                    go_wp2_with (first
                      | (go_at_call 52; (with_reducible refine (take1_calls Gr A' c' _ gb wr.heap.size (-1) HO1.out.g hpc hpg hGl w5.heap.size HO1.out.k hwb).mono ?_); rintro e w7 ⟨v, t, rfl, ht, hall, hnext, hov, ⟨A2, c2, hg2, hk2⟩, hgr2⟩; have HO7 := Aside0.mk (HO1.out.take HCl.out hgw hg2 hk2 hgr2); have hb7 : w7.heap[wr.heap.size]? = some (.cells #[.int .i64 (-1), .int .i64 (b : Int)] 37 (0, 0)) := (hgr2.block _ (by rw [World.size_alloc]; exact Nat.lt_succ_self _) (fun e => hpg (by simpa using e))).trans hbx)
                      | (at_builtin; refine append_two rfl _ _ 22 rfl w5.heap.size 37 i0 _ 2 16 Try.underlying22 hi hz0 hz1 hz2 rfl (by decide) _ _ _ rfl HO7.out.o _ _ _ _ rfl hov (cells_one _) (by have := hOl t ht; unfold maxLen; omega) (by have := hOl t ht; omega) HO7.out.gr.size ?_; intro v8 w8 hown8 hgrow8; have hb8 : w8.heap[wr.heap.size]? = some (.cells #[.int .i64 (-1), .int .i64 (b : Int)] 37 (0, 0)) := (hgrow8.block _ (lt_of_block hb7) (fun e => absurd (own_lt HO.out.o e.symm) (Nat.lt_irrefl _))).trans hb7; have c80 := (cell2 hb8).1; have c81 := (cell2 hb8).2; have hown8b : w8.ownsRow w5.heap.size 37 2 v8 (O ++ (Gr.take t).map mkG).length (cellsS (O ++ (Gr.take t).map mkG)) := (by rw [List.length_append, cellsS_append]; exact hown8); have HO8 := Aside0.mk (HO7.out.row HCl.out HB5.out.size hown8b hgrow8))
                      | (at_builtin; refine wpList_append_own _ rfl _ _ 22 rfl w5.heap.size 37 i0 _ 2 16 Try.underlying22 hi hz0 hz1 hz2 rfl (by decide) _ _ _ rfl (HO8.out.o.alloc _) ⟨w8.heap.size, 0, none⟩ 1 1 [.int .i64 (-1), .int .i64 (b : Int)] rfl rfl (cell_two_at _ _ _ _ _ rfl) (by simp [Value.oneCell']) (by have := hOl t ht; rw [List.length_append]; unfold maxLen; omega) (by have := hOl t ht; rw [List.length_append]; omega) (by have h9 := HO8.out.gr.size; rw [World.size_alloc]; omega) ?_; intro v9 w9 hown9 hgrow9 _))
                    have hsp := span_take ht hall hnext
                    have HWv : Aside0 (wvAt l0 a1 (b + 1) = (L, Gr.drop t, O ++ (Gr.take t).map mkG ++ [(⟨-1, (b : Int)⟩ : PS)])) := ⟨by rw [HWu.out, hsp.1, hsp.2]⟩
                    have hown2 : w9.ownsRow w5.heap.size 37 2 v9 (O ++ (Gr.take t).map mkG ++ [(⟨-1, (b : Int)⟩ : PS)]).length (cellsS (O ++ (Gr.take t).map mkG ++ [(⟨-1, (b : Int)⟩ : PS)])) := by rw [cellsS_snoc, List.length_append (bs := [_]), List.length_singleton]; exact hown9
                    have hn := (HO8.out.below (below_alloc (Below.refl _ _) (.cells #[.int .i64 (-1), .int .i64 (b : Int)] 37))).row HCl.out HB5.out.size hown2 hgrow9
                    go_roundw
                    case rel =>
                      refine ⟨b + 1, by go_num, by omega, ?_⟩
                      rw [HWv.out]
                      exact ⟨⟨_, cl, by simp [hL], hlc, HCl.out⟩, hown2, ⟨A2, c2, hn.g, hn.k⟩, hn.m, hn.gr⟩
                    case measure => simp [intOf]; omega
                  · rw [if_neg hs] at r1
                    have HWv := Aside0.mk (HU.out.trans (wv_no hit hs))
                    have q3 : w5.heap.size ≤ ((wr.alloc (.cells #[.int .i64 (-1), .int .i64 (b : Int)] 37)).alloc (.cells #[.int .i64 (-1), .int .i64 (b : Int)] 37)).heap.size := by rw [World.size_alloc]; exact Nat.le_trans hz1_ (Nat.le_succ _)
                    go_wp2_with (first
                      | (at_builtin; refine wpList_append_own _ rfl _ _ 22 rfl w5.heap.size 37 i0 _ 2 16 Try.underlying22 hi hz0 hz1 hz2 rfl (by decide) _ _ _ rfl (HO1.out.o.alloc _) ⟨wr.heap.size + 1, 0, none⟩ 1 1 [.int .i64 (-1), .int .i64 (b : Int)] rfl rfl (cell_two_at _ _ _ _ _ (by rw [World.size_alloc])) (by simp [Value.oneCell']) hml hml2 q3 ?_; intro v' w8 hown' hgrow _))
                    have hown2 : w8.ownsRow w5.heap.size 37 2 v' (O ++ [(⟨-1, (b : Int)⟩ : PS)]).length (cellsS (O ++ [(⟨-1, (b : Int)⟩ : PS)])) := by rw [cellsS_snoc, List.length_append, List.length_singleton]; exact hown'
                    have hn := (HO1.out.below (below_alloc (Below.refl _ _) (.cells #[.int .i64 (-1), .int .i64 (b : Int)] 37))).row HCl.out HB5.out.size hown2 hgrow
                    go_roundw
                    case rel =>
                      refine ⟨b + 1, by go_num, by omega, ?_⟩
                      rw [HWv.out]
                      exact ⟨⟨_, cl, by simp [hL], hlc, HCl.out⟩, hown2, ⟨A', c', hn.g, hn.k⟩, hn.m, hn.gr⟩
                    case measure => simp [intOf]; omega
                · have hne : ¬ (rd_T37 L ((0 : Nat) : Int)).f1 = (b : Int) := fun h => hit ⟨by omega, h⟩
                  have hLp : 0 < L.length := by omega
                  obtain ⟨al, eL, hl0, hl1⟩ := pairAt HO1.out.C hLp
                  cases eL
                  have hl0' : (wr.alloc (.cells #[.int .i64 (-1), .int .i64 (b : Int)] 37)).cell? ⟨al.block, al.off + 1, none⟩ = some (.int .i64 (rd_T37 L ((0 : Nat) : Int)).f1) := hl1
                  generalize (rd_T37 L ((0 : Nat) : Int)).f1 = lf1 at hl0' hl1 hne
                  by_cases hs : (b : Int) ∈ stB l0
                  · rw [if_pos hs] at r1
                    have HWu := Aside0.mk (HU.out.trans (wv_ns hit hs))
                    have hbx := blk_new wr (.cells #[.int .i64 (-1), .int .i64 (b : Int)] 37)
                    have hpc := (cell2 hbx).1
                    have hpg : wr.heap.size ≠ gb := by have h9 := lt_of_block HO.out.g.blk; omega
                    have hGl : Gr.length ≤ 1000000 := by omega
                    have hwb : w5.heap.size ≤ (wr.alloc (.cells #[.int .i64 (-1), .int .i64 (b : Int)] 37)).heap.size := hz1_
                    have hOl : ∀ t, t ≤ Gr.length → O.length + ((Gr.take t).map mkG).length ≤ 200000 := fun t ht => by rw [List.length_map, List.length_take]; omega
                    go_wp2_with (first
                      | (go_at_call 52; (with_reducible refine (take1_calls Gr A' c' _ gb wr.heap.size (-1) HO1.out.g hpc hpg hGl w5.heap.size HO1.out.k hwb).mono ?_); rintro e w7 ⟨v, t, rfl, ht, hall, hnext, hov, ⟨A2, c2, hg2, hk2⟩, hgr2⟩; have HO7 := Aside0.mk (HO1.out.take HCl.out hgw hg2 hk2 hgr2); have hb7 : w7.heap[wr.heap.size]? = some (.cells #[.int .i64 (-1), .int .i64 (b : Int)] 37 (0, 0)) := (hgr2.block _ (by rw [World.size_alloc]; exact Nat.lt_succ_self _) (fun e => hpg (by simpa using e))).trans hbx)
                      | (at_builtin; refine append_two rfl _ _ 22 rfl w5.heap.size 37 i0 _ 2 16 Try.underlying22 hi hz0 hz1 hz2 rfl (by decide) _ _ _ rfl HO7.out.o _ _ _ _ rfl hov (cells_one _) (by have := hOl t ht; unfold maxLen; omega) (by have := hOl t ht; omega) HO7.out.gr.size ?_; intro v8 w8 hown8 hgrow8; have hb8 : w8.heap[wr.heap.size]? = some (.cells #[.int .i64 (-1), .int .i64 (b : Int)] 37 (0, 0)) := (hgrow8.block _ (lt_of_block hb7) (fun e => absurd (own_lt HO.out.o e.symm) (Nat.lt_irrefl _))).trans hb7; have c80 := (cell2 hb8).1; have c81 := (cell2 hb8).2; have hown8b : w8.ownsRow w5.heap.size 37 2 v8 (O ++ (Gr.take t).map mkG).length (cellsS (O ++ (Gr.take t).map mkG)) := (by rw [List.length_append, cellsS_append]; exact hown8); have HO8 := Aside0.mk (HO7.out.row HCl.out HB5.out.size hown8b hgrow8))
                      | (at_builtin; refine wpList_append_own _ rfl _ _ 22 rfl w5.heap.size 37 i0 _ 2 16 Try.underlying22 hi hz0 hz1 hz2 rfl (by decide) _ _ _ rfl (HO8.out.o.alloc _) ⟨w8.heap.size, 0, none⟩ 1 1 [.int .i64 (-1), .int .i64 (b : Int)] rfl rfl (cell_two_at _ _ _ _ _ rfl) (by simp [Value.oneCell']) (by have := hOl t ht; rw [List.length_append]; unfold maxLen; omega) (by have := hOl t ht; rw [List.length_append]; omega) (by have h9 := HO8.out.gr.size; rw [World.size_alloc]; omega) ?_; intro v9 w9 hown9 hgrow9 _))
                    have hsp := span_take ht hall hnext
                    have HWv : Aside0 (wvAt l0 a1 (b + 1) = (L, Gr.drop t, O ++ (Gr.take t).map mkG ++ [(⟨-1, (b : Int)⟩ : PS)])) := ⟨by rw [HWu.out, hsp.1, hsp.2]⟩
                    have hown2 : w9.ownsRow w5.heap.size 37 2 v9 (O ++ (Gr.take t).map mkG ++ [(⟨-1, (b : Int)⟩ : PS)]).length (cellsS (O ++ (Gr.take t).map mkG ++ [(⟨-1, (b : Int)⟩ : PS)])) := by rw [cellsS_snoc, List.length_append (bs := [_]), List.length_singleton]; exact hown9
                    have hn := (HO8.out.below (below_alloc (Below.refl _ _) (.cells #[.int .i64 (-1), .int .i64 (b : Int)] 37))).row HCl.out HB5.out.size hown2 hgrow9
                    go_roundw
                    case rel =>
                      refine ⟨b + 1, by go_num, by omega, ?_⟩
                      rw [HWv.out]
                      exact ⟨⟨_, cl, rfl, hlc, HCl.out⟩, hown2, ⟨A2, c2, hn.g, hn.k⟩, hn.m, hn.gr⟩
                    case measure => simp [intOf]; omega
                  · rw [if_neg hs] at r1
                    have HWv := Aside0.mk (HU.out.trans (wv_no hit hs))
                    have q3 : w5.heap.size ≤ ((wr.alloc (.cells #[.int .i64 (-1), .int .i64 (b : Int)] 37)).alloc (.cells #[.int .i64 (-1), .int .i64 (b : Int)] 37)).heap.size := by rw [World.size_alloc]; exact Nat.le_trans hz1_ (Nat.le_succ _)
                    go_wp2_with (first
                      | (at_builtin; refine wpList_append_own _ rfl _ _ 22 rfl w5.heap.size 37 i0 _ 2 16 Try.underlying22 hi hz0 hz1 hz2 rfl (by decide) _ _ _ rfl (HO1.out.o.alloc _) ⟨wr.heap.size + 1, 0, none⟩ 1 1 [.int .i64 (-1), .int .i64 (b : Int)] rfl rfl (cell_two_at _ _ _ _ _ (by rw [World.size_alloc])) (by simp [Value.oneCell']) hml hml2 q3 ?_; intro v' w8 hown' hgrow _))
                    have hown2 : w8.ownsRow w5.heap.size 37 2 v' (O ++ [(⟨-1, (b : Int)⟩ : PS)]).length (cellsS (O ++ [(⟨-1, (b : Int)⟩ : PS)])) := by rw [cellsS_snoc, List.length_append, List.length_singleton]; exact hown'
                    have hn := (HO1.out.below (below_alloc (Below.refl _ _) (.cells #[.int .i64 (-1), .int .i64 (b : Int)] 37))).row HCl.out HB5.out.size hown2 hgrow
                    go_roundw
                    case rel =>
                      refine ⟨b + 1, by go_num, by omega, ?_⟩
                      rw [HWv.out]
                      exact ⟨⟨_, cl, rfl, hlc, HCl.out⟩, hown2, ⟨A', c', hn.g, hn.k⟩, hn.m, hn.gr⟩
                    case measure => simp [intOf]; omega
            · obtain rfl : b = a2.toNat := by omega
              have hwl := wv_len l0 a1 a2.toNat
              have HOr : Aside0 (r1 = (wvAt l0 a1 a2.toNat).2.2 ++ (wvAt l0 a1 a2.toNat).2.1.map mkG) := ⟨by rw [← H.out]; rfl⟩
              generalize wvAt l0 a1 a2.toNat = st at *
              obtain ⟨L, Gr, O⟩ := st
              simp only at hlc hCl ho hg hwl HOr
              have HO := Aside0.mk (show OAt w w5 gb w1.heap.size sz l0 L Gr O Al A' c' u13 wr from ⟨Kd.C_below hCl hbr, ho, hg, hk, hm, hgr, hbr⟩)
              obtain ⟨Ao, co, rfl⟩ := own_slice ho
              have HCl := Aside0.mk hCl
              have hGl : Gr.length ≤ 1000000 := by omega
              have hOl : ∀ t, t ≤ Gr.length → O.length + ((Gr.take t).map mkG).length ≤ 200000 := fun t ht => by rw [List.length_map, List.length_take]; omega
              have hwb := HO.out.gr.size
              clear hCl ho hg hk hm hgr hbr
              go_wp2_with (first
                | (go_at_call 52; (with_reducible refine (take2_calls Gr A' c' _ gb HO.out.g hGl w5.heap.size HO.out.k hwb).mono ?_); rintro e w7 ⟨v, t, rfl, ht, hall, hnext, hov, ⟨A2, c2, hg2, hk2⟩, hgr2⟩; have HO7 := Aside0.mk (HO.out.take HCl.out hgw hg2 hk2 hgr2))
                | (at_builtin; refine append_two rfl _ _ 22 rfl w5.heap.size 37 i0 _ 2 16 Try.underlying22 hi hz0 hz1 hz2 rfl (by decide) _ _ _ rfl HO7.out.o _ _ _ _ rfl hov (cells_one _) (by have := hOl t ht; unfold maxLen; omega) (by have := hOl t ht; omega) HO7.out.gr.size ?_; intro v8 w8 hown8 hgrow8))
              have htl : Gr.take t = Gr := by
                rcases hd : Gr.drop t with _ | ⟨x, xs⟩
                · have h1 := congrArg List.length hd
                  rw [List.length_drop] at h1
                  exact List.take_of_length_le (by simp at h1; omega)
                · have := hnext x xs hd
                  simp [uNo] at this
              rw [htl] at hown8
              have hown2 : w8.ownsRow w5.heap.size 37 2 v8 (O ++ Gr.map mkG).length (cellsS (O ++ Gr.map mkG)) := by rw [List.length_append, cellsS_append]; exact hown8
              have hn := HO7.out.row HCl.out HB5.out.size hown2 hgrow8
              refine bodyPost_ret (v := .tuple #[v8, .int .i64 0]) (by simp [results, Try.results31, go_sem]) rfl ?_
              rw [HOr.out]
              exact ⟨_, rfl, Kd.R_lower (R_pairs hown2) HB5.out.size, hn.b⟩
    · rw [if_neg hc] at H
      have hc2 : (checkR l0 a1 a2 != 0) = true := by simpa using hc
      go_wp2_with (first
        | (go_at_call 16; (with_reducible refine (pairs_Check.calls A0 c0 l0 a1 a2 _ _ HR0.out HC0.out HCk.out).mono ?_); rintro e w1 ⟨rfl, hb1⟩))
      refine bodyPost_ret (v := .tuple #[.slice none 0 0, .int .i64 (checkR l0 a1 a2)]) (by simp [results, Try.results31, go_sem]) rfl ?_
      rw [← H.out]
      exact ⟨_, rfl, Kd.R_nil _ _ _ _ _, hb1⟩
  · exact nomatch h
end Go.Proofs.Ytphmnjapjalfgaa.X
