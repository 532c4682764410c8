/- order's chain: in, put. -/
import Derived.Test.YthdfgkbfjpadbaaPChain
import Derived.Test.YthdfgkbfjpadbaaGEntry
import Derived.Test.YthdfgkbfjpadbaaX0
import Derived.Test.YthdfgkbfjpadbaaWLast
import Derived.Maps.OwnSet
import Derived.WalkKit
import Derived.WalkSpells
import Derived.OneCell
import Derived.Outline
import Derived.Deep.RegionHeld3
import Derived.Deep.QuietTactic
import Derived.BigQuiet
namespace Go.Proofs.Ythdfgkbfjpadbaa.X
open Go.RowKit Go.WideMaps Go.Maps Go.ChangeMaps Go.Proofs.YthdfgkbfjpadbaaW.PrintWords Go.Proofs.YthdfgkbfjpadbaaW.PrintLast Go.Proofs.Ythdfgkbfjpadbaa.GMap
set_option linter.unusedVariables false

theorem lawI : Keyed Try.prog 3 := int_keyed Try.underlying3
theorem zeroI (w : World) : (zeroValue 3).run Try.prog w = .ok (.int .i64 0) w := by kernel_rfl
abbrev MapI (w : World) (b s : Nat) (f : Int → Option Int) : Prop := MapO Try.prog 3 3 Go.Proofs.Ythdfgkbfjpadbaa.GMap.encI w b s f
theorem keyI {x : Int} (hx : (Lit.int .i64 x).wf = true) : keyOf Try.prog 3 (.int .i64 x) = some (Go.Proofs.Ythdfgkbfjpadbaa.GMap.encI.lit x) := keyOf_int_mk Try.underlying3 hx
/-- The chain's four cells. -/
def Four (X nb lb : Nat) (v2 v3 : Value) (W : World) : Prop := W.heap[X]? = some (.cells #[.map (some nb), .map (some lb), v2, v3] 34 (0, 0))
section
variable {X nb lb : Nat} {v2 v3 : Value} {W W' : World}
theorem Four.kept {b : Nat} (h : Four X nb lb v2 v3 W) (hg : W.grownBy W' (some b)) (hb : X ≠ b) : Four X nb lb v2 v3 W' := (hg.block _ (lt_of_block h) (by simpa using hb)).trans h
theorem Four.c (h : Four X nb lb v2 v3 W) : W.cell? ⟨X, 0, none⟩ = some (.map (some nb)) ∧ W.cell? ⟨X, 1, none⟩ = some (.map (some lb)) ∧ W.cell? ⟨X, 2, none⟩ = some v2 ∧ W.cell? ⟨X, 3, none⟩ = some v3 := ⟨blk_cell h 0, blk_cell h 1, blk_cell h 2, blk_cell h 3⟩
theorem Four.f (h : Four X nb lb v2 v3 W) : W.frozen? ⟨X, 2, none⟩ = false ∧ W.frozen? ⟨X, 3, none⟩ = false := ⟨blk_frozen h 2, blk_frozen h 3⟩
theorem Four.set2 (h : Four X nb lb v2 v3 W) (v : Value) : Four X nb lb v v3 (W.setCell ⟨X, 2, none⟩ v) := heap_setCell_same _ _ 2 _ _ v h
theorem Four.set3 (h : Four X nb lb v2 v3 W) (v : Value) : Four X nb lb v2 v (W.setCell ⟨X, 3, none⟩ v) := heap_setCell_same _ _ 3 _ _ v h
end
theorem val_step {P : Program} {ops : Array Oper} {o : Oper} {a : Act} {Kc : Act → World → Prop} {Q : Exit → Act → World → Prop} {W w1 : World} {v : Value} (hw : Region.wanted o (yielded ops a.tmps) = true) {N : Option Tmp} (hN : o.dst = N)
    (hrun : (execOp a.eval o).run P W = .ok (.value v) w1) (h : Kc (a.put N v) w1) : if Region.wanted o (yielded ops a.tmps) = true then Oper.wp P o a W Kc Q else Kc (a.put N undef) W := by
  subst hN
  rw [if_pos hw]
  unfold Oper.wp
  rw [hrun]
  exact h
theorem insB_mem {L : List Int} {a x y : Int} (ha : a ∈ L) (h : y ∈ insB L a x) : y = x ∨ y ∈ L := by
  obtain ⟨A, B, e1, e2⟩ := insB_eq x ha
  rw [e2] at h
  rw [e1]
  simp only [List.mem_append, List.mem_cons] at h ⊢
  rcases h with h | h | h | h <;> simp [h]
theorem insB_len {L : List Int} {a x : Int} (ha : a ∈ L) : (insB L a x).length = L.length + 1 := by
  obtain ⟨A, B, e1, e2⟩ := insB_eq x ha
  rw [e2, e1]; simp; omega
theorem insB_head' {L : List Int} {a x : Int} (ha : a ∈ L) : (insB L a x).headD 0 = L.headD 0 ∧ (insB L a x).isEmpty = L.isEmpty := by
  cases L with
  | nil => cases ha
  | cons y r =>
    unfold insB
    split <;> simp
/-- What stays: all below n0, and all that lay in w0 but the chain's own three blocks. -/
structure LoX (n0 : Nat) (w0 : World) (X nb lb : Nat) (W : World) : Prop where
  b : Below n0 w0 W
  k : ∀ k, k < w0.heap.size → k ≠ X → k ≠ nb → k ≠ lb → W.heap[k]? = w0.heap[k]?
  n : n0 ≤ w0.heap.size
theorem LoX.size {n0 : Nat} {w0 : World} {X nb lb : Nat} {W : World} (h : LoX n0 w0 X nb lb W) : w0.heap.size ≤ W.heap.size := h.b.size
theorem LoX.grown {n0 : Nat} {w0 : World} {X nb lb : Nat} {W W' : World} {row : Option Nat} (h : LoX n0 w0 X nb lb W) (hg : W.grownBy W' row) (_ : w0.heap.size ≤ W.heap.size) (hr : ∀ j, row = some j → n0 ≤ j ∧ (j = X ∨ j = nb ∨ j = lb)) : LoX n0 w0 X nb lb W' :=
  ⟨h.b.grown hg (Nat.le_trans h.n h.size) (fun j hj => (hr j hj).1), fun k hk h1 h2 h3 => (hg.block k (Nat.lt_of_lt_of_le hk h.size) (fun e => by
    rcases (hr k e.symm).2 with h | h | h
    · exact h1 h
    · exact h2 h
    · exact h3 h)).trans (h.k k hk h1 h2 h3), h.n⟩
theorem LoX.setCell {n0 : Nat} {w0 : World} {X nb lb : Nat} {W : World} {p : Addr} (h : LoX n0 w0 X nb lb W) (hp : n0 ≤ p.block ∧ (p.block = X ∨ p.block = nb ∨ p.block = lb)) (u : Value) : LoX n0 w0 X nb lb (W.setCell p u) :=
  ⟨h.b.setCell hp.1 u, fun k hk h1 h2 h3 => (Below.heap_setCell W p u k (fun e => by
    subst e
    rcases hp.2 with h | h | h
    · exact h1 h
    · exact h2 h
    · exact h3 h)).trans (h.k k hk h1 h2 h3), h.n⟩
theorem LoX.drew {n0 : Nat} {w0 : World} {X nb lb : Nat} {W : World} (h : LoX n0 w0 X nb lb W) : LoX n0 w0 X nb lb W.drew := ⟨below_drew1 h.b, h.k, h.n⟩
structure Ch (n0 : Nat) (w0 : World) (X nb lb sn sl : Nat) (fn fl : Int → Option Int) (L : List Int) (W : World) : Prop where
  x : Four X nb lb (.int .i64 (L.headD 0)) (.bool (!L.isEmpty)) W
  mn : MapI W nb sn fn
  ml : MapI W lb sl fl
  g : Good L fn fl
  lo : LoX n0 w0 X nb lb W
  bx : n0 ≤ X ∧ (X = X ∨ X = nb ∨ X = lb)
  bn : n0 ≤ nb ∧ (nb = X ∨ nb = nb ∨ nb = lb)
  bl : n0 ≤ lb ∧ (lb = X ∨ lb = nb ∨ lb = lb)
  ne : nb ≠ lb
  sn : sn ≤ 2 * L.length
  sl : sl ≤ 3 * L.length
  wf : ∀ y ∈ L, (Lit.int .i64 y).wf = true
theorem Ch.xn {n0 : Nat} {w0 : World} {X nb lb sn sl : Nat} {fn fl : Int → Option Int} {L : List Int} {W : World} (h : Ch n0 w0 X nb lb sn sl fn fl L W) : X ≠ nb := fun e => h.mn.noCells (e ▸ h.x)
theorem Ch.xl {n0 : Nat} {w0 : World} {X nb lb sn sl : Nat} {fn fl : Int → Option Int} {L : List Int} {W : World} (h : Ch n0 w0 X nb lb sn sl fn fl L W) : X ≠ lb := fun e => h.ml.noCells (e ▸ h.x)
def ChainAt (n0 : Nat) (w0 : World) (X nb lb : Nat) (L : List Int) (W : World) : Prop := ∃ sn sl fn fl, Ch n0 w0 X nb lb sn sl fn fl L W
theorem look_any {w : World} {m sz : Nat} {f : Int → Option Int} (H : MapI w m sz f) {y : Int} (hy : (Lit.int .i64 y).wf = true) : Sem.run Try.prog (Instr.lookup 32 (.map (some m)) (.int .i64 y) false) w = .ok (.int .i64 ((f y).getD 0)) w := by
  obtain ⟨D, hown, hs, hD, hf⟩ := H
  obtain ⟨c, hrun, hat, hwc⟩ := hown.lookup_int lawI Try.underlying32 Try.underlying3 (zeroI _) (keyI hy)
  have h := (hf y).2
  rw [hat] at h
  injection h with h1
  injection h1 with h1 h2
  subst h2
  exact hrun
theorem look_wf {w : World} {m sz : Nat} {f : Int → Option Int} (H : MapI w m sz f) {y : Int} (hy : (Lit.int .i64 y).wf = true) : (Lit.int .i64 ((f y).getD 0)).wf = true := by
  obtain ⟨D, hown, hs, hD, hf⟩ := H
  obtain ⟨c, hrun, hat, hwc⟩ := hown.lookup_int lawI Try.underlying32 Try.underlying3 (zeroI _) (keyI hy)
  have h := (hf y).2
  rw [hat] at h
  injection h with h1
  injection h1 with h1 h2
  subst h2
  exact hwc
set_option maxRecDepth 100000 in
theorem in_calls (n0 : Nat) (w0 : World) (X nb lb : Nat) (L : List Int) (x : Int) (W : World) (h : ChainAt n0 w0 X nb lb L W) (hx : (Lit.int .i64 x).wf = true) :
    Calls Try.prog 19 #[.pointer (some ⟨X, 0, none⟩), .int .i64 x] W fun e w' => e = .returned (.bool (decide (x ∈ L))) ∧ w' = W := by
  obtain ⟨sn, sl, fn, fl, h⟩ := h
  have hl := look_any h.ml hx
  rw [h.g.last] at hl
  obtain ⟨c0, c1, c2, c3⟩ := h.x.c
  obtain ⟨q, hq⟩ : ∃ q, lastV L x = q := ⟨_, rfl⟩
  have hq2 : (0 < q) ↔ x ∈ L := by
    rw [← hq]; unfold lastV
    by_cases h1 : x ∈ L
    · rw [if_pos h1]; split <;> simp [h1]
    · rw [if_neg h1]; simp [h1]
  have HQ := Aside0.mk hq2
  rw [hq] at hl
  clear h hq hq2
  go_enter Try.func19, Try.ntmps19
  go_wp2
  go_ret
  exact ⟨by simp [HQ.out], rfl⟩
set_option maxRecDepth 100000 in
set_option maxHeartbeats 800000 in
theorem put_empty (n0 : Nat) (w0 : World) (X nb lb : Nat) (x a : Int) (fr : Bool) (W : World) (h : ChainAt n0 w0 X nb lb [] W) (hx : (Lit.int .i64 x).wf = true) :
    Calls Try.prog 20 #[.pointer (some ⟨X, 0, none⟩), .int .i64 x, .int .i64 a, .bool fr] W fun e w' => e = .returned (.tuple #[]) ∧ ChainAt n0 w0 X nb lb [x] w' := by
  obtain ⟨sn, sl, fn, fl, h⟩ := h
  have H := Aside0.mk h
  obtain ⟨c0, c1, c2, c3⟩ := h.x.c
  have hsl := h.sl
  have hsn := h.sn
  simp at hsl hsn
  subst hsl hsn
  have hm0 := Aside0.mk h.ml
  clear h
  go_enter Try.func20, Try.ntmps20
  go_wp2_with (first
    | (at_mapUpdate; refine store_arm lawI Try.underlying32 Try.underlying3 rfl _ _ _ rfl _ _ _ rfl hm0.out (by decide) _ _ rfl (keyI hx) _ rfl (by decide) ?_; intro w1 hm1_ hg1_; have hm1 := Aside0.mk hm1_; have hg1 := Aside0.mk hg1_; have X1 := Aside0.mk (H.out.x.kept hg1_ H.out.xl); obtain ⟨d0, d1, d2, d3⟩ := X1.out.c; obtain ⟨f2, f3⟩ := X1.out.f; have X2 := Aside0.mk ((X1.out.set2 (.int .i64 x)).set3 (.bool true)); obtain ⟨e0, e1, e2, e3⟩ := X2.out.c; have f23 := (X1.out.set2 (.int .i64 x)).f.2; have d23 := (X1.out.set2 (.int .i64 x)).c.2.2.2; have hm2 := Aside0.mk ((hm1_.setCell (a := ⟨X, 2, none⟩) (Ne.symm H.out.xl) (.int .i64 x)).setCell (a := ⟨X, 3, none⟩) (Ne.symm H.out.xl) (.bool true)); clear hm1_ hg1_ c0 c1 c2 c3)
    | (at_mapUpdate; refine store_arm lawI Try.underlying32 Try.underlying3 rfl _ _ _ rfl _ _ _ rfl hm2.out (by have := grow_le fl x 0; unfold maxLen; omega) _ _ rfl (keyI hx) _ rfl (by decide) ?_; intro w2 hm3_ hg2_; have hm3 := Aside0.mk hm3_; have hg2 := Aside0.mk hg2_; clear hm3_ hg2_))
  go_end0
  refine ⟨rfl, 0, _, fn, _, ⟨X2.out.kept hg2.out H.out.xl, ?_, hm3.out, good_one H.out.g, ?_, H.out.bx, H.out.bn, H.out.bl, H.out.ne, Nat.zero_le _, ?_, ?_⟩⟩
  · exact (((H.out.mn.kept hg1.out (by simpa using H.out.ne)).setCell (a := ⟨X, 2, none⟩) (Ne.symm H.out.xn) _).setCell (a := ⟨X, 3, none⟩) (Ne.symm H.out.xn) _).kept hg2.out (by simpa using H.out.ne)
  · have q1 : LoX n0 w0 X nb lb w1 := H.out.lo.grown hg1.out H.out.lo.size (fun j hj => by cases hj; exact H.out.bl)
    have q2 : LoX n0 w0 X nb lb ((w1.setCell ⟨X, 2, none⟩ (.int .i64 x)).setCell ⟨X, 3, none⟩ (.bool true)) := (q1.setCell (by exact H.out.bx) _).setCell (by exact H.out.bx) _
    exact q2.grown hg2.out q2.size (fun j hj => by cases hj; exact H.out.bl)
  · have h1 := grow_le fl x 0
    have h2 := grow_le (upd fl x 1) x (grow fl x 0)
    show _ ≤ 3 * 1
    omega
  · intro y hy
    rw [List.mem_singleton.1 hy]; exact hx
set_option maxRecDepth 100000 in
set_option maxHeartbeats 2000000 in
theorem put_end (n0 : Nat) (w0 : World) (X nb lb : Nat) (x a : Int) (L : List Int) (W : World) (h : ChainAt n0 w0 X nb lb L W) (hx : (Lit.int .i64 x).wf = true) (hxL : x ∉ L) (ha : L.getLast? = some a) (hlen : L.length ≤ 1000) :
    Calls Try.prog 20 #[.pointer (some ⟨X, 0, none⟩), .int .i64 x, .int .i64 a, .bool false] W fun e w' => e = .returned (.tuple #[]) ∧ ChainAt n0 w0 X nb lb (insB L a x) w' := by
  obtain ⟨sn, sl, fn, fl, h⟩ := h
  have H := Aside0.mk h
  obtain ⟨c0, c1, c2, c3⟩ := h.x.c
  have hsl := h.sl
  have hsn := h.sn
  have haL := List.mem_of_getLast? ha
  have hwa := h.wf a haL
  have hne : (!L.isEmpty) = true := by cases L with | nil => simp at ha | cons c r => rfl
  rw [hne] at c3
  have hxa : a ≠ x := fun e => hxL (e ▸ haL)
  have hl2 : (upd fl x 1 a).getD 0 = 2 := by
    rw [upd_ne hxa, h.g.last]; unfold lastV; rw [if_pos haL, if_pos ha]
  have HL2 := Aside0.mk hl2
  have hm0 := Aside0.mk h.ml
  have HXA := Aside0.mk (And.intro hxL (And.intro ha hne))
  clear h hl2 hxL ha hne haL
  go_enter Try.func20, Try.ntmps20
  go_wp2_with (first
    | (at_mapUpdate; refine store_arm lawI Try.underlying32 Try.underlying3 rfl _ _ _ rfl lb _ _ rfl hm0.out (by unfold maxLen; omega) _ _ rfl (keyI hx) _ rfl (by decide) ?_; intro w1 hm1_ hg1_; have hm1 := Aside0.mk hm1_; have hg1 := Aside0.mk hg1_; have X1 := Aside0.mk (H.out.x.kept hg1_ H.out.xl); obtain ⟨d0, d1, d2, d3⟩ := X1.out.c; rw [HXA.out.2.2] at d3; have hlk := look_any hm1_ hwa; rw [HL2.out] at hlk; have hm2 := Aside0.mk (H.out.mn.kept hg1_ (by simpa using H.out.ne)); clear hm1_ hg1_ c0 c1 c2 c3)
    | (at_mapUpdate; refine store_arm lawI Try.underlying32 Try.underlying3 rfl _ _ _ rfl nb _ _ rfl hm2.out (by unfold maxLen; omega) _ _ rfl (keyI hwa) _ rfl hx ?_; intro w2 hm3_ hg2_; have hm3 := Aside0.mk hm3_; have hg2 := Aside0.mk hg2_; have X2 := Aside0.mk (X1.out.kept hg2_ H.out.xn); obtain ⟨e0, e1, e2, e3⟩ := X2.out.c; have hm4 := Aside0.mk (hm1.out.kept hg2_ (by simpa using Ne.symm H.out.ne)); clear hm3_ hg2_ hlk d0 d1 d2 d3))
  have hh0 : w2.cell? ⟨X, 1, none⟩ = some (.map (some lb)) ∧ w2.cell? ⟨X, 0, none⟩ = some (.map (some nb)) := ⟨e1, e0⟩
  refine start_ (n := 16) (S := fun w' => w'.cell? ⟨X, 1, none⟩ = some (.map (some lb)) ∧ w'.cell? ⟨X, 0, none⟩ = some (.map (some nb))) (ds := [15]) #[false, false, false, false, false, false, false, false, false, false, false, false, false, false, false, false] (by kernel_rfl) rfl rfl hh0 (fun hHeld => ?_)
  have X3 := Aside0.mk (show Four X nb lb (.int .i64 (L.headD 0)) (.bool (!L.isEmpty)) w2.drew from X2.out)
  have m3 := Aside0.mk hm3.out.drew
  have l3 := Aside0.mk hm4.out.drew
  have q3 := Aside0.mk (LoX.drew ((H.out.lo.grown hg1.out H.out.lo.size (fun j hj => by cases hj; exact H.out.bl)).grown hg2.out (Nat.le_trans H.out.lo.size hg1.out.size) (fun j hj => by cases hj; exact H.out.bn)))
  clear hh0 e0 e1 e2 e3 X2 hm3 hm4
  generalize w2.drew = W3 at hHeld X3 m3 l3 q3 ⊢
  refine pure_ (i := 0) (N := some 83) (v := ?_) (a' := ?_) #[true, false, false, false, false, false, false, false, false, false, false, false, false, false, false, false] rfl rfl (by kernel_rfl) (fun _ _ _ h => h) (Or.inl ⟨by rfl, ?_⟩) ?_ ?_
  rotate_left
  · intro w'
    go_simp
    with_reducible rfl
  rotate_left
  · simp only [Act.put, List.setIfInBounds_toArray, List.set_cons_zero, List.set_cons_succ]
    rfl
  refine pure_ (i := 1) (N := some 84) (v := ?_) (a' := ?_) #[true, true, false, false, false, false, false, false, false, false, false, false, false, false, false, false] rfl rfl (by kernel_rfl) (fun _ _ _ h => h) (Or.inl ⟨by rfl, ?_⟩) ?_ ?_
  rotate_left
  · intro w'
    go_simp
    with_reducible rfl
  rotate_left
  · simp only [Act.put, List.setIfInBounds_toArray, List.set_cons_zero, List.set_cons_succ]
    rfl
  refine pure_ (i := 2) (N := some 85) (v := ?_) (a' := ?_) #[true, true, true, false, false, false, false, false, false, false, false, false, false, false, false, false] rfl rfl (by kernel_rfl) (fun _ _ _ h => h) (Or.inl ⟨by rfl, ?_⟩) ?_ ?_
  rotate_left
  · intro w'
    go_simp
    with_reducible rfl
  rotate_left
  · simp only [Act.put, List.setIfInBounds_toArray, List.set_cons_zero, List.set_cons_succ]
    rfl
  refine pure_ (i := 4) (N := some 87) (v := ?_) (a' := ?_) #[true, true, true, false, true, false, false, false, false, false, false, false, false, false, false, false] rfl rfl (by kernel_rfl) (fun _ _ _ h => h) (Or.inl ⟨by rfl, ?_⟩) ?_ ?_
  rotate_left
  · intro w'
    go_simp
    with_reducible rfl
  rotate_left
  · simp only [Act.put, List.setIfInBounds_toArray, List.set_cons_zero, List.set_cons_succ]
    rfl
  refine pure_ (i := 5) (N := some 88) (v := ?_) (a' := ?_) #[true, true, true, false, true, true, false, false, false, false, false, false, false, false, false, false] rfl rfl (by kernel_rfl) (fun _ _ _ h => h) (Or.inl ⟨by rfl, ?_⟩) ?_ ?_
  rotate_left
  · intro w'
    go_simp
    with_reducible rfl
  rotate_left
  · simp only [Act.put, List.setIfInBounds_toArray, List.set_cons_zero, List.set_cons_succ]
    rfl
  refine pure_ (i := 6) (N := some 89) (v := ?_) (a' := ?_) #[true, true, true, false, true, true, true, false, false, false, false, false, false, false, false, false] rfl rfl (by kernel_rfl) (fun _ _ _ h => h) (Or.inl ⟨by rfl, ?_⟩) ?_ ?_
  rotate_left
  · intro w'
    go_simp
    with_reducible rfl
  rotate_left
  · simp only [Act.put, List.setIfInBounds_toArray, List.set_cons_zero, List.set_cons_succ]
    rfl
  refine pure_ (i := 7) (N := some 90) (v := ?_) (a' := ?_) #[true, true, true, false, true, true, true, true, false, false, false, false, false, false, false, false] rfl rfl (by kernel_rfl) (fun _ _ _ h => h) (Or.inl ⟨by rfl, ?_⟩) ?_ ?_
  rotate_left
  · intro w'
    go_simp
    with_reducible rfl
  rotate_left
  · simp only [Act.put, List.setIfInBounds_toArray, List.set_cons_zero, List.set_cons_succ]
    rfl
  refine pure_ (i := 9) (N := some 92) (v := ?_) (a' := ?_) #[true, true, true, false, true, true, true, true, false, true, false, false, false, false, false, false] rfl rfl (by kernel_rfl) (fun _ _ _ h => h) (Or.inl ⟨by rfl, ?_⟩) ?_ ?_
  rotate_left
  · intro w'
    go_simp
    with_reducible rfl
  rotate_left
  · simp only [Act.put, List.setIfInBounds_toArray, List.set_cons_zero, List.set_cons_succ]
    rfl
  refine take_ (i := 3) (N := some 86) (v := ?_) (a' := ?_) #[true, true, true, true, true, true, true, true, false, true, false, false, false, false, false, false] rfl rfl (by kernel_rfl) (fun _ _ _ h => h) (Or.inl ⟨by rfl, ?_⟩) hHeld ?_ ?_
  rotate_left
  · rintro w' ⟨s0, s1⟩
    go_simp
    with_reducible rfl
  rotate_left
  · simp only [Act.put, List.setIfInBounds_toArray, List.set_cons_zero, List.set_cons_succ]
    rfl
  refine take_ (i := 8) (N := some 91) (v := ?_) (a' := ?_) #[true, true, true, true, true, true, true, true, true, true, false, false, false, false, false, false] rfl rfl (by kernel_rfl) (fun _ _ _ h => h) (Or.inl ⟨by rfl, ?_⟩) hHeld ?_ ?_
  rotate_left
  · rintro w' ⟨s0, s1⟩
    go_simp
    with_reducible rfl
  rotate_left
  · simp only [Act.put, List.setIfInBounds_toArray, List.set_cons_zero, List.set_cons_succ]
    rfl
  refine one_ (i := 10) (N := some 93) #[true, true, true, true, true, true, true, true, true, true, true, false, false, false, false, false] rfl rfl (by kernel_rfl) (by decide) (fun K hK => ?_)
  obtain ⟨st1, o1, r1, b1, k1, d1⟩ := l3.out.entry lawI Try.underlying32 Try.underlying3 zeroI (by have := grow_le fl x sl; unfold maxLen; omega) (keyI hwa)
  refine val_step (v := .tuple #[.int .i64 ((upd fl x 1 a).getD 0), goInt st1]) (w1 := setBlock W3 lb o1) rfl rfl ?hr ?_
  case hr => first | (go_simp; done) | (go_simp; rfl)
  have X4 := Aside0.mk (X3.out.kept (grownBy_setBlock W3 lb o1) H.out.xl)
  have m4 := Aside0.mk (m3.out.kept (grownBy_setBlock W3 lb o1) (by simpa using H.out.ne))
  have q4 := Aside0.mk (q3.out.grown (grownBy_setBlock W3 lb o1) q3.out.size (fun j hj => by cases hj; exact H.out.bl))
  obtain ⟨o2, r2, k2⟩ := d1 _ 1 (by decide) b1
  simp only [goInt] at r2
  clear X3 m3 l3 q3 d1 k1 r1
  refine hK.out _ _ ⟨X4.out.c.2.1, X4.out.c.1⟩ (fun hHeld => ?_)
  clear hK K
  refine norm_ (a' := ?_) ?_ ?_
  rotate_left
  · show Act.put _ (some 93) _ = _
    simp only [Act.put, List.setIfInBounds_toArray, List.set_cons_zero, List.set_cons_succ]
    rfl
  refine pure_ (i := 11) (N := some 94) (v := ?_) (a' := ?_) #[true, true, true, true, true, true, true, true, true, true, true, true, false, false, false, false] rfl rfl (by kernel_rfl) (fun _ _ _ h => h) (Or.inl ⟨by rfl, ?_⟩) ?_ ?_
  rotate_left
  · intro w'
    go_simp
    with_reducible rfl
  rotate_left
  · simp only [Act.put, List.setIfInBounds_toArray, List.set_cons_zero, List.set_cons_succ]
    rfl
  refine one_ (i := 12) (N := none) #[true, true, true, true, true, true, true, true, true, true, true, true, true, false, false, false] rfl rfl (by kernel_rfl) (by decide) (fun K hK => ?_)
  refine skip_ (w1 := setBlock (setBlock W3 lb o1) lb o2) rfl rfl ?hr2 ?_
  case hr2 => first | (go_simp; done) | (go_simp; rfl)
  have X5 := Aside0.mk (X4.out.kept (grownBy_setBlock _ lb o2) H.out.xl)
  have m5 := Aside0.mk (m4.out.kept (grownBy_setBlock _ lb o2) (by simpa using H.out.ne))
  have q5 := Aside0.mk (q4.out.grown (grownBy_setBlock _ lb o2) q4.out.size (fun j hj => by cases hj; exact H.out.bl))
  have l5 := Aside0.mk k2
  refine hK.out _ _ ⟨X5.out.c.2.1, X5.out.c.1⟩ (fun hHeld => ?_)
  clear hK K X4 m4 q4 r2 k2 b1
  generalize setBlock (setBlock W3 lb o1) lb o2 = W5 at hHeld X5 m5 q5 l5 ⊢
  refine one_ (i := 13) (N := some 95) #[true, true, true, true, true, true, true, true, true, true, true, true, true, true, false, false] rfl rfl (by kernel_rfl) (by decide) (fun K hK => ?_)
  obtain ⟨st2, o3, r3, b3, k3, d3⟩ := l5.out.entry lawI Try.underlying32 Try.underlying3 zeroI (by have := grow_le fl x sl; have := grow_le (upd fl x 1) a (grow fl x sl); unfold maxLen; omega) (keyI hx)
  refine val_step (v := .tuple #[.int .i64 ((upd (upd fl x 1) a 1 x).getD 0), goInt st2]) (w1 := setBlock W5 lb o3) rfl rfl ?hr ?_
  case hr => first | (go_simp; done) | (go_simp; rfl)
  have X6 := Aside0.mk (X5.out.kept (grownBy_setBlock W5 lb o3) H.out.xl)
  have m6 := Aside0.mk (m5.out.kept (grownBy_setBlock W5 lb o3) (by simpa using H.out.ne))
  have q6 := Aside0.mk (q5.out.grown (grownBy_setBlock W5 lb o3) q5.out.size (fun j hj => by cases hj; exact H.out.bl))
  obtain ⟨o4, r4, k4⟩ := d3 _ 2 (by decide) b3
  simp only [goInt] at r4
  clear X5 m5 l5 q5 d3 k3 r3
  refine hK.out _ _ ⟨X6.out.c.2.1, X6.out.c.1⟩ (fun hHeld => ?_)
  clear hK K
  refine norm_ (a' := ?_) ?_ ?_
  rotate_left
  · show Act.put _ (some 95) _ = _
    simp only [Act.put, List.setIfInBounds_toArray, List.set_cons_zero, List.set_cons_succ]
    rfl
  refine pure_ (i := 14) (N := some 96) (v := ?_) (a' := ?_) #[true, true, true, true, true, true, true, true, true, true, true, true, true, true, true, false] rfl rfl (by kernel_rfl) (fun _ _ _ h => h) (Or.inl ⟨by rfl, ?_⟩) ?_ ?_
  rotate_left
  · intro w'
    go_simp
    with_reducible rfl
  rotate_left
  · simp only [Act.put, List.setIfInBounds_toArray, List.set_cons_zero, List.set_cons_succ]
    rfl
  refine last_ (i := 15) (N := none) #[true, true, true, true, true, true, true, true, true, true, true, true, true, true, true, true] rfl rfl (by kernel_rfl) (by decide) (fun K hK => ?_)
  refine skip_ (w1 := setBlock (setBlock W5 lb o3) lb o4) rfl rfl ?hr2 ?_
  case hr2 => first | (go_simp; done) | (go_simp; rfl)
  have X7 := Aside0.mk (X6.out.kept (grownBy_setBlock _ lb o4) H.out.xl)
  have m7 := Aside0.mk (m6.out.kept (grownBy_setBlock _ lb o4) (by simpa using H.out.ne))
  have q7 := Aside0.mk (q6.out.grown (grownBy_setBlock _ lb o4) q6.out.size (fun j hj => by cases hj; exact H.out.bl))
  have l7 := Aside0.mk k4
  refine hK.out _ _ ?_
  clear hK K X6 m6 q6 r4 k4 b3 hHeld
  generalize setBlock (setBlock W5 lb o3) lb o4 = W7 at X7 m7 q7 l7 ⊢
  refine done_ (by kernel_rfl) ?_
  go_wp2
  go_end0
  have hgl := HXA.out
  refine ⟨rfl, _, _, _, _, ⟨?_, m7.out, l7.out, good_end H.out.g HXA.out.1 HXA.out.2.1, q7.out, H.out.bx, H.out.bn, H.out.bl, H.out.ne, ?_, ?_, ?_⟩⟩
  · have h := X7.out
    rw [← (insB_head' (x := x) (List.mem_of_getLast? HXA.out.2.1)).1, ← (insB_head' (x := x) (List.mem_of_getLast? HXA.out.2.1)).2] at h
    exact h
  · have h1 := grow_le fn a sn
    rw [insB_len (List.mem_of_getLast? HXA.out.2.1)]
    omega
  · have h1 := grow_le fl x sl
    have h2 := grow_le (upd fl x 1) a (grow fl x sl)
    have h3 := grow_le (upd (upd fl x 1) a 1) x (grow (upd fl x 1) a (grow fl x sl))
    rw [insB_len (List.mem_of_getLast? HXA.out.2.1)]
    omega
  · intro y hy
    rcases insB_mem (List.mem_of_getLast? HXA.out.2.1) hy with rfl | h
    · exact hx
    · exact H.out.wf y h
set_option maxRecDepth 100000 in
set_option maxHeartbeats 2000000 in
theorem put_front (n0 : Nat) (w0 : World) (X nb lb : Nat) (x a c : Int) (L : List Int) (W : World) (h : ChainAt n0 w0 X nb lb (c :: L) W) (hx : (Lit.int .i64 x).wf = true) (hxL : x ∉ c :: L) (hlen : L.length ≤ 1000) :
    Calls Try.prog 20 #[.pointer (some ⟨X, 0, none⟩), .int .i64 x, .int .i64 a, .bool true] W fun e w' => e = .returned (.tuple #[]) ∧ ChainAt n0 w0 X nb lb (x :: c :: L) w' := by
  obtain ⟨sn, sl, fn, fl, h⟩ := h
  have H := Aside0.mk h
  have hx4 : Four X nb lb (.int .i64 c) (.bool true) W := h.x
  have HX4 := Aside0.mk hx4
  obtain ⟨c0, c1, c2, c3⟩ := hx4.c
  have hsl : sl ≤ 3 * (L.length + 1) := h.sl
  have hsn : sn ≤ 2 * (L.length + 1) := h.sn
  have hwc := h.wf c (by simp)
  have hm0 := Aside0.mk h.ml
  have HXA := Aside0.mk hxL
  clear h hxL hx4
  go_enter Try.func20, Try.ntmps20
  go_wp2_with (first
    | (at_mapUpdate; refine store_arm lawI Try.underlying32 Try.underlying3 rfl _ _ _ rfl lb _ _ rfl hm0.out (by unfold maxLen; omega) _ _ rfl (keyI hx) _ rfl (by decide) ?_; intro w1 hm1_ hg1_; have hm1 := Aside0.mk hm1_; have hg1 := Aside0.mk hg1_; have X1 := Aside0.mk (HX4.out.kept hg1_ H.out.xl); obtain ⟨d0, d1, d2, d3⟩ := X1.out.c; have hm2 := Aside0.mk (H.out.mn.kept hg1_ (by simpa using H.out.ne)); clear hm1_ hg1_ c0 c1 c2 c3))
  have hh0 : w1.cell? ⟨X, 0, none⟩ = some (.map (some nb)) ∧ w1.cell? ⟨X, 2, none⟩ = some (.int .i64 c) := ⟨d0, d2⟩
  refine start_ (n := 17) (S := fun w' => w'.cell? ⟨X, 0, none⟩ = some (.map (some nb)) ∧ w'.cell? ⟨X, 2, none⟩ = some (.int .i64 c)) (ds := [16]) #[false, false, false, false, false, false, false, false, false, false, false, false, false, false, false, false, false] (by kernel_rfl) rfl rfl hh0 (fun hHeld => ?_)
  have X3 := Aside0.mk (show Four X nb lb (.int .i64 c) (.bool true) w1.drew from X1.out)
  have m3 := Aside0.mk hm2.out.drew
  have l3 := Aside0.mk hm1.out.drew
  have q3 := Aside0.mk (LoX.drew (H.out.lo.grown hg1.out H.out.lo.size (fun j hj => by cases hj; exact H.out.bl)))
  clear hh0 d0 d1 d2 d3 X1 hm1 hm2
  generalize w1.drew = W3 at hHeld X3 m3 l3 q3 ⊢
  refine pure_ (i := 0) (N := some 54) (v := ?_) (a' := ?_) #[true, false, false, false, false, false, false, false, false, false, false, false, false, false, false, false, false] rfl rfl (by kernel_rfl) (fun _ _ _ h => h) (Or.inl ⟨by rfl, ?_⟩) ?_ ?_
  rotate_left
  · intro w'
    go_simp
    with_reducible rfl
  rotate_left
  · simp only [Act.put, List.setIfInBounds_toArray, List.set_cons_zero, List.set_cons_succ]
    rfl
  refine pure_ (i := 1) (N := some 55) (v := ?_) (a' := ?_) #[true, true, false, false, false, false, false, false, false, false, false, false, false, false, false, false, false] rfl rfl (by kernel_rfl) (fun _ _ _ h => h) (Or.inl ⟨by rfl, ?_⟩) ?_ ?_
  rotate_left
  · intro w'
    go_simp
    with_reducible rfl
  rotate_left
  · simp only [Act.put, List.setIfInBounds_toArray, List.set_cons_zero, List.set_cons_succ]
    rfl
  refine pure_ (i := 2) (N := some 56) (v := ?_) (a' := ?_) #[true, true, true, false, false, false, false, false, false, false, false, false, false, false, false, false, false] rfl rfl (by kernel_rfl) (fun _ _ _ h => h) (Or.inl ⟨by rfl, ?_⟩) ?_ ?_
  rotate_left
  · intro w'
    go_simp
    with_reducible rfl
  rotate_left
  · simp only [Act.put, List.setIfInBounds_toArray, List.set_cons_zero, List.set_cons_succ]
    rfl
  refine pure_ (i := 4) (N := some 58) (v := ?_) (a' := ?_) #[true, true, true, false, true, false, false, false, false, false, false, false, false, false, false, false, false] rfl rfl (by kernel_rfl) (fun _ _ _ h => h) (Or.inl ⟨by rfl, ?_⟩) ?_ ?_
  rotate_left
  · intro w'
    go_simp
    with_reducible rfl
  rotate_left
  · simp only [Act.put, List.setIfInBounds_toArray, List.set_cons_zero, List.set_cons_succ]
    rfl
  refine pure_ (i := 5) (N := some 59) (v := ?_) (a' := ?_) #[true, true, true, false, true, true, false, false, false, false, false, false, false, false, false, false, false] rfl rfl (by kernel_rfl) (fun _ _ _ h => h) (Or.inl ⟨by rfl, ?_⟩) ?_ ?_
  rotate_left
  · intro w'
    go_simp
    with_reducible rfl
  rotate_left
  · simp only [Act.put, List.setIfInBounds_toArray, List.set_cons_zero, List.set_cons_succ]
    rfl
  refine pure_ (i := 6) (N := some 60) (v := ?_) (a' := ?_) #[true, true, true, false, true, true, true, false, false, false, false, false, false, false, false, false, false] rfl rfl (by kernel_rfl) (fun _ _ _ h => h) (Or.inl ⟨by rfl, ?_⟩) ?_ ?_
  rotate_left
  · intro w'
    go_simp
    with_reducible rfl
  rotate_left
  · simp only [Act.put, List.setIfInBounds_toArray, List.set_cons_zero, List.set_cons_succ]
    rfl
  refine pure_ (i := 7) (N := some 61) (v := ?_) (a' := ?_) #[true, true, true, false, true, true, true, true, false, false, false, false, false, false, false, false, false] rfl rfl (by kernel_rfl) (fun _ _ _ h => h) (Or.inl ⟨by rfl, ?_⟩) ?_ ?_
  rotate_left
  · intro w'
    go_simp
    with_reducible rfl
  rotate_left
  · simp only [Act.put, List.setIfInBounds_toArray, List.set_cons_zero, List.set_cons_succ]
    rfl
  refine pure_ (i := 8) (N := some 62) (v := ?_) (a' := ?_) #[true, true, true, false, true, true, true, true, true, false, false, false, false, false, false, false, false] rfl rfl (by kernel_rfl) (fun _ _ _ h => h) (Or.inl ⟨by rfl, ?_⟩) ?_ ?_
  rotate_left
  · intro w'
    go_simp
    with_reducible rfl
  rotate_left
  · simp only [Act.put, List.setIfInBounds_toArray, List.set_cons_zero, List.set_cons_succ]
    rfl
  refine pure_ (i := 10) (N := some 64) (v := ?_) (a' := ?_) #[true, true, true, false, true, true, true, true, true, false, true, false, false, false, false, false, false] rfl rfl (by kernel_rfl) (fun _ _ _ h => h) (Or.inl ⟨by rfl, ?_⟩) ?_ ?_
  rotate_left
  · intro w'
    go_simp
    with_reducible rfl
  rotate_left
  · simp only [Act.put, List.setIfInBounds_toArray, List.set_cons_zero, List.set_cons_succ]
    rfl
  refine take_ (i := 3) (N := some 57) (v := ?_) (a' := ?_) #[true, true, true, true, true, true, true, true, true, false, true, false, false, false, false, false, false] rfl rfl (by kernel_rfl) (fun _ _ _ h => h) (Or.inl ⟨by rfl, ?_⟩) hHeld ?_ ?_
  rotate_left
  · rintro w' ⟨s0, s1⟩
    go_simp
    with_reducible rfl
  rotate_left
  · simp only [Act.put, List.setIfInBounds_toArray, List.set_cons_zero, List.set_cons_succ]
    rfl
  refine take_ (i := 9) (N := some 63) (v := ?_) (a' := ?_) #[true, true, true, true, true, true, true, true, true, true, true, false, false, false, false, false, false] rfl rfl (by kernel_rfl) (fun _ _ _ h => h) (Or.inl ⟨by rfl, ?_⟩) hHeld ?_ ?_
  rotate_left
  · rintro w' ⟨s0, s1⟩
    go_simp
    with_reducible rfl
  rotate_left
  · simp only [Act.put, List.setIfInBounds_toArray, List.set_cons_zero, List.set_cons_succ]
    rfl
  refine one_ (i := 11) (N := some 65) #[true, true, true, true, true, true, true, true, true, true, true, true, false, false, false, false, false] rfl rfl (by kernel_rfl) (by decide) (fun K hK => ?_)
  obtain ⟨st1, o1, r1, b1, k1, d1⟩ := m3.out.entry lawI Try.underlying32 Try.underlying3 zeroI (by unfold maxLen; omega) (keyI hx)
  refine val_step (v := .tuple #[.int .i64 ((fn x).getD 0), goInt st1]) (w1 := setBlock W3 nb o1) rfl rfl ?hr ?_
  case hr => first | (go_simp; done) | (go_simp; rfl)
  have X4 := Aside0.mk (X3.out.kept (grownBy_setBlock W3 nb o1) H.out.xn)
  have l4 := Aside0.mk (l3.out.kept (grownBy_setBlock W3 nb o1) (by simpa using Ne.symm H.out.ne))
  have q4 := Aside0.mk (q3.out.grown (grownBy_setBlock W3 nb o1) q3.out.size (fun j hj => by cases hj; exact H.out.bn))
  obtain ⟨o2, r2, k2⟩ := d1 _ c hwc b1
  simp only [goInt] at r2
  clear X3 m3 l3 q3 d1 k1 r1
  refine hK.out _ _ ⟨X4.out.c.1, X4.out.c.2.2.1⟩ (fun hHeld => ?_)
  clear hK K
  refine norm_ (a' := ?_) ?_ ?_
  rotate_left
  · show Act.put _ (some 65) _ = _
    simp only [Act.put, List.setIfInBounds_toArray, List.set_cons_zero, List.set_cons_succ]
    rfl
  refine pure_ (i := 12) (N := some 66) (v := ?_) (a' := ?_) #[true, true, true, true, true, true, true, true, true, true, true, true, true, false, false, false, false] rfl rfl (by kernel_rfl) (fun _ _ _ h => h) (Or.inl ⟨by rfl, ?_⟩) ?_ ?_
  rotate_left
  · intro w'
    go_simp
    with_reducible rfl
  rotate_left
  · simp only [Act.put, List.setIfInBounds_toArray, List.set_cons_zero, List.set_cons_succ]
    rfl
  refine one_ (i := 13) (N := none) #[true, true, true, true, true, true, true, true, true, true, true, true, true, true, false, false, false] rfl rfl (by kernel_rfl) (by decide) (fun K hK => ?_)
  refine skip_ (w1 := setBlock (setBlock W3 nb o1) nb o2) rfl rfl ?hr2 ?_
  case hr2 => first | (go_simp; done) | (go_simp; rfl)
  have X5 := Aside0.mk (X4.out.kept (grownBy_setBlock _ nb o2) H.out.xn)
  have l5 := Aside0.mk (l4.out.kept (grownBy_setBlock _ nb o2) (by simpa using Ne.symm H.out.ne))
  have q5 := Aside0.mk (q4.out.grown (grownBy_setBlock _ nb o2) q4.out.size (fun j hj => by cases hj; exact H.out.bn))
  have m5 := Aside0.mk k2
  refine hK.out _ _ ⟨X5.out.c.1, X5.out.c.2.2.1⟩ (fun hHeld => ?_)
  clear hK K X4 l4 q4 r2 k2 b1
  generalize setBlock (setBlock W3 nb o1) nb o2 = W5 at hHeld X5 m5 q5 l5 ⊢
  refine pure_ (i := 14) (N := some 67) (v := ?_) (a' := ?_) #[true, true, true, true, true, true, true, true, true, true, true, true, true, true, true, false, false] rfl rfl (by kernel_rfl) (fun _ _ _ h => h) (Or.inl ⟨by rfl, ?_⟩) ?_ ?_
  rotate_left
  · intro w'
    go_simp
    with_reducible rfl
  rotate_left
  · simp only [Act.put, List.setIfInBounds_toArray, List.set_cons_zero, List.set_cons_succ]
    rfl
  refine pure_ (i := 15) (N := some 68) (v := ?_) (a' := ?_) #[true, true, true, true, true, true, true, true, true, true, true, true, true, true, true, true, false] rfl rfl (by kernel_rfl) (fun _ _ _ h => h) (Or.inl ⟨by rfl, ?_⟩) ?_ ?_
  rotate_left
  · intro w'
    go_simp
    with_reducible rfl
  rotate_left
  · simp only [Act.put, List.setIfInBounds_toArray, List.set_cons_zero, List.set_cons_succ]
    rfl
  have g2 := X5.out.c.2.2.1
  have gf := X5.out.f.1
  refine last_ (i := 16) (N := none) #[true, true, true, true, true, true, true, true, true, true, true, true, true, true, true, true, true] rfl rfl (by kernel_rfl) (by decide) (fun K hK => ?_)
  refine skip_ (w1 := W5.setCell ⟨X, 2, none⟩ (.int .i64 x)) rfl rfl ?hr2 ?_
  case hr2 => first | (go_simp; done) | (go_simp; rfl)
  refine hK.out _ _ ?_
  clear hK K hHeld g2 gf
  refine done_ (by kernel_rfl) ?_
  go_wp2
  go_end0
  refine ⟨rfl, _, _, _, _, ⟨X5.out.set2 (.int .i64 x), m5.out.setCell (a := ⟨X, 2, none⟩) (Ne.symm H.out.xn) _, l5.out.setCell (a := ⟨X, 2, none⟩) (Ne.symm H.out.xl) _, good_front H.out.g HXA.out, q5.out.setCell (by exact H.out.bx) _, H.out.bx, H.out.bn, H.out.bl, H.out.ne, ?_, ?_, ?_⟩⟩
  · have h1 := grow_le fn x sn
    show _ ≤ 2 * (L.length + 1 + 1)
    omega
  · have h1 := grow_le fl x sl
    show _ ≤ 3 * (L.length + 1 + 1)
    omega
  · intro y hy
    rcases List.mem_cons.1 hy with rfl | h
    · exact hx
    · exact H.out.wf y h
set_option maxRecDepth 100000 in
set_option maxHeartbeats 4000000 in
theorem put_mid (n0 : Nat) (w0 : World) (X nb lb : Nat) (x a : Int) (L : List Int) (W : World) (h : ChainAt n0 w0 X nb lb L W) (hx : (Lit.int .i64 x).wf = true) (hxL : x ∉ L) (haL : a ∈ L) (ha : L.getLast? ≠ some a) (hlen : L.length ≤ 1000) :
    Calls Try.prog 20 #[.pointer (some ⟨X, 0, none⟩), .int .i64 x, .int .i64 a, .bool false] W fun e w' => e = .returned (.tuple #[]) ∧ ChainAt n0 w0 X nb lb (insB L a x) w' := by
  obtain ⟨sn, sl, fn, fl, h⟩ := h
  have H := Aside0.mk h
  obtain ⟨c0, c1, c2, c3⟩ := h.x.c
  have hsl := h.sl
  have hsn := h.sn
  have hwa := h.wf a haL
  have hne : (!L.isEmpty) = true := by cases L with | nil => simp at haL | cons c r => rfl
  rw [hne] at c3
  have hxa : a ≠ x := fun e => hxL (e ▸ haL)
  have hl2 : (upd fl x 1 a).getD 0 = 1 := by
    rw [upd_ne hxa, h.g.last]; unfold lastV; rw [if_pos haL, if_neg ha]
  obtain ⟨v, hv⟩ : ∃ v, v = (fn a).getD 0 := ⟨_, rfl⟩
  have hwv := look_wf h.mn hwa
  rw [← hv] at hwv
  have HV := Aside0.mk hv
  have HL2 := Aside0.mk hl2
  have hm0 := Aside0.mk h.ml
  have HXA := Aside0.mk (And.intro hxL (And.intro ha (And.intro hne haL)))
  clear h hl2 hxL ha hne haL hv
  go_enter Try.func20, Try.ntmps20
  go_wp2_with (first
    | (at_mapUpdate; refine store_arm lawI Try.underlying32 Try.underlying3 rfl _ _ _ rfl lb _ _ rfl hm0.out (by unfold maxLen; omega) _ _ rfl (keyI hx) _ rfl (by decide) ?_; intro w1 hm1_ hg1_; have hm1 := Aside0.mk hm1_; have hg1 := Aside0.mk hg1_; have X1 := Aside0.mk (H.out.x.kept hg1_ H.out.xl); obtain ⟨d0, d1, d2, d3⟩ := X1.out.c; rw [HXA.out.2.2.1] at d3; have hlk := look_any hm1_ hwa; rw [HL2.out] at hlk; have hm2 := Aside0.mk (H.out.mn.kept hg1_ (by simpa using H.out.ne)); clear hm1_ hg1_ c0 c1 c2 c3))
  clear hlk
  have hh0 : w1.cell? ⟨X, 0, none⟩ = some (.map (some nb)) ∧ Sem.run Try.prog (Instr.lookup 32 (.map (some nb)) (.int .i64 a) false) w1.drew = .ok (.int .i64 v) w1.drew := ⟨d0, by rw [HV.out]; exact look_any hm2.out.drew hwa⟩
  refine start_ (n := 23) (S := fun w' => w'.cell? ⟨X, 0, none⟩ = some (.map (some nb)) ∧ Sem.run Try.prog (Instr.lookup 32 (.map (some nb)) (.int .i64 a) false) w' = .ok (.int .i64 v) w') (ds := [22]) #[false, false, false, false, false, false, false, false, false, false, false, false, false, false, false, false, false, false, false, false, false, false, false] (by kernel_rfl) rfl rfl hh0 (fun hHeld => ?_)
  have X3 := Aside0.mk (show Four X nb lb (.int .i64 (L.headD 0)) (.bool (!L.isEmpty)) w1.drew from X1.out)
  have m3 := Aside0.mk hm2.out.drew
  have l3 := Aside0.mk hm1.out.drew
  have q3 := Aside0.mk (LoX.drew (H.out.lo.grown hg1.out H.out.lo.size (fun j hj => by cases hj; exact H.out.bl)))
  clear hh0 d0 d1 d2 d3 X1 hm1 hm2
  generalize w1.drew = W3 at hHeld X3 m3 l3 q3 ⊢
  refine pure_ (i := 0) (N := some 13) (v := ?_) (a' := ?_) #[true, false, false, false, false, false, false, false, false, false, false, false, false, false, false, false, false, false, false, false, false, false, false] rfl rfl (by kernel_rfl) (fun _ _ _ h => h) (Or.inl ⟨by rfl, ?_⟩) ?_ ?_
  rotate_left
  · intro w'
    go_simp
    with_reducible rfl
  rotate_left
  · simp only [Act.put, List.setIfInBounds_toArray, List.set_cons_zero, List.set_cons_succ]
    rfl
  refine pure_ (i := 1) (N := some 14) (v := ?_) (a' := ?_) #[true, true, false, false, false, false, false, false, false, false, false, false, false, false, false, false, false, false, false, false, false, false, false] rfl rfl (by kernel_rfl) (fun _ _ _ h => h) (Or.inl ⟨by rfl, ?_⟩) ?_ ?_
  rotate_left
  · intro w'
    go_simp
    with_reducible rfl
  rotate_left
  · simp only [Act.put, List.setIfInBounds_toArray, List.set_cons_zero, List.set_cons_succ]
    rfl
  refine pure_ (i := 2) (N := some 15) (v := ?_) (a' := ?_) #[true, true, true, false, false, false, false, false, false, false, false, false, false, false, false, false, false, false, false, false, false, false, false] rfl rfl (by kernel_rfl) (fun _ _ _ h => h) (Or.inl ⟨by rfl, ?_⟩) ?_ ?_
  rotate_left
  · intro w'
    go_simp
    with_reducible rfl
  rotate_left
  · simp only [Act.put, List.setIfInBounds_toArray, List.set_cons_zero, List.set_cons_succ]
    rfl
  refine pure_ (i := 4) (N := some 17) (v := ?_) (a' := ?_) #[true, true, true, false, true, false, false, false, false, false, false, false, false, false, false, false, false, false, false, false, false, false, false] rfl rfl (by kernel_rfl) (fun _ _ _ h => h) (Or.inl ⟨by rfl, ?_⟩) ?_ ?_
  rotate_left
  · intro w'
    go_simp
    with_reducible rfl
  rotate_left
  · simp only [Act.put, List.setIfInBounds_toArray, List.set_cons_zero, List.set_cons_succ]
    rfl
  refine pure_ (i := 5) (N := some 18) (v := ?_) (a' := ?_) #[true, true, true, false, true, true, false, false, false, false, false, false, false, false, false, false, false, false, false, false, false, false, false] rfl rfl (by kernel_rfl) (fun _ _ _ h => h) (Or.inl ⟨by rfl, ?_⟩) ?_ ?_
  rotate_left
  · intro w'
    go_simp
    with_reducible rfl
  rotate_left
  · simp only [Act.put, List.setIfInBounds_toArray, List.set_cons_zero, List.set_cons_succ]
    rfl
  refine pure_ (i := 6) (N := some 19) (v := ?_) (a' := ?_) #[true, true, true, false, true, true, true, false, false, false, false, false, false, false, false, false, false, false, false, false, false, false, false] rfl rfl (by kernel_rfl) (fun _ _ _ h => h) (Or.inl ⟨by rfl, ?_⟩) ?_ ?_
  rotate_left
  · intro w'
    go_simp
    with_reducible rfl
  rotate_left
  · simp only [Act.put, List.setIfInBounds_toArray, List.set_cons_zero, List.set_cons_succ]
    rfl
  refine pure_ (i := 7) (N := some 20) (v := ?_) (a' := ?_) #[true, true, true, false, true, true, true, true, false, false, false, false, false, false, false, false, false, false, false, false, false, false, false] rfl rfl (by kernel_rfl) (fun _ _ _ h => h) (Or.inl ⟨by rfl, ?_⟩) ?_ ?_
  rotate_left
  · intro w'
    go_simp
    with_reducible rfl
  rotate_left
  · simp only [Act.put, List.setIfInBounds_toArray, List.set_cons_zero, List.set_cons_succ]
    rfl
  refine pure_ (i := 9) (N := some 22) (v := ?_) (a' := ?_) #[true, true, true, false, true, true, true, true, false, true, false, false, false, false, false, false, false, false, false, false, false, false, false] rfl rfl (by kernel_rfl) (fun _ _ _ h => h) (Or.inl ⟨by rfl, ?_⟩) ?_ ?_
  rotate_left
  · intro w'
    go_simp
    with_reducible rfl
  rotate_left
  · simp only [Act.put, List.setIfInBounds_toArray, List.set_cons_zero, List.set_cons_succ]
    rfl
  refine pure_ (i := 10) (N := some 23) (v := ?_) (a' := ?_) #[true, true, true, false, true, true, true, true, false, true, true, false, false, false, false, false, false, false, false, false, false, false, false] rfl rfl (by kernel_rfl) (fun _ _ _ h => h) (Or.inl ⟨by rfl, ?_⟩) ?_ ?_
  rotate_left
  · intro w'
    go_simp
    with_reducible rfl
  rotate_left
  · simp only [Act.put, List.setIfInBounds_toArray, List.set_cons_zero, List.set_cons_succ]
    rfl
  refine pure_ (i := 11) (N := some 24) (v := ?_) (a' := ?_) #[true, true, true, false, true, true, true, true, false, true, true, true, false, false, false, false, false, false, false, false, false, false, false] rfl rfl (by kernel_rfl) (fun _ _ _ h => h) (Or.inl ⟨by rfl, ?_⟩) ?_ ?_
  rotate_left
  · intro w'
    go_simp
    with_reducible rfl
  rotate_left
  · simp only [Act.put, List.setIfInBounds_toArray, List.set_cons_zero, List.set_cons_succ]
    rfl
  refine pure_ (i := 12) (N := some 25) (v := ?_) (a' := ?_) #[true, true, true, false, true, true, true, true, false, true, true, true, true, false, false, false, false, false, false, false, false, false, false] rfl rfl (by kernel_rfl) (fun _ _ _ h => h) (Or.inl ⟨by rfl, ?_⟩) ?_ ?_
  rotate_left
  · intro w'
    go_simp
    with_reducible rfl
  rotate_left
  · simp only [Act.put, List.setIfInBounds_toArray, List.set_cons_zero, List.set_cons_succ]
    rfl
  refine pure_ (i := 14) (N := some 27) (v := ?_) (a' := ?_) #[true, true, true, false, true, true, true, true, false, true, true, true, true, false, true, false, false, false, false, false, false, false, false] rfl rfl (by kernel_rfl) (fun _ _ _ h => h) (Or.inl ⟨by rfl, ?_⟩) ?_ ?_
  rotate_left
  · intro w'
    go_simp
    with_reducible rfl
  rotate_left
  · simp only [Act.put, List.setIfInBounds_toArray, List.set_cons_zero, List.set_cons_succ]
    rfl
  refine pure_ (i := 16) (N := some 29) (v := ?_) (a' := ?_) #[true, true, true, false, true, true, true, true, false, true, true, true, true, false, true, false, true, false, false, false, false, false, false] rfl rfl (by kernel_rfl) (fun _ _ _ h => h) (Or.inl ⟨by rfl, ?_⟩) ?_ ?_
  rotate_left
  · intro w'
    go_simp
    with_reducible rfl
  rotate_left
  · simp only [Act.put, List.setIfInBounds_toArray, List.set_cons_zero, List.set_cons_succ]
    rfl
  refine take_ (i := 3) (N := some 16) (v := ?_) (a' := ?_) #[true, true, true, true, true, true, true, true, false, true, true, true, true, false, true, false, true, false, false, false, false, false, false] rfl rfl (by kernel_rfl) (fun _ _ _ h => h) (Or.inl ⟨by rfl, ?_⟩) hHeld ?_ ?_
  rotate_left
  · rintro w' ⟨s0, s1⟩
    go_simp
    with_reducible rfl
  rotate_left
  · simp only [Act.put, List.setIfInBounds_toArray, List.set_cons_zero, List.set_cons_succ]
    rfl
  refine take_ (i := 8) (N := some 21) (v := ?_) (a' := ?_) #[true, true, true, true, true, true, true, true, true, true, true, true, true, false, true, false, true, false, false, false, false, false, false] rfl rfl (by kernel_rfl) (fun _ _ _ h => h) (Or.inl ⟨by rfl, ?_⟩) hHeld ?_ ?_
  rotate_left
  · rintro w' ⟨s0, s1⟩
    go_simp
    with_reducible rfl
  rotate_left
  · simp only [Act.put, List.setIfInBounds_toArray, List.set_cons_zero, List.set_cons_succ]
    rfl
  refine take_ (i := 13) (N := some 26) (v := ?_) (a' := ?_) #[true, true, true, true, true, true, true, true, true, true, true, true, true, true, true, false, true, false, false, false, false, false, false] rfl rfl (by kernel_rfl) (fun _ _ _ h => h) (Or.inl ⟨by rfl, ?_⟩) hHeld ?_ ?_
  rotate_left
  · rintro w' ⟨s0, s1⟩
    go_simp
    with_reducible rfl
  rotate_left
  · simp only [Act.put, List.setIfInBounds_toArray, List.set_cons_zero, List.set_cons_succ]
    rfl
  refine take_ (i := 15) (N := some 28) (v := ?_) (a' := ?_) #[true, true, true, true, true, true, true, true, true, true, true, true, true, true, true, true, true, false, false, false, false, false, false] rfl rfl (by kernel_rfl) (fun _ _ _ h => h) (Or.inl ⟨by rfl, ?_⟩) hHeld ?_ ?_
  rotate_left
  · rintro w' ⟨s0, s1⟩
    go_simp
    with_reducible rfl
  rotate_left
  · simp only [Act.put, List.setIfInBounds_toArray, List.set_cons_zero, List.set_cons_succ]
    rfl
  refine one_ (i := 17) (N := some 30) #[true, true, true, true, true, true, true, true, true, true, true, true, true, true, true, true, true, true, false, false, false, false, false] rfl rfl (by kernel_rfl) (by decide) (fun K hK => ?_)
  obtain ⟨st1, o1, r1, b1, k1, d1⟩ := m3.out.entry lawI Try.underlying32 Try.underlying3 zeroI (by unfold maxLen; omega) (keyI hx)
  refine val_step (v := .tuple #[.int .i64 ((fn x).getD 0), goInt st1]) (w1 := setBlock W3 nb o1) rfl rfl ?hr ?_
  case hr => first | (go_simp; done) | (go_simp; rfl)
  have X4 := Aside0.mk (X3.out.kept (grownBy_setBlock W3 nb o1) H.out.xn)
  have l4 := Aside0.mk (l3.out.kept (grownBy_setBlock W3 nb o1) (by simpa using Ne.symm H.out.ne))
  have q4 := Aside0.mk (q3.out.grown (grownBy_setBlock W3 nb o1) q3.out.size (fun j hj => by cases hj; exact H.out.bn))
  obtain ⟨o2, r2, k2⟩ := d1 _ v hwv b1
  simp only [goInt] at r2
  have hlk4 := look_any k1 hwa
  rw [upd_ne hxa, ← HV.out] at hlk4
  clear X3 m3 l3 q3 d1 k1 r1
  refine hK.out _ _ ⟨X4.out.c.1, hlk4⟩ (fun hHeld => ?_)
  clear hK K hlk4
  refine norm_ (a' := ?_) ?_ ?_
  rotate_left
  · show Act.put _ (some 30) _ = _
    simp only [Act.put, List.setIfInBounds_toArray, List.set_cons_zero, List.set_cons_succ]
    rfl
  refine pure_ (i := 18) (N := some 31) (v := ?_) (a' := ?_) #[true, true, true, true, true, true, true, true, true, true, true, true, true, true, true, true, true, true, true, false, false, false, false] rfl rfl (by kernel_rfl) (fun _ _ _ h => h) (Or.inl ⟨by rfl, ?_⟩) ?_ ?_
  rotate_left
  · intro w'
    go_simp
    with_reducible rfl
  rotate_left
  · simp only [Act.put, List.setIfInBounds_toArray, List.set_cons_zero, List.set_cons_succ]
    rfl
  refine one_ (i := 19) (N := none) #[true, true, true, true, true, true, true, true, true, true, true, true, true, true, true, true, true, true, true, true, false, false, false] rfl rfl (by kernel_rfl) (by decide) (fun K hK => ?_)
  refine skip_ (w1 := setBlock (setBlock W3 nb o1) nb o2) rfl rfl ?hr2 ?_
  case hr2 => first | (go_simp; done) | (go_simp; rfl)
  have X5 := Aside0.mk (X4.out.kept (grownBy_setBlock _ nb o2) H.out.xn)
  have l5 := Aside0.mk (l4.out.kept (grownBy_setBlock _ nb o2) (by simpa using Ne.symm H.out.ne))
  have q5 := Aside0.mk (q4.out.grown (grownBy_setBlock _ nb o2) q4.out.size (fun j hj => by cases hj; exact H.out.bn))
  have m5 := Aside0.mk k2
  have hlk5 := look_any k2 hwa
  rw [upd_ne hxa, ← HV.out] at hlk5
  refine hK.out _ _ ⟨X5.out.c.1, hlk5⟩ (fun hHeld => ?_)
  clear hK K X4 l4 q4 r2 k2 b1 hlk5
  generalize setBlock (setBlock W3 nb o1) nb o2 = W5 at hHeld X5 m5 q5 l5 ⊢
  refine one_ (i := 20) (N := some 32) #[true, true, true, true, true, true, true, true, true, true, true, true, true, true, true, true, true, true, true, true, true, false, false] rfl rfl (by kernel_rfl) (by decide) (fun K hK => ?_)
  obtain ⟨st2, o3, r3, b3, k3, d3⟩ := m5.out.entry lawI Try.underlying32 Try.underlying3 zeroI (by have := grow_le fn x sn; unfold maxLen; omega) (keyI hwa)
  refine val_step (v := .tuple #[.int .i64 ((upd fn x v a).getD 0), goInt st2]) (w1 := setBlock W5 nb o3) rfl rfl ?hr ?_
  case hr => first | (go_simp; done) | (go_simp; rfl)
  have X6 := Aside0.mk (X5.out.kept (grownBy_setBlock W5 nb o3) H.out.xn)
  have l6 := Aside0.mk (l5.out.kept (grownBy_setBlock W5 nb o3) (by simpa using Ne.symm H.out.ne))
  have q6 := Aside0.mk (q5.out.grown (grownBy_setBlock W5 nb o3) q5.out.size (fun j hj => by cases hj; exact H.out.bn))
  obtain ⟨o4, r4, k4⟩ := d3 _ x hx b3
  simp only [goInt] at r4
  have hlk6 := look_any k3 hwa
  rw [upd_same, Option.getD_some, upd_ne hxa, ← HV.out] at hlk6
  clear X5 m5 l5 q5 d3 k3 r3
  refine hK.out _ _ ⟨X6.out.c.1, hlk6⟩ (fun hHeld => ?_)
  clear hK K hlk6
  refine norm_ (a' := ?_) ?_ ?_
  rotate_left
  · show Act.put _ (some 32) _ = _
    simp only [Act.put, List.setIfInBounds_toArray, List.set_cons_zero, List.set_cons_succ]
    rfl
  refine pure_ (i := 21) (N := some 33) (v := ?_) (a' := ?_) #[true, true, true, true, true, true, true, true, true, true, true, true, true, true, true, true, true, true, true, true, true, true, false] rfl rfl (by kernel_rfl) (fun _ _ _ h => h) (Or.inl ⟨by rfl, ?_⟩) ?_ ?_
  rotate_left
  · intro w'
    go_simp
    with_reducible rfl
  rotate_left
  · simp only [Act.put, List.setIfInBounds_toArray, List.set_cons_zero, List.set_cons_succ]
    rfl
  refine last_ (i := 22) (N := none) #[true, true, true, true, true, true, true, true, true, true, true, true, true, true, true, true, true, true, true, true, true, true, true] rfl rfl (by kernel_rfl) (by decide) (fun K hK => ?_)
  refine skip_ (w1 := setBlock (setBlock W5 nb o3) nb o4) rfl rfl ?hr2 ?_
  case hr2 => first | (go_simp; done) | (go_simp; rfl)
  have X7 := Aside0.mk (X6.out.kept (grownBy_setBlock _ nb o4) H.out.xn)
  have l7 := Aside0.mk (l6.out.kept (grownBy_setBlock _ nb o4) (by simpa using Ne.symm H.out.ne))
  have q7 := Aside0.mk (q6.out.grown (grownBy_setBlock _ nb o4) q6.out.size (fun j hj => by cases hj; exact H.out.bn))
  have m7 := Aside0.mk k4
  refine hK.out _ _ ?_
  clear hK K X6 l6 q6 r4 k4 b3 hHeld
  generalize setBlock (setBlock W5 nb o3) nb o4 = W7 at X7 m7 q7 l7 ⊢
  refine done_ (by kernel_rfl) ?_
  go_wp2
  go_end0
  refine ⟨rfl, _, _, _, _, ⟨?_, m7.out, l7.out, ?_, q7.out, H.out.bx, H.out.bn, H.out.bl, H.out.ne, ?_, ?_, ?_⟩⟩
  · have h := X7.out
    rw [← (insB_head' (x := x) HXA.out.2.2.2).1, ← (insB_head' (x := x) HXA.out.2.2.2).2] at h
    exact h
  · rw [HV.out]
    exact good_ins H.out.g HXA.out.1 HXA.out.2.2.2 HXA.out.2.1
  · have h1 := grow_le fn x sn
    have h2 := grow_le (upd fn x v) a (grow fn x sn)
    rw [insB_len HXA.out.2.2.2]
    omega
  · have h1 := grow_le fl x sl
    rw [insB_len HXA.out.2.2.2]
    omega
  · intro y hy
    rcases insB_mem HXA.out.2.2.2 hy with rfl | h
    · exact hx
    · exact H.out.wf y h
theorem put_calls (n0 : Nat) (w0 : World) (X nb lb : Nat) (x a : Int) (fr : Bool) (L : List Int) (W : World) (h : ChainAt n0 w0 X nb lb L W) (hx : (Lit.int .i64 x).wf = true) (hxL : x ∉ L) (hc : L = [] ∨ fr = true ∨ a ∈ L) (hlen : L.length ≤ 1000) :
    Calls Try.prog 20 #[.pointer (some ⟨X, 0, none⟩), .int .i64 x, .int .i64 a, .bool fr] W fun e w' => e = .returned (.tuple #[]) ∧ ChainAt n0 w0 X nb lb (putL L x a fr) w' := by
  unfold putL
  cases L with
  | nil => rw [if_pos rfl]; exact put_empty n0 w0 X nb lb x a fr W h hx
  | cons c r =>
    rw [if_neg (by simp)]
    cases fr with
    | true => rw [if_pos rfl]; exact put_front n0 w0 X nb lb x a c r W h hx hxL (by simp at hlen; omega)
    | false =>
      rw [if_neg (by decide)]
      have ha : a ∈ c :: r := by simpa using hc
      by_cases hl : (c :: r).getLast? = some a
      · exact put_end n0 w0 X nb lb x a _ W h hx hxL hl hlen
      · exact put_mid n0 w0 X nb lb x a _ W h hx hxL ha hl hlen
end Go.Proofs.Ythdfgkbfjpadbaa.X
