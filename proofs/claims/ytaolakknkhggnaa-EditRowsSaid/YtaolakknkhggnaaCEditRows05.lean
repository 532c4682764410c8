/- The texts that the law EditRows0 wants, part 5 of 8: what is kept of them. -/
import Derived.WalkKit
import Derived.OwnWalk
import Derived.WalkSpells
import Derived.WalkSmall
import Derived.OneCell
import Derived.Outline
import Derived.Maps.AppendAt
import Derived.Maps.OwnSet
import Derived.Maps.OwnOps
import Derived.Maps.Views
import Derived.Deep.Draws
import Derived.ChangeArms
import Derived.ChangeSame
import Derived.WideShapes
import Derived.ProofKit
import Derived.OpenShut
import Derived.Test.YtaolakknkhggnaaChecked
import Derived.KernelRfl
import Derived.Test.YtaolakknkhggnaaCEditRows04
section
namespace Go.Proofs.Ytaolakknkhggnaa.X
open Go.RowKit Go.Maps Go.Proofs.YtaolakknkhggnaaW.PrintWords
set_option linter.unusedVariables false
set_option maxRecDepth 100000 in
set_option maxHeartbeats 1600000 in
theorem clone_calls (A : Option Addr) (c : Nat) (l : List ByteArray) (w : World) (hr : Kd.C Kd.string w A l.length l) (hc : l.length ≤ c) (hl : l.length ≤ 1000000) :
    Calls Try.prog 64 #[.slice A l.length c] w fun e w' => ∃ v : Value, e = .returned v ∧ Kd.R Kd.string 9 w' w.heap.size (fun _ => True) v l ∧ Below w.heap.size w w' := by
  rcases A with _ | ad
  · have h0 : l.length = 0 := by
      rcases Nat.eq_zero_or_pos l.length with h | h
      · exact h
      · obtain ⟨ad, e, _⟩ := hr.2.2 h; cases e
    obtain rfl := List.eq_nil_of_length_eq_zero h0
    clear hr
    have hq : ∀ W, Sem.run Try.prog (binOp .eql 22 (.slice none 0 c) (.slice none 0 0)) W = .ok (.bool true) W := fun W => Lib.run_eql_slice_nil W 22 9 none 0 c 0 0 Try.underlying22
    go_enter Try.func64, Try.ntmps64
    go_wp2
    go_ret
    exact ⟨_, rfl, Kd.R_nil _ _ _ _ _, Below.refl _ _⟩
  · have HR := Aside0.mk hr
    clear hr
    have hq : ∀ W, Sem.run Try.prog (binOp .eql 22 (.slice (some ad) l.length c) (.slice none 0 0)) W = .ok (.bool false) W := fun W => Lib.run_eql_slice_nil W 22 9 (some ad) l.length c 0 0 Try.underlying22
    go_enter Try.func64, Try.ntmps64
    go_wp2_with (first
      | ((with_reducible refine gate_dst (N := 5) rfl ?_); refine Kd.R_lit Kd.string _ 9 ?hg (N := 5) ?hd (xs := ([] : List ByteArray)) (inner := []) (ok := fun _ => True) (okp := fun _ => True) ?hr ?hp (fun _ hk => hk) trivial (Below.refl _ _) (Nat.le_refl _) (by simp) ?_; (case hd => rfl); (case hg => rfl); (case hr => first | (go_simp; done) | (go_simp; rfl)); (case hp => exact (Reps.none _ _)); intro v5 w5 ho hb hg_ hnew_; have HO := Aside0.mk ho; have HB := Aside0.mk hb; clear hg_ hnew_ ho hb)
      | (at_builtin; refine Kd.R_append_rows Kd.string (w0 := w) w.heap.size rfl (.tmp 5) (.tmp 6) 22 9 (.string ⟨#[]⟩) 16 rfl Try.underlying22 info9 rfl (by decide) (by omega) v5 [] l (some ad) l.length c (fun _ => True) (fun _ => False) rfl rfl HO.out (Kd.C_below HR.out HB.out) (fun _ _ h => h) (fun _ h => h.elim) (fun _ _ => trivial) HB.out HB.out.size (by simp; omega) ?_; intro v7 w7 ho7 hb7 hg7 hat7))
    go_ret
    exact ⟨_, rfl, ho7, hb7⟩
end Go.Proofs.Ytaolakknkhggnaa.X
end
section
namespace Go.Proofs.Ytaolakknkhggnaa.GMap
open Go.RowKit Go.WideMaps Go.Maps
/-- How keys are told: each its own literal. -/
structure Enc (α : Type) where
  lit : α → Lit
  inj : ∀ x y, lit x = lit y → x = y
  key : ∀ x, WideAt.IsKeyLit (lit x)
def encB : Enc (List UInt8) := ⟨fun s => .string s, fun _ _ h => by injection h, fun _ => by simp [WideAt.IsKeyLit]⟩
def MapO {α : Type} (P : Program) (k e : TypeId) (E : Enc α) (w : World) (b s : Nat) (f : α → Option Int) : Prop :=
  ∃ D : DataW Unit, w.ownsMap P k (plainElem P e) b s D ∧ size D = s ∧ Tidy D ∧ ∀ x, has D (E.lit x) = (f x).isSome ∧ D.atKey (E.lit x) (.lit (.int .i64 0)) = .lit (.int .i64 ((f x).getD 0))
def upd {α : Type} [DecidableEq α] (f : α → Option Int) (k : α) (v : Int) : α → Option Int := fun x => if x = k then some v else f x
def grow {α : Type} (f : α → Option Int) (k : α) (s : Nat) : Nat := if (f k).isSome then s else s + 1
theorem grow_le {α : Type} (f : α → Option Int) (k : α) (s : Nat) : grow f k s ≤ s + 1 := by unfold grow; split <;> omega
section
variable {α : Type} {P : Program} {k e : TypeId} {E : Enc α} {w w' : World} {b s : Nat} {f : α → Option Int}
theorem MapO.made (P : Program) (k e : TypeId) (E : Enc α) (w : World) : MapO P k e E (w.alloc (.map #[] 0)) w.heap.size 0 (fun _ => none) :=
  ⟨_, World.ownsMap_made _ _ _ _, rfl, tidy_empty, fun _ => ⟨rfl, rfl⟩⟩
theorem MapO.kept (h : MapO P k e E w b s f) {row : Option Nat} (hg : w.grownBy w' row) (hne : some b ≠ row) : MapO P k e E w' b s f := by
  obtain ⟨D, hown, r⟩ := h
  exact ⟨D, hown.kept hg hne, r⟩
theorem MapO.block (h : MapO P k e E w b s f) (hb : w'.heap[b]? = w.heap[b]?) : MapO P k e E w' b s f := by
  obtain ⟨D, ⟨es, clock, h1, r1⟩, r⟩ := h
  exact ⟨D, ⟨es, clock, hb.trans h1, r1⟩, r⟩
theorem MapO.lt (h : MapO P k e E w b s f) : b < w.heap.size := by
  obtain ⟨D, hown, r⟩ := h
  exact hown.lt
theorem MapO.alloc (h : MapO P k e E w b s f) (o : Obj) : MapO P k e E (w.alloc o) b s f := h.kept (World.grownBy_alloc w o none) (by simp)
theorem MapO.drew (h : MapO P k e E w b s f) : MapO P k e E w.drew b s f := h
theorem MapO.drewN (h : MapO P k e E w b s f) (n : Nat) : MapO P k e E (w.drewN n) b s f := h.block rfl
theorem MapO.below (h : MapO P k e E w b s f) (hb : Below w.heap.size w w') : MapO P k e E w' b s f := h.block (hb.block b h.lt)
theorem MapO.setCell (h : MapO P k e E w b s f) {a : Addr} (ha : b ≠ a.block) (u : Value) : MapO P k e E (w.setCell a u) b s f := by
  obtain ⟨D, hown, r⟩ := h
  exact ⟨D, hown.setCell ha u, r⟩
theorem lookup_arm {t : TypeId} {ops : Array Oper} {rest : List Oper} {o : Oper} {a : Act} {Q : Exit → Act → World → Prop} (law : Keyed P k) (ht : P.underlying t = some (.map k e)) (he : P.underlying e = some (.int .i64)) (hz : ∀ w, (zeroValue e).run P w = .ok (.int .i64 0) w)
    (hg : o.guard = none) (m x : Operand) (hop : o.op = Op.lookup t m x false)
    (b s : Nat) (f : α → Option Int) (hm : a.eval m = .map (some b)) (H : MapO P k e E w b s f) (key : Value) (y : α) (hx : a.eval x = key) (hkey : keyOf P k key = some (E.lit y))
    (hK : (Lit.int .i64 ((f y).getD 0)).wf = true → wpList P ops Q rest (a.put o.dst (.int .i64 ((f y).getD 0))) w) : wpList P ops Q (o :: rest) a w := by
  obtain ⟨D, hown, hs, hD, hf⟩ := H
  refine wpList_lookup_own_int _ hg m x t hop k e .i64 law ht he (hz _) b s D hm hown _ _ hx hkey ?_
  intro c hat hwc
  have h := (hf y).2
  rw [hat] at h
  injection h with h1
  injection h1 with h1 h2
  subst h2
  exact hK hwc
theorem store_arm [DecidableEq α] {t : TypeId} {ops : Array Oper} {rest : List Oper} {o : Oper} {a : Act} {Q : Exit → Act → World → Prop} (law : Keyed P k) (ht : P.underlying t = some (.map k e)) (he : P.underlying e = some (.int .i64))
    (hg : o.guard = none) (m x v : Operand) (hop : o.op = Op.mapUpdate t m x v)
    (b s : Nat) (f : α → Option Int) (hm : a.eval m = .map (some b)) (H : MapO P k e E w b s f) (hn : s < maxLen) (key : Value) (y : α) (hx : a.eval x = key) (hkey : keyOf P k key = some (E.lit y))
    (i : Int) (hv : a.eval v = .int .i64 i) (hi : (Lit.int .i64 i).wf = true)
    (hK : ∀ w', MapO P k e E w' b (grow f y s) (upd f y i) → w.grownBy w' (some b) → wpList P ops Q rest (a.put o.dst undef) w') : wpList P ops Q (o :: rest) a w := by
  obtain ⟨D, hown, hs, hD, hf⟩ := H
  refine wpList_mapUpdate_own _ hg m x v t hop k e law ht _ b s D hm hown hn _ _ _ hx hv hkey _ [] (plainElem_int he hi) ?_
  intro w' h1 h2
  have hsz : size (D.put (E.lit y) (.lit (.int .i64 i))) = grow f y s := by
    rw [size_put hD, (hf y).1, hs]; rfl
  refine hK w' ⟨_, ?_, hsz, hD.put (E.key y) _, fun x => ?_⟩ h2
  · obtain ⟨es, clock, q1, q2, q3, q4⟩ := h1
    refine ⟨es, clock, q1, q2, ?_, q4⟩
    have := World.ownsMap.size_le (n := es.size) ⟨es, clock, q1, q2, Nat.le_refl _, q4⟩
    have e1 : size (D.put (E.lit y) (.lit (.int .i64 i))) = es.size := by
      rw [q4]; show ((es.toList.map (WideElems.rg P k (plainElem P e))).foldr DataW.insert []).length = es.size
      exact length_read es
    omega
  · unfold upd
    by_cases e : x = y
    · subst e
      rw [if_pos rfl]
      exact ⟨has_put_same hD.isMap (E.key x) _, atKey_put_same hD.isMap (E.key x) _ _⟩
    · have e' : E.lit x ≠ E.lit y := fun h => e (E.inj _ _ h)
      rw [if_neg e, has_put_other e', atKey_put_other e']
      exact hf x
/-- The number of keys, wherever 'len' is asked. -/
theorem MapO.len (h : MapO P k e E w b s f) {t : TypeId} (ht : P.underlying t = some (.map k e)) (ty : TypeId) : (Builtin.len_ #[t] ty #[.map (some b)]).run P w = .ok (.int .i64 s) w := by
  obtain ⟨D, hown, hs, hD, hf⟩ := h
  rw [hown.len ht ty, hs]
end
end Go.Proofs.Ytaolakknkhggnaa.GMap
end
section
namespace Go.Proofs.Ytaolakknkhggnaa.X
open Go.RowKit Go.Proofs.YtaolakknkhggnaaW.PrintWords
set_option linter.unusedVariables false
theorem addr_off (g j : Nat) : (⟨g, 0, none⟩ : Addr).add j = ⟨g, j, none⟩ := by
  unfold Addr.add
  split
  · rename_i h; rw [h]
  · simp
theorem C_cells {W : World} {g : Nat} (l : List ByteArray) (hl : l.length ≤ 1000) (h : ∀ (j : Nat) (s : ByteArray), l[j]? = some s → W.cell? ⟨g, j, none⟩ = some (.string s)) : Kd.C Kd.string W (some ⟨g, 0, none⟩) l.length l := by
  refine ⟨rfl, by omega, fun _ => ⟨_, rfl, fun j p hj => ⟨[.string p], rfl, rfl, fun i u hu => ?_⟩⟩⟩
  have hi : i = 0 := by
    rcases i with _ | i
    · rfl
    · simp at hu
  subst hi
  simp at hu
  subst hu
  rw [show j * Kd.string.sz + 0 = j from Nat.mul_one j, addr_off]
  exact h j p hj
theorem C_rows {W : World} {g : Nat} (rows : List (List ByteArray)) (hl : rows.length ≤ 1000) (h : ∀ (j : Nat) (r : List ByteArray), rows[j]? = some r → ∃ A c, W.cell? ⟨g, j, none⟩ = some (.slice A r.length c) ∧ r.length ≤ c ∧ Kd.C Kd.string W A r.length r) : Kd.C (Kd.slice 9 Kd.string) W (some ⟨g, 0, none⟩) rows.length rows := by
  refine ⟨rfl, by omega, fun _ => ⟨_, rfl, fun j p hj => ?_⟩⟩
  obtain ⟨A, c, h1, h2, h3⟩ := h j p hj
  refine ⟨[.slice A p.length c], rfl, ⟨A, c, rfl, h2, h3⟩, fun i u hu => ?_⟩
  have hi : i = 0 := by
    rcases i with _ | i
    · rfl
    · simp at hu
  subst hi
  simp at hu
  subst hu
  rw [show j * (Kd.slice 9 Kd.string).sz + 0 = j from Nat.mul_one j, addr_off]
  exact h1
/-- A table is read. -/
structure TabC (W : World) (A0 : Option Addr) (c0 : Nat) (A1 : Option Addr) (c1 : Nat) (T : S25) : Prop where
  l0 : T.f0.length ≤ c0
  C0 : Kd.C Kd.string W A0 T.f0.length T.f0
  l1 : T.f1.length ≤ c1
  C1 : Kd.C (Kd.slice 9 Kd.string) W A1 T.f1.length T.f1
theorem TabC.below {W W' : World} {A0 : Option Addr} {c0 : Nat} {A1 : Option Addr} {c1 : Nat} {T : S25} (h : TabC W A0 c0 A1 c1 T) (hb : Below W.heap.size W W') : TabC W' A0 c0 A1 c1 T := ⟨h.l0, Kd.C_below h.C0 hb, h.l1, Kd.C_below h.C1 hb⟩
theorem TabC.one {W : World} {A0 : Option Addr} {c0 : Nat} {A1 : Option Addr} {c1 : Nat} {T : S25} (h : TabC W A0 c0 A1 c1 T) {g : Nat} (h0 : W.cell? ⟨g, 0, none⟩ = some (.slice A0 T.f0.length c0)) (h1 : W.cell? ⟨g, 1, none⟩ = some (.slice A1 T.f1.length c1)) : Kd.C k25 W (some ⟨g, 0, none⟩) 1 [T] := by
  refine ⟨rfl, by decide, fun _ => ⟨_, rfl, fun j p hj => ?_⟩⟩
  have hj0 : j = 0 := by
    rcases j with _ | j
    · rfl
    · simp at hj
  subst hj0
  simp at hj
  subst hj
  refine ⟨[.slice A0 T.f0.length c0, .slice A1 T.f1.length c1], rfl, k25_mk W T h.l0 h.C0 h.l1 h.C1, fun i u hu => ?_⟩
  rw [Nat.zero_mul, Nat.zero_add, addr_off]
  rcases i with _ | _ | i
  · simp at hu; subst hu; exact h0
  · simp at hu; subst hu; exact h1
  · simp at hu
theorem C_blk {W : World} {g : Nat} {t : TypeId} (l : List ByteArray) (hl : l.length ≤ 1000) (h : W.heap[g]? = some (.cells (l.map Value.string).toArray t (0, 0))) : Kd.C Kd.string W (some ⟨g, 0, none⟩) l.length l :=
  C_cells l hl (fun j s hj => by rw [blk_cell h j]; simp [hj])
theorem name_world {P : Program} {f : FuncId} {args : Array Value} {w : World} {R : Ending → World → Prop} (h : ∀ W, w = W → Calls P f args W R) : Calls P f args w R := h w rfl
end Go.Proofs.Ytaolakknkhggnaa.X
end
section
namespace Go.Proofs.Ytaolakknkhggnaa.GOpen
open Go.RowKit Go.ChangeShapes Go.WideShapes Go.Proofs.YtaolakknkhggnaaW.PrintWords
/-- Whatever reads at type e is of the kind d, and ok. -/
def Opens (P : Program) (e : TypeId) {α : Type} (d : Kd α) (ok : α → Prop) : Prop :=
  ∀ (H : Type) (enc : TypeId × Value → H) (w : World) (base : Nat) (spare : Nat → Bool) (held : Bool) (fuel : Nat) (cs : List Value) (y : DataW H × List MemPlace),
    DataW.trod enc P w base spare held fuel e cs = some y → ∃ x, d.K w x cs ∧ ok x
section
variable {P : Program} {e t : TypeId} {α β : Type} {d : Kd α} {d' : Kd β} {ok : α → Prop} {ok' : β → Prop}
theorem Opens.string (he : P.underlying e = some .string) : Opens P e Kd.string (fun s => s.size ≤ maxLen) := by
  intro H enc w base spare held fuel cs y h
  obtain ⟨s, rfl, _, hs⟩ := DataW.trod_string he h
  exact ⟨s, rfl, hs⟩
theorem Opens.int {k : IntKind} (he : P.underlying e = some (.int k)) : Opens P e (Kd.int k) (fun n => (Lit.int k n).wf = true) := by
  intro H enc w base spare held fuel cs y h
  obtain ⟨s, rfl, _, hs⟩ := DataW.trod_int he h
  exact ⟨s, rfl, hs⟩
theorem Opens.bool (he : P.underlying e = some .bool) : Opens P e Kd.bool (fun _ => True) := by
  intro H enc w base spare held fuel cs y h
  obtain ⟨s, rfl, _⟩ := DataW.trod_bool he h
  exact ⟨s, rfl, trivial⟩
theorem mapM_cells {w : World} {a : Addr} : ∀ {l : List Nat} {cs : List Value}, (l.mapM fun i => w.cell? (a.add i)) = some cs → cs.length = l.length ∧ ∀ (j i : Nat) (u : Value), l[j]? = some i → cs[j]? = some u → w.cell? (a.add i) = some u
  | [], cs, h => by
    simp at h; subst h
    exact ⟨rfl, fun j i u hj _ => by simp at hj⟩
  | i :: l, cs, h => by
    rw [List.mapM_cons] at h
    cases hc : w.cell? (a.add i) with
    | none => rw [hc] at h; simp at h
    | some v =>
      rw [hc] at h
      cases hm : (l.mapM fun i => w.cell? (a.add i)) with
      | none => rw [hm] at h; simp at h
      | some vs =>
        rw [hm] at h
        simp at h
        subst h
        obtain ⟨h1, h2⟩ := mapM_cells hm
        refine ⟨by simp [h1], fun j i' u hj hu => ?_⟩
        cases j with
        | zero => simp at hj hu; subst hj; subst hu; exact hc
        | succ j => simp at hj hu; exact h2 j i' u hj hu
theorem add_add (a : Addr) (n m : Nat) : (a.add n).add m = a.add (n + m) := by
  unfold Addr.add
  by_cases h : n = 0
  · subst h; simp
  · by_cases h2 : m = 0
    · subst h2; simp [h]
    · simp [h, h2, Nat.add_assoc]
theorem cells_at {w : World} {base : Nat} {a : Addr} {n : Nat} {cs : List Value} (h : w.cells? base a n = some cs) : cs.length = n ∧ ∀ j u, cs[j]? = some u → w.cell? (a.add j) = some u := by
  unfold World.cells? at h
  split at h
  · obtain ⟨h1, h2⟩ := mapM_cells h
    rw [List.length_range] at h1
    refine ⟨h1, fun j u hu => h2 j j u ?_ hu⟩
    have := (List.getElem?_eq_some_iff.1 hu).1
    rw [List.getElem?_range (by omega)]
  · cases h
theorem Opens.slice (h : Opens P e d ok) (ht : P.underlying t = some (.slice e)) (hsz : P.cellsOf e = d.sz) : Opens P t (Kd.slice e d) (fun l => l.length ≤ maxLen ∧ ∀ x ∈ l, ok x) := by
  intro H enc w base spare held fuel cs y hy
  rcases DataW.trod_slice ht hy with ⟨rfl, _⟩ | ⟨a, len, cap, elems, rest, n, _, rfl, _, hb, hl, hm, hlen, hel, _, _⟩
  · exact ⟨[], ⟨none, 0, rfl, Nat.le_refl _, rfl, Nat.zero_le _, fun h0 => absurd h0 (by simp)⟩, Nat.zero_le _, fun x hx => by simp at hx⟩
  · have each : ∀ i, i < len → ∃ x, ok x ∧ ∃ c, c.length = d.sz ∧ d.K w x c ∧ ∀ j u, c[j]? = some u → w.cell? (a.add (i * d.sz + j)) = some u := by
      intro i hi
      have h1 := hel i hi
      rw [List.getElem?_eq_getElem (by omega)] at h1
      obtain ⟨c, hc, hr⟩ := Option.bind_eq_some_iff.1 h1
      obtain ⟨x, hK, hok⟩ := h H enc w base spare held n c _ hr
      obtain ⟨h2, h3⟩ := cells_at hc
      rw [hsz] at h2 h3
      exact ⟨x, hok, c, h2, hK, fun j u hu => by rw [← add_add]; exact h3 j u hu⟩
    have pick : ∃ l : List α, l.length = len ∧ ∀ i x, l[i]? = some x → ok x ∧ ∃ c, c.length = d.sz ∧ d.K w x c ∧ ∀ j u, c[j]? = some u → w.cell? (a.add (i * d.sz + j)) = some u := by
      clear hel hlen hy hl
      have aux : ∀ m, m ≤ len → ∃ l : List α, l.length = m ∧ ∀ i x, l[i]? = some x → ok x ∧ ∃ c, c.length = d.sz ∧ d.K w x c ∧ ∀ j u, c[j]? = some u → w.cell? (a.add (i * d.sz + j)) = some u := by
        intro m
        induction m with
        | zero => exact fun _ => ⟨[], rfl, fun i x hx => by simp at hx⟩
        | succ m ih =>
          intro hm'
          obtain ⟨l, hl, hx⟩ := ih (by omega)
          obtain ⟨x, hx'⟩ := each m (by omega)
          refine ⟨l ++ [x], by simp [hl], fun i z hz => ?_⟩
          rcases Nat.lt_or_ge i l.length with hi | hi
          · rw [List.getElem?_append_left hi] at hz; exact hx i z hz
          · have : i = l.length := by
              have := (List.getElem?_eq_some_iff.1 hz).1
              simp at this; omega
            subst this
            simp at hz; subst hz
            rw [hl]; exact hx'
      exact aux len (Nat.le_refl _)
    obtain ⟨l, hl', hx⟩ := pick
    subst hl'
    refine ⟨l, ⟨some a, cap, rfl, hl, rfl, by simp only [maxLen] at hm; omega, fun _ => ⟨a, rfl, fun j p hp => (hx j p hp).2⟩⟩, by omega, fun x hx' => ?_⟩
    obtain ⟨i, hi⟩ := List.getElem?_of_mem hx'
    exact (hx i x hi).1
theorem Opens.iso (h : Opens P e d ok) (f : β → α) (g : α → β) (hfg : ∀ x, f (g x) = x) : Opens P e (Kd.iso d f) (fun y => ok (f y)) := by
  intro H enc w base spare held fuel cs y hy
  obtain ⟨x, hK, hok⟩ := h H enc w base spare held fuel cs y hy
  exact ⟨g x, by show d.K w (f (g x)) cs; rw [hfg]; exact hK, by show ok (f (g x)); rw [hfg]; exact hok⟩
/-- A struct of two fields. -/
theorem Opens.pair {f0 f1 : Field} (h : Opens P f0.type d ok) (h' : Opens P f1.type d' ok') (ht : P.underlying t = some (.struct #[f0, f1])) (hn : P.cellsOf t = d.sz + d'.sz) (h0 : P.cellsOf f0.type = d.sz) (h1 : P.cellsOf f1.type = d'.sz) (o0 : f0.offset = 0) (o1 : f1.offset = d.sz) :
    Opens P t (Kd.pair d d') (fun x => ok x.1 ∧ ok' x.2) := by
  intro H enc w base spare held fuel cs y hy
  obtain ⟨y0, y1, n, _, hl, q0, q1⟩ := trod_struct2 ht hy
  rw [o0, List.drop_zero, h0] at q0
  rw [o1, h1] at q1
  obtain ⟨x0, k0, r0⟩ := h H enc w base spare held n _ _ q0
  obtain ⟨x1, k1, r1⟩ := h' H enc w base spare held n _ _ q1
  refine ⟨(x0, x1), ⟨_, _, ?_, k0, k1⟩, r0, r1⟩
  rw [List.take_of_length_le (l := cs.drop d.sz) (by rw [List.length_drop]; omega), List.take_append_drop]
/-- An argument: a struct. -/
theorem arg_struct {H : Type} {enc : TypeId × Value → H} {W : World} {base : Nat} {spare : Nat → Bool} {held : Bool} {v : Value} {D : DataW H} {p : List MemPlace} {base' : Nat} {r : Reach} {fs : Array Field}
    (h : Opens P t d ok) (ht : P.underlying t = some (.struct fs)) (hv : Value.okWide P W r base' t v) (hr : DataW.Trod enc P W base spare held t v D p) :
    ∃ x cs, v = .agg cs ∧ d.K W x cs.toList ∧ ok x := by
  obtain ⟨cs, rfl, _⟩ := okWide_struct ht hv
  obtain ⟨fuel, hf⟩ := hr
  obtain ⟨x, hK, hok⟩ := h H enc W base spare held fuel _ _ hf
  exact ⟨x, cs, rfl, hK, hok⟩
end
end Go.Proofs.Ytaolakknkhggnaa.GOpen
end
section
namespace Go.Proofs.Ytaolakknkhggnaa.GOpen
open Go.RowKit Go.ChangeShapes Go.WideShapes Go.Proofs.YtaolakknkhggnaaW.PrintWords
theorem tk_drop {α : Type} (l : List α) (a n : Nat) : (l.drop a).take n ++ l.drop (a + n) = l.drop a := by rw [← List.drop_drop, List.take_append_drop]
section
variable {P : Program} {t : TypeId} {a0 a1 a2 a3 a4 a5 : Type} {d0 : Kd a0} {d1 : Kd a1} {d2 : Kd a2} {d3 : Kd a3} {d4 : Kd a4} {d5 : Kd a5} {ok0 : a0 → Prop} {ok1 : a1 → Prop} {ok2 : a2 → Prop} {ok3 : a3 → Prop} {ok4 : a4 → Prop} {ok5 : a5 → Prop}
/-- A struct of six fields. -/
theorem Opens.six {f0 f1 f2 f3 f4 f5 : Field} (h0 : Opens P f0.type d0 ok0) (h1 : Opens P f1.type d1 ok1) (h2 : Opens P f2.type d2 ok2) (h3 : Opens P f3.type d3 ok3) (h4 : Opens P f4.type d4 ok4) (h5 : Opens P f5.type d5 ok5) (ht : P.underlying t = some (.struct #[f0, f1, f2, f3, f4, f5]))
    (hn : P.cellsOf t = d0.sz + (d1.sz + (d2.sz + (d3.sz + (d4.sz + d5.sz))))) (c0 : P.cellsOf f0.type = d0.sz) (c1 : P.cellsOf f1.type = d1.sz) (c2 : P.cellsOf f2.type = d2.sz) (c3 : P.cellsOf f3.type = d3.sz) (c4 : P.cellsOf f4.type = d4.sz) (c5 : P.cellsOf f5.type = d5.sz)
    (o0 : f0.offset = 0) (o1 : f1.offset = d0.sz) (o2 : f2.offset = d0.sz + d1.sz) (o3 : f3.offset = d0.sz + d1.sz + d2.sz) (o4 : f4.offset = d0.sz + d1.sz + d2.sz + d3.sz) (o5 : f5.offset = d0.sz + d1.sz + d2.sz + d3.sz + d4.sz) :
    Opens P t (Kd.pair d0 (Kd.pair d1 (Kd.pair d2 (Kd.pair d3 (Kd.pair d4 d5))))) (fun x => ok0 x.1 ∧ ok1 x.2.1 ∧ ok2 x.2.2.1 ∧ ok3 x.2.2.2.1 ∧ ok4 x.2.2.2.2.1 ∧ ok5 x.2.2.2.2.2) := by
  intro H enc w base spare held fuel cs y hy
  obtain ⟨xs, n, _, _, hl, hlen, hf⟩ := DataW.trod_struct ht hy
  match xs, hlen with
  | [y0, y1, y2, y3, y4, y5], _ =>
    have q0 := hf 0 f0 rfl
    have q1 := hf 1 f1 rfl
    have q2 := hf 2 f2 rfl
    have q3 := hf 3 f3 rfl
    have q4 := hf 4 f4 rfl
    have q5 := hf 5 f5 rfl
    rw [o0, List.drop_zero, c0] at q0
    rw [o1, c1] at q1
    rw [o2, c2] at q2
    rw [o3, c3] at q3
    rw [o4, c4] at q4
    rw [o5, c5] at q5
    obtain ⟨x0, k0, r0⟩ := h0 H enc w base spare held n _ _ q0
    obtain ⟨x1, k1, r1⟩ := h1 H enc w base spare held n _ _ q1
    obtain ⟨x2, k2, r2⟩ := h2 H enc w base spare held n _ _ q2
    obtain ⟨x3, k3, r3⟩ := h3 H enc w base spare held n _ _ q3
    obtain ⟨x4, k4, r4⟩ := h4 H enc w base spare held n _ _ q4
    obtain ⟨x5, k5, r5⟩ := h5 H enc w base spare held n _ _ q5
    refine ⟨(x0, x1, x2, x3, x4, x5), ⟨_, _, ?_, k0, _, _, rfl, k1, _, _, rfl, k2, _, _, rfl, k3, _, _, rfl, k4, k5⟩, r0, r1, r2, r3, r4, r5⟩
    rw [List.take_of_length_le (l := cs.drop (d0.sz + d1.sz + d2.sz + d3.sz + d4.sz)) (by rw [List.length_drop]; omega), tk_drop, tk_drop, tk_drop, tk_drop, List.take_append_drop]
end
end Go.Proofs.Ytaolakknkhggnaa.GOpen
namespace Go.Proofs.Ytaolakknkhggnaa.X
open Go.RowKit Go.Proofs.YtaolakknkhggnaaW.PrintWords
structure S28 where
  f0 : Int
  f1 : Int
  f2 : Int
  f3 : ByteArray
  f4 : (List ByteArray)
  f5 : (List Int)
def k28 : Kd S28 := Kd.iso (Kd.pair (Kd.int .i64) (Kd.pair (Kd.int .i64) (Kd.pair (Kd.int .i64) (Kd.pair Kd.string (Kd.pair (Kd.slice 9 Kd.string) (Kd.slice 3 (Kd.int .i64))))))) (fun x : S28 => (x.f0, x.f1, x.f2, x.f3, x.f4, x.f5))
theorem k28_open {w : World} {x : S28} {cs : List Value} (h : k28.K w x cs) : ∃ A4 c4 A5 c5, cs = [.int .i64 x.f0, .int .i64 x.f1, .int .i64 x.f2, .string x.f3, .slice A4 x.f4.length c4, .slice A5 x.f5.length c5] ∧ x.f4.length ≤ c4 ∧ Kd.string.C w A4 x.f4.length x.f4 ∧ x.f5.length ≤ c5 ∧ (Kd.int .i64).C w A5 x.f5.length x.f5 := by
  obtain ⟨_, _, rfl, e0, _, _, rfl, e1, _, _, rfl, e2, _, _, rfl, e3, _, _, rfl, ⟨A4, c4, rfl, l4, g4⟩, ⟨A5, c5, rfl, l5, g5⟩⟩ := h
  refine ⟨A4, c4, A5, c5, ?_, l4, g4, l5, g5⟩
  have e0' : _ = [Value.int .i64 x.f0] := e0
  have e1' : _ = [Value.int .i64 x.f1] := e1
  have e2' : _ = [Value.int .i64 x.f2] := e2
  have e3' : _ = [Value.string x.f3] := e3
  rw [e0', e1', e2', e3']
  rfl
end Go.Proofs.Ytaolakknkhggnaa.X
end
section
namespace Go.Proofs.Ytaolakknkhggnaa.X
open Go.RowKit Go.ChangeShapes Go.WideShapes Go.Proofs.YtaolakknkhggnaaW.PrintWords Go.Proofs.Ytaolakknkhggnaa.GOpen
set_option linter.unusedVariables false
def okT9 (x : ByteArray) : Prop := x.size ≤ maxLen
def okT22 (x : List (ByteArray)) : Prop := x.length ≤ maxLen ∧ ∀ y ∈ x, okT9 y
def okT23 (x : List (List (ByteArray))) : Prop := x.length ≤ maxLen ∧ ∀ y ∈ x, okT22 y
def okT25 (x : S25) : Prop := okT22 x.f0 ∧ okT23 x.f1
def okT3 (x : Int) : Prop := (Lit.int .i64 x).wf = true
def okT26 (x : List (Int)) : Prop := x.length ≤ maxLen ∧ ∀ y ∈ x, okT3 y
def okT28 (x : S28) : Prop := okT3 x.f0 ∧ okT3 x.f1 ∧ okT3 x.f2 ∧ okT9 x.f3 ∧ okT22 x.f4 ∧ okT26 x.f5
set_option maxRecDepth 100000 in
theorem opens25 : Opens Try.prog 25 k25 okT25 :=
  (Opens.iso (Opens.pair (Opens.slice (Opens.string Try.underlying9) Try.underlying22 (by kernel_rfl)) (Opens.slice (Opens.slice (Opens.string Try.underlying9) Try.underlying22 (by kernel_rfl)) Try.underlying23 (by kernel_rfl)) Try.underlying25 (by kernel_rfl) (by kernel_rfl) (by kernel_rfl) rfl rfl) (fun x : S25 => (x.f0, x.f1)) (fun p => ⟨p.1, p.2⟩) (fun _ => rfl))
set_option maxRecDepth 100000 in
theorem opens28 : Opens Try.prog 28 k28 okT28 :=
  (Opens.iso (Opens.six (Opens.int Try.underlying3) (Opens.int Try.underlying3) (Opens.int Try.underlying3) (Opens.string Try.underlying9) (Opens.slice (Opens.string Try.underlying9) Try.underlying22 (by kernel_rfl)) (Opens.slice (Opens.int Try.underlying3) Try.underlying26 (by kernel_rfl)) Try.underlying28 (by kernel_rfl) (by kernel_rfl) (by kernel_rfl) (by kernel_rfl) (by kernel_rfl) (by kernel_rfl) (by kernel_rfl) rfl rfl rfl rfl rfl rfl) (fun x : S28 => (x.f0, x.f1, x.f2, x.f3, x.f4, x.f5)) (fun p => ⟨p.1, p.2.1, p.2.2.1, p.2.2.2.1, p.2.2.2.2.1, p.2.2.2.2.2⟩) (fun _ => rfl))
theorem laidOut : laidOutB Try.prog = true := by kernel_rfl
theorem own : ownKnob Try.prog.godebug = none := by kernel_rfl
end Go.Proofs.Ytaolakknkhggnaa.X
end
