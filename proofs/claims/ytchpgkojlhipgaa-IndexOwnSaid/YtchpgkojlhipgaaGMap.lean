/- Maps that a call makes, with elements of kind int: block b is a map with s keys that holds 'f key' (a missing key: none). Over any program. -/
import Derived.Maps.OwnSet
import Derived.Maps.OwnOps
import Derived.Maps.Views
import Derived.WalkKit
import Derived.Deep.Draws
namespace Go.Proofs.Ytchpgkojlhipgaa.GMap
open Go.RowKit Go.WideMaps Go.Maps

/-- How keys are told: each its own literal. -/
structure Enc (α : Type) where
  lit : α → Lit
  inj : ∀ x y, lit x = lit y → x = y
  key : ∀ x, WideAt.IsKeyLit (lit x)
def encB : Enc (List UInt8) := ⟨fun s => .string s, fun _ _ h => by injection h, fun _ => by simp [WideAt.IsKeyLit]⟩
def encI : Enc Int := ⟨fun n => .int .i64 n, fun _ _ h => by injection h, fun _ => by simp [WideAt.IsKeyLit]⟩

def MapO {α : Type} (P : Program) (k e : TypeId) (E : Enc α) (w : World) (b s : Nat) (f : α → Option Int) : Prop :=
  ∃ D : DataW Unit, w.ownsMap P k (plainElem P e) b s D ∧ size D = s ∧ Tidy D ∧ ∀ x, has D (E.lit x) = (f x).isSome ∧ D.atKey (E.lit x) (.lit (.int .i64 0)) = .lit (.int .i64 ((f x).getD 0))

def upd {α : Type} [DecidableEq α] (f : α → Option Int) (k : α) (v : Int) : α → Option Int := fun x => if x = k then some v else f x
def grow {α : Type} (f : α → Option Int) (k : α) (s : Nat) : Nat := if (f k).isSome then s else s + 1

theorem grow_le {α : Type} (f : α → Option Int) (k : α) (s : Nat) : grow f k s ≤ s + 1 := by unfold grow; split <;> omega

section
variable {α : Type} {P : Program} {k e : TypeId} {E : Enc α} {w w' : World} {b s : Nat} {f : α → Option Int}

theorem MapO.made (P : Program) (k e : TypeId) (E : Enc α) (w : World) : MapO P k e E (w.alloc (.map #[] 0)) w.heap.size 0 (fun _ => none) :=
  ⟨_, World.ownsMap_made _ _ _ _, rfl, tidy_empty, fun _ => ⟨rfl, rfl⟩⟩

theorem MapO.kept (h : MapO P k e E w b s f) {row : Option Nat} (hg : w.grownBy w' row) (hne : some b ≠ row) : MapO P k e E w' b s f := by
  obtain ⟨D, hown, r⟩ := h
  exact ⟨D, hown.kept hg hne, r⟩

theorem MapO.block (h : MapO P k e E w b s f) (hb : w'.heap[b]? = w.heap[b]?) : MapO P k e E w' b s f := by
  obtain ⟨D, ⟨es, clock, h1, r1⟩, r⟩ := h
  exact ⟨D, ⟨es, clock, hb.trans h1, r1⟩, r⟩

theorem MapO.lt (h : MapO P k e E w b s f) : b < w.heap.size := by
  obtain ⟨D, hown, r⟩ := h
  exact hown.lt

theorem MapO.alloc (h : MapO P k e E w b s f) (o : Obj) : MapO P k e E (w.alloc o) b s f := h.kept (World.grownBy_alloc w o none) (by simp)
theorem MapO.drew (h : MapO P k e E w b s f) : MapO P k e E w.drew b s f := h
theorem MapO.drewN (h : MapO P k e E w b s f) (n : Nat) : MapO P k e E (w.drewN n) b s f := h.block rfl
theorem MapO.below (h : MapO P k e E w b s f) (hb : Below w.heap.size w w') : MapO P k e E w' b s f := h.block (hb.block b h.lt)
theorem MapO.setCell (h : MapO P k e E w b s f) {a : Addr} (ha : b ≠ a.block) (u : Value) : MapO P k e E (w.setCell a u) b s f := by
  obtain ⟨D, hown, r⟩ := h
  exact ⟨D, hown.setCell ha u, r⟩

/-- the block is a map: no row of cells -/
theorem MapO.noCells (h : MapO P k e E w b s f) {cs : Array Value} {t : TypeId} {fr : Nat × Nat} (hc : w.heap[b]? = some (.cells cs t fr)) : False := by
  obtain ⟨D, ⟨es, clock, h1, _⟩, _⟩ := h
  rw [h1] at hc
  cases hc

theorem lookup_arm {t : TypeId} {ops : Array Oper} {rest : List Oper} {o : Oper} {a : Act} {Q : Exit → Act → World → Prop} (law : Keyed P k) (ht : P.underlying t = some (.map k e)) (he : P.underlying e = some (.int .i64)) (hz : ∀ w, (zeroValue e).run P w = .ok (.int .i64 0) w)
    (hg : o.guard = none) (m x : Operand) (hop : o.op = Op.lookup t m x false)
    (b s : Nat) (f : α → Option Int) (hm : a.eval m = .map (some b)) (H : MapO P k e E w b s f) (key : Value) (y : α) (hx : a.eval x = key) (hkey : keyOf P k key = some (E.lit y))
    (hK : (Lit.int .i64 ((f y).getD 0)).wf = true → wpList P ops Q rest (a.put o.dst (.int .i64 ((f y).getD 0))) w) : wpList P ops Q (o :: rest) a w := by
  obtain ⟨D, hown, hs, hD, hf⟩ := H
  refine wpList_lookup_own_int _ hg m x t hop k e .i64 law ht he (hz _) b s D hm hown _ _ hx hkey ?_
  intro c hat hwc
  have h := (hf y).2
  rw [hat] at h
  injection h with h1
  injection h1 with h1 h2
  subst h2
  exact hK hwc

theorem store_arm [DecidableEq α] {t : TypeId} {ops : Array Oper} {rest : List Oper} {o : Oper} {a : Act} {Q : Exit → Act → World → Prop} (law : Keyed P k) (ht : P.underlying t = some (.map k e)) (he : P.underlying e = some (.int .i64))
    (hg : o.guard = none) (m x v : Operand) (hop : o.op = Op.mapUpdate t m x v)
    (b s : Nat) (f : α → Option Int) (hm : a.eval m = .map (some b)) (H : MapO P k e E w b s f) (hn : s < maxLen) (key : Value) (y : α) (hx : a.eval x = key) (hkey : keyOf P k key = some (E.lit y))
    (i : Int) (hv : a.eval v = .int .i64 i) (hi : (Lit.int .i64 i).wf = true)
    (hK : ∀ w', MapO P k e E w' b (grow f y s) (upd f y i) → w.grownBy w' (some b) → wpList P ops Q rest (a.put o.dst undef) w') : wpList P ops Q (o :: rest) a w := by
  obtain ⟨D, hown, hs, hD, hf⟩ := H
  refine wpList_mapUpdate_own _ hg m x v t hop k e law ht _ b s D hm hown hn _ _ _ hx hv hkey _ [] (plainElem_int he hi) ?_
  intro w' h1 h2
  have hsz : size (D.put (E.lit y) (.lit (.int .i64 i))) = grow f y s := by
    rw [size_put hD, (hf y).1, hs]; rfl
  refine hK w' ⟨_, ?_, hsz, hD.put (E.key y) _, fun x => ?_⟩ h2
  · obtain ⟨es, clock, q1, q2, q3, q4⟩ := h1
    refine ⟨es, clock, q1, q2, ?_, q4⟩
    have := World.ownsMap.size_le (n := es.size) ⟨es, clock, q1, q2, Nat.le_refl _, q4⟩
    have e1 : size (D.put (E.lit y) (.lit (.int .i64 i))) = es.size := by
      rw [q4]; show ((es.toList.map (WideElems.rg P k (plainElem P e))).foldr DataW.insert []).length = es.size
      exact length_read es
    omega
  · unfold upd
    by_cases e : x = y
    · subst e
      rw [if_pos rfl]
      exact ⟨has_put_same hD.isMap (E.key x) _, atKey_put_same hD.isMap (E.key x) _ _⟩
    · have e' : E.lit x ≠ E.lit y := fun h => e (E.inj _ _ h)
      rw [if_neg e, has_put_other e', atKey_put_other e']
      exact hf x

theorem len_arm {t : TypeId} {ops : Array Oper} {rest : List Oper} {o : Oper} {a : Act} {Q : Exit → Act → World → Prop} (ht : P.underlying t = some (.map k e))
    (hg : o.guard = none) (m : Operand) (hop : o.op = Op.call { callee := Callee.builtin Builtin.len, args := #[m], argTypes := #[t] })
    (b s : Nat) (f : α → Option Int) (hm : a.eval m = .map (some b)) (H : MapO P k e E w b s f)
    (hK : wpList P ops Q rest (a.put o.dst (.int .i64 s)) w) : wpList P ops Q (o :: rest) a w := by
  obtain ⟨D, hown, hs, hD, hf⟩ := H
  refine wpList_len_own _ hg m t hop k e ht _ b s D hm hown ?_
  rw [hs]; exact hK
/-- The number of keys, wherever 'len' is asked. -/
theorem MapO.len (h : MapO P k e E w b s f) {t : TypeId} (ht : P.underlying t = some (.map k e)) (ty : TypeId) : (Builtin.len_ #[t] ty #[.map (some b)]).run P w = .ok (.int .i64 s) w := by
  obtain ⟨D, hown, hs, hD, hf⟩ := h
  rw [hown.len ht ty, hs]
end

end Go.Proofs.Ytchpgkojlhipgaa.GMap
