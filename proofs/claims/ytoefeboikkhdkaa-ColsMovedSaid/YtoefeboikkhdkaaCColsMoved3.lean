/- The texts that the law ColsMoved wants, part 3 of 6: what is kept of them. -/
import Derived.WalkKit
import Derived.OwnWalk
import Derived.WalkSpells
import Derived.WalkSmall
import Derived.OneCell
import Derived.Outline
import Derived.Maps.AppendAt
import Derived.Maps.OwnSet
import Derived.Maps.OwnOps
import Derived.Maps.Views
import Derived.Deep.Draws
import Derived.Laws.EntriesVeiled
import Derived.Deep.RegionHeld3
import Derived.Deep.QuietTactic
import Derived.BigQuiet
import Derived.Deep.RegionWith
import Derived.OrdersIn
import Derived.RangeFuncCalls
import Derived.Sort.Grow
import Derived.Test.YtoefeboikkhdkaaProg
import Derived.ChangeArms
import Derived.ChangeSame
import Derived.WideShapes
import Derived.ProofKit
import Derived.OpenShut
import Derived.Test.YtoefeboikkhdkaaChecked
import Derived.KernelRfl
import Derived.Test.YtoefeboikkhdkaaCColsMoved2
section
namespace Go.Proofs.Ytoefeboikkhdkaa.X
open Go.RowKit Go.Maps Go.Proofs.YtoefeboikkhdkaaW.PrintWords
set_option linter.unusedVariables false
end Go.Proofs.Ytoefeboikkhdkaa.X
end
section
namespace Go.Proofs.Ytoefeboikkhdkaa.GMap
open Go.RowKit Go.WideMaps Go.Maps
/-- How keys are told: each its own literal. -/
structure Enc (α : Type) where
  lit : α → Lit
  inj : ∀ x y, lit x = lit y → x = y
  key : ∀ x, WideAt.IsKeyLit (lit x)
def encB : Enc (List UInt8) := ⟨fun s => .string s, fun _ _ h => by injection h, fun _ => by simp [WideAt.IsKeyLit]⟩
def encI : Enc Int := ⟨fun n => .int .i64 n, fun _ _ h => by injection h, fun _ => by simp [WideAt.IsKeyLit]⟩
def MapO {α : Type} (P : Program) (k e : TypeId) (E : Enc α) (w : World) (b s : Nat) (f : α → Option Int) : Prop :=
  ∃ D : DataW Unit, w.ownsMap P k (plainElem P e) b s D ∧ size D = s ∧ Tidy D ∧ ∀ x, has D (E.lit x) = (f x).isSome ∧ D.atKey (E.lit x) (.lit (.int .i64 0)) = .lit (.int .i64 ((f x).getD 0))
def upd {α : Type} [DecidableEq α] (f : α → Option Int) (k : α) (v : Int) : α → Option Int := fun x => if x = k then some v else f x
def grow {α : Type} (f : α → Option Int) (k : α) (s : Nat) : Nat := if (f k).isSome then s else s + 1
theorem grow_le {α : Type} (f : α → Option Int) (k : α) (s : Nat) : grow f k s ≤ s + 1 := by unfold grow; split <;> omega
section
variable {α : Type} {P : Program} {k e : TypeId} {E : Enc α} {w w' : World} {b s : Nat} {f : α → Option Int}
theorem MapO.made (P : Program) (k e : TypeId) (E : Enc α) (w : World) : MapO P k e E (w.alloc (.map #[] 0)) w.heap.size 0 (fun _ => none) :=
  ⟨_, World.ownsMap_made _ _ _ _, rfl, tidy_empty, fun _ => ⟨rfl, rfl⟩⟩
theorem MapO.kept (h : MapO P k e E w b s f) {row : Option Nat} (hg : w.grownBy w' row) (hne : some b ≠ row) : MapO P k e E w' b s f := by
  obtain ⟨D, hown, r⟩ := h
  exact ⟨D, hown.kept hg hne, r⟩
theorem MapO.block (h : MapO P k e E w b s f) (hb : w'.heap[b]? = w.heap[b]?) : MapO P k e E w' b s f := by
  obtain ⟨D, ⟨es, clock, h1, r1⟩, r⟩ := h
  exact ⟨D, ⟨es, clock, hb.trans h1, r1⟩, r⟩
theorem MapO.lt (h : MapO P k e E w b s f) : b < w.heap.size := by
  obtain ⟨D, hown, r⟩ := h
  exact hown.lt
theorem MapO.alloc (h : MapO P k e E w b s f) (o : Obj) : MapO P k e E (w.alloc o) b s f := h.kept (World.grownBy_alloc w o none) (by simp)
theorem MapO.drew (h : MapO P k e E w b s f) : MapO P k e E w.drew b s f := h
theorem MapO.drewN (h : MapO P k e E w b s f) (n : Nat) : MapO P k e E (w.drewN n) b s f := h.block rfl
theorem MapO.below (h : MapO P k e E w b s f) (hb : Below w.heap.size w w') : MapO P k e E w' b s f := h.block (hb.block b h.lt)
theorem MapO.setCell (h : MapO P k e E w b s f) {a : Addr} (ha : b ≠ a.block) (u : Value) : MapO P k e E (w.setCell a u) b s f := by
  obtain ⟨D, hown, r⟩ := h
  exact ⟨D, hown.setCell ha u, r⟩
/-- the block is a map: no row of cells -/
theorem MapO.noCells (h : MapO P k e E w b s f) {cs : Array Value} {t : TypeId} {fr : Nat × Nat} (hc : w.heap[b]? = some (.cells cs t fr)) : False := by
  obtain ⟨D, ⟨es, clock, h1, _⟩, _⟩ := h
  rw [h1] at hc
  cases hc
theorem lookup_arm {t : TypeId} {ops : Array Oper} {rest : List Oper} {o : Oper} {a : Act} {Q : Exit → Act → World → Prop} (law : Keyed P k) (ht : P.underlying t = some (.map k e)) (he : P.underlying e = some (.int .i64)) (hz : ∀ w, (zeroValue e).run P w = .ok (.int .i64 0) w)
    (hg : o.guard = none) (m x : Operand) (hop : o.op = Op.lookup t m x false)
    (b s : Nat) (f : α → Option Int) (hm : a.eval m = .map (some b)) (H : MapO P k e E w b s f) (key : Value) (y : α) (hx : a.eval x = key) (hkey : keyOf P k key = some (E.lit y))
    (hK : (Lit.int .i64 ((f y).getD 0)).wf = true → wpList P ops Q rest (a.put o.dst (.int .i64 ((f y).getD 0))) w) : wpList P ops Q (o :: rest) a w := by
  obtain ⟨D, hown, hs, hD, hf⟩ := H
  refine wpList_lookup_own_int _ hg m x t hop k e .i64 law ht he (hz _) b s D hm hown _ _ hx hkey ?_
  intro c hat hwc
  have h := (hf y).2
  rw [hat] at h
  injection h with h1
  injection h1 with h1 h2
  subst h2
  exact hK hwc
theorem store_arm [DecidableEq α] {t : TypeId} {ops : Array Oper} {rest : List Oper} {o : Oper} {a : Act} {Q : Exit → Act → World → Prop} (law : Keyed P k) (ht : P.underlying t = some (.map k e)) (he : P.underlying e = some (.int .i64))
    (hg : o.guard = none) (m x v : Operand) (hop : o.op = Op.mapUpdate t m x v)
    (b s : Nat) (f : α → Option Int) (hm : a.eval m = .map (some b)) (H : MapO P k e E w b s f) (hn : s < maxLen) (key : Value) (y : α) (hx : a.eval x = key) (hkey : keyOf P k key = some (E.lit y))
    (i : Int) (hv : a.eval v = .int .i64 i) (hi : (Lit.int .i64 i).wf = true)
    (hK : ∀ w', MapO P k e E w' b (grow f y s) (upd f y i) → w.grownBy w' (some b) → wpList P ops Q rest (a.put o.dst undef) w') : wpList P ops Q (o :: rest) a w := by
  obtain ⟨D, hown, hs, hD, hf⟩ := H
  refine wpList_mapUpdate_own _ hg m x v t hop k e law ht _ b s D hm hown hn _ _ _ hx hv hkey _ [] (plainElem_int he hi) ?_
  intro w' h1 h2
  have hsz : size (D.put (E.lit y) (.lit (.int .i64 i))) = grow f y s := by
    rw [size_put hD, (hf y).1, hs]; rfl
  refine hK w' ⟨_, ?_, hsz, hD.put (E.key y) _, fun x => ?_⟩ h2
  · obtain ⟨es, clock, q1, q2, q3, q4⟩ := h1
    refine ⟨es, clock, q1, q2, ?_, q4⟩
    have := World.ownsMap.size_le (n := es.size) ⟨es, clock, q1, q2, Nat.le_refl _, q4⟩
    have e1 : size (D.put (E.lit y) (.lit (.int .i64 i))) = es.size := by
      rw [q4]; show ((es.toList.map (WideElems.rg P k (plainElem P e))).foldr DataW.insert []).length = es.size
      exact length_read es
    omega
  · unfold upd
    by_cases e : x = y
    · subst e
      rw [if_pos rfl]
      exact ⟨has_put_same hD.isMap (E.key x) _, atKey_put_same hD.isMap (E.key x) _ _⟩
    · have e' : E.lit x ≠ E.lit y := fun h => e (E.inj _ _ h)
      rw [if_neg e, has_put_other e', atKey_put_other e']
      exact hf x
/-- The number of keys, wherever 'len' is asked. -/
theorem MapO.len (h : MapO P k e E w b s f) {t : TypeId} (ht : P.underlying t = some (.map k e)) (ty : TypeId) : (Builtin.len_ #[t] ty #[.map (some b)]).run P w = .ok (.int .i64 s) w := by
  obtain ⟨D, hown, hs, hD, hf⟩ := h
  rw [hown.len ht ty, hs]
end
end Go.Proofs.Ytoefeboikkhdkaa.GMap
end
section
namespace Go.Proofs.Ytoefeboikkhdkaa.X
open Go.RowKit Go.WideMaps Go.Maps Go.Proofs.YtoefeboikkhdkaaW.PrintWords Go.Proofs.Ytoefeboikkhdkaa.GMap
set_option linter.unusedVariables false
theorem lawI : Keyed Try.prog 3 := int_keyed Try.underlying3
theorem zeroI (w : World) : (zeroValue 3).run Try.prog w = .ok (.int .i64 0) w := by kernel_rfl
abbrev MapI (w : World) (b s : Nat) (f : Int → Option Int) : Prop := MapO Try.prog 3 3 encI w b s f
theorem keyI {x : Int} (hx : (Lit.int .i64 x).wf = true) : keyOf Try.prog 3 (.int .i64 x) = some (encI.lit x) := keyOf_int_mk Try.underlying3 hx
theorem ha (w : World) (o : Obj) (i : Nat) : (w.alloc o).heap[i]? = if i = w.heap.size then some o else w.heap[i]? := Array.getElem?_push
abbrev PS := S37
/-- A pair's two cells. -/
theorem pairAt {w : World} {A : Option Addr} {l : List PS} (h : Kd.C k37 w A l.length l) {t : Nat} (ht : t < l.length) : ∃ ad, A = some ad ∧ w.cell? (ad.add (t * 2)) = some (.int .i64 (rd_T37 l (t : Int)).f0) ∧
    w.cell? ⟨(ad.add (t * 2)).block, (ad.add (t * 2)).off + 1, none⟩ = some (.int .i64 (rd_T37 l (t : Int)).f1) := by
  obtain ⟨ad, e, h0, h1⟩ := at_T37 h (t : Int) (by omega) (by omega)
  exact ⟨ad, e, h0, h1⟩
def okP (l : List PS) : Bool := decide (l.length ≤ 100000) && l.all fun p => (Lit.int .i64 p.f0).wf && (Lit.int .i64 p.f1).wf
theorem okP_len {l : List PS} (h : okP l = true) : l.length ≤ 100000 := by
  simp only [okP, Bool.and_eq_true, decide_eq_true_eq] at h; exact h.1
theorem okP_mem {l : List PS} (h : okP l = true) : ∀ p ∈ l, (Lit.int .i64 p.f0).wf = true ∧ (Lit.int .i64 p.f1).wf = true := by
  simp only [okP, Bool.and_eq_true, List.all_eq_true, decide_eq_true_eq] at h; exact h.2
theorem rdP_mem {l : List PS} {t : Nat} (h : t < l.length) : rd_T37 l (t : Int) ∈ l := by
  unfold rd_T37
  rw [show (t : Int).toNat = t from rfl, List.getD_eq_getElem?_getD, List.getElem?_eq_getElem h]
  exact List.getElem_mem h
theorem take_rdP {l : List PS} {t : Nat} (h : t < l.length) : l.take (t + 1) = l.take t ++ [rd_T37 l (t : Int)] := by
  unfold rd_T37
  rw [show (t : Int).toNat = t from rfl, List.getD_eq_getElem?_getD, List.getElem?_eq_getElem h, List.take_succ_eq_append_getElem h]; rfl
/-- How often each number came, and how many came. -/
def cntI (xs : List Int) : Int → Option Int := fun x => if xs.count x = 0 then none else some (xs.count x : Nat)
theorem cntI_getD (xs : List Int) (x : Int) : (cntI xs x).getD 0 = (xs.count x : Nat) := by unfold cntI; split <;> simp_all
theorem cntI_snoc (xs : List Int) (x : Int) : cntI (xs ++ [x]) = upd (cntI xs) x ((cntI xs x).getD 0 + 1) := by
  funext y
  unfold upd
  rw [cntI_getD]
  unfold cntI
  rw [List.count_append, List.count_singleton]
  by_cases h : y = x
  · subst h; simp
  · have h' : ¬ x = y := fun e => h e.symm
    simp [h, h']
def dsz (xs : List Int) : Nat := (xs.foldl (fun (acc : List Int) x => if x ∈ acc then acc else acc ++ [x]) []).length
theorem dsz_mem (xs : List Int) (y : Int) : y ∈ xs.foldl (fun (acc : List Int) x => if x ∈ acc then acc else acc ++ [x]) [] ↔ y ∈ xs := by
  suffices h : ∀ (xs acc : List Int), y ∈ xs.foldl (fun (acc : List Int) x => if x ∈ acc then acc else acc ++ [x]) acc ↔ y ∈ acc ∨ y ∈ xs by simpa using h xs []
  intro xs
  induction xs with
  | nil => simp
  | cons x xs ih =>
    intro acc
    rw [List.foldl_cons, ih]
    by_cases hx : x ∈ acc
    · rw [if_pos hx, List.mem_cons]
      constructor
      · rintro (h | h)
        · exact .inl h
        · exact .inr (.inr h)
      · rintro (h | rfl | h)
        · exact .inl h
        · exact .inl hx
        · exact .inr h
    · rw [if_neg hx]; simp [or_assoc]
theorem dsz_snoc (xs : List Int) (x : Int) : dsz (xs ++ [x]) = if x ∈ xs then dsz xs else dsz xs + 1 := by
  unfold dsz
  rw [List.foldl_append, List.foldl_cons, List.foldl_nil]
  by_cases h : x ∈ xs
  · rw [if_pos ((dsz_mem xs x).2 h), if_pos h]
  · rw [if_neg (fun k => h ((dsz_mem xs x).1 k)), if_neg h]; simp
theorem dsz_grow (xs : List Int) (x : Int) : grow (cntI xs) x (dsz xs) = dsz (xs ++ [x]) := by
  have e : (cntI xs x).isSome = decide (x ∈ xs) := by
    unfold cntI
    by_cases h : x ∈ xs
    · have h1 : ¬ xs.count x = 0 := fun k => List.count_eq_zero.1 k h
      rw [if_neg h1, decide_eq_true h]; rfl
    · rw [if_pos (List.count_eq_zero.2 h), decide_eq_false h]; rfl
  rw [dsz_snoc]
  unfold grow
  rw [e]
  by_cases h : x ∈ xs <;> simp [h]
theorem dsz_le (xs : List Int) : dsz xs ≤ xs.length := by
  suffices h : ∀ (n : Nat) (xs : List Int), xs.length = n → dsz xs ≤ xs.length from h _ xs rfl
  intro n
  induction n with
  | zero => intro xs h; rw [List.eq_nil_of_length_eq_zero h]; exact Nat.le_refl _
  | succ n ih =>
    intro xs h
    have hne : xs ≠ [] := by intro e; rw [e] at h; simp at h
    rw [← List.dropLast_concat_getLast hne, dsz_snoc]
    have := ih xs.dropLast (by simp [h])
    split <;> simp <;> simp at this <;> omega
def inP (na nb : Int) (p : PS) : Bool := decide (0 ≤ p.f0 ∧ p.f0 < na ∧ 0 ≤ p.f1 ∧ p.f1 < nb)
/-- Where the first loop stands. -/
structure ChkAt (w : World) (l : List PS) (na nb : Int) (t : Nat) (wr : World) : Prop where
  ht : t ≤ l.length
  hin : (l.take t).all (inP na nb) = true
  ma : MapI wr w.heap.size (dsz ((l.map (·.f0)).take t)) (cntI ((l.map (·.f0)).take t))
  mb : MapI wr (w.heap.size + 1) (dsz ((l.map (·.f1)).take t)) (cntI ((l.map (·.f1)).take t))
  hb : Below w.heap.size w wr
theorem ChkAt.below {w : World} {l : List PS} {na nb : Int} {t : Nat} {wr wr' : World} (h : ChkAt w l na nb t wr) (hb : Below wr.heap.size wr wr') : ChkAt w l na nb t wr' :=
  ⟨h.ht, h.hin, h.ma.below hb, h.mb.below hb, h.hb.trans (hb.mono h.hb.size)⟩
theorem ChkAt.sa {w : World} {l : List PS} {na nb : Int} {t : Nat} {wr : World} (h : ChkAt w l na nb t wr) (hl : l.length ≤ 100000) : dsz ((l.map (·.f0)).take t) < maxLen := by
  have := dsz_le ((l.map (·.f0)).take t)
  rw [List.length_take, List.length_map] at this
  unfold maxLen; omega
theorem ChkAt.sb {w : World} {l : List PS} {na nb : Int} {t : Nat} {wr : World} (h : ChkAt w l na nb t wr) (hl : l.length ≤ 100000) : dsz ((l.map (·.f1)).take t) < maxLen := by
  have := dsz_le ((l.map (·.f1)).take t)
  rw [List.length_take, List.length_map] at this
  unfold maxLen; omega
theorem cntI_step {xs : List Int} {x : Int} (hl : xs.length ≤ 100000) : upd (cntI xs) x (wrap64 ((cntI xs x).getD 0 + 1)) = cntI (xs ++ [x]) := by
  rw [cntI_snoc, cntI_getD]
  have := List.count_le_length (a := x) (l := xs)
  rw [show wrap64 ((xs.count x : Nat) + 1 : Int) = (xs.count x : Nat) + 1 from by unfold wrap64; omega]
theorem ChkAt.next {w : World} {l : List PS} {na nb : Int} {t : Nat} {w2 w3 w4 : World} {p : PS} (h : ChkAt w l na nb t w2) (hl : l.length ≤ 100000) (hin : inP na nb p = true) (htk : l.take (t + 1) = l.take t ++ [p]) (hlt : t < l.length)
    (hm1 : MapI w3 w.heap.size (grow (cntI ((l.map (·.f0)).take t)) p.f0 (dsz ((l.map (·.f0)).take t))) (upd (cntI ((l.map (·.f0)).take t)) p.f0 (wrap64 ((cntI ((l.map (·.f0)).take t) p.f0).getD 0 + 1)))) (hg1 : w2.grownBy w3 (some w.heap.size))
    (hm2 : MapI w4 (w.heap.size + 1) (grow (cntI ((l.map (·.f1)).take t)) p.f1 (dsz ((l.map (·.f1)).take t))) (upd (cntI ((l.map (·.f1)).take t)) p.f1 (wrap64 ((cntI ((l.map (·.f1)).take t) p.f1).getD 0 + 1)))) (hg2 : w3.grownBy w4 (some (w.heap.size + 1))) :
    ChkAt w l na nb (t + 1) w4 := by
  have hl1 : ((l.map (·.f0)).take t).length ≤ 100000 := by rw [List.length_take, List.length_map]; omega
  have hl2 : ((l.map (·.f1)).take t).length ≤ 100000 := by rw [List.length_take, List.length_map]; omega
  rw [cntI_step hl1, dsz_grow] at hm1
  rw [cntI_step hl2, dsz_grow] at hm2
  have e0 : (l.map (·.f0)).take (t + 1) = (l.map (·.f0)).take t ++ [p.f0] := by rw [← List.map_take, ← List.map_take, htk]; simp
  have e1 : (l.map (·.f1)).take (t + 1) = (l.map (·.f1)).take t ++ [p.f1] := by rw [← List.map_take, ← List.map_take, htk]; simp
  have hb3 := h.hb.grown hg1 h.hb.size (fun j hj => by cases hj; exact Nat.le_refl _)
  refine ⟨hlt, by rw [htk, List.all_append, h.hin]; simpa using hin, ?_, ?_, hb3.grown hg2 hb3.size (fun j hj => by cases hj; omega)⟩
  · rw [e0]; exact hm1.kept hg2 (by simp)
  · rw [e1]; exact hm2
theorem ChkAt.done {w : World} {l : List PS} {na nb : Int} {wr : World} (h : ChkAt w l na nb l.length wr) : l.all (inP na nb) = true ∧ MapI wr w.heap.size (dsz (l.map (·.f0))) (cntI (l.map (·.f0))) ∧ MapI wr (w.heap.size + 1) (dsz (l.map (·.f1))) (cntI (l.map (·.f1))) := by
  have h1 := h.hin
  have h2 := h.ma
  have h3 := h.mb
  rw [List.take_length] at h1
  rw [show (l.map (·.f0)).take l.length = l.map (·.f0) from List.take_of_length_le (by simp)] at h2
  rw [show (l.map (·.f1)).take l.length = l.map (·.f1) from List.take_of_length_le (by simp)] at h3
  exact ⟨h1, h2, h3⟩
end Go.Proofs.Ytoefeboikkhdkaa.X
end
section
namespace Go.Proofs.Ytoefeboikkhdkaa.X
open Go.RowKit Go.Maps Go.Proofs.YtoefeboikkhdkaaW.PrintWords Go.Proofs.Ytoefeboikkhdkaa.GMap
set_option linter.unusedVariables false
theorem intAt {w : World} {A : Option Addr} {l : List Int} (h : Kd.C (Kd.int .i64) w A l.length l) {k : Nat} (hk : k < l.length) : ∃ ad, A = some ad ∧ w.cell? (ad.add k) = some (.int .i64 (rd l (k : Int))) := by
  obtain ⟨ad, e, hx⟩ := Kd.at_int h (k : Int) (by omega) (by omega)
  exact ⟨ad, e, hx⟩
theorem take_rdI {l : List Int} {k : Nat} (h : k < l.length) : l.take (k + 1) = l.take k ++ [rd l (k : Int)] := by
  unfold rd
  rw [show (k : Int).toNat = k from rfl, List.getD_eq_getElem?_getD, List.getElem?_eq_getElem h, List.take_succ_eq_append_getElem h]; rfl
theorem maxI (a b : Int) (W : World) : (Builtin.max_ #[3, 3] 3 #[.int .i64 a, .int .i64 b]).run Try.prog W = .ok (.int .i64 (max a b)) W := by
  rw [Go.Proofs.YtoefeboikkhdkaaW.PrintMore.max_two, Go.Proofs.YtoefeboikkhdkaaW.PrintMore.max2_int]
  show Result.ok (Value.int .i64 (if a < b then b else a)) W = _
  rw [show (if a < b then b else a) = max a b from by split <;> omega]
theorem pfirst_calls (x y : Int) (w : World) : Calls Try.prog 83 #[.agg #[.int .i64 x, .int .i64 y]] w fun e w' => e = .returned (.int .i64 x) ∧ Below w.heap.size w w' := by
  go_enter Try.func83, Try.ntmps83
  go_wp2
  go_ret
  exact ⟨rfl, (Below.refl _ _).alloc (Nat.le_refl _) _⟩
theorem psecond_calls (x y : Int) (w : World) : Calls Try.prog 84 #[.agg #[.int .i64 x, .int .i64 y]] w fun e w' => e = .returned (.int .i64 y) ∧ Below w.heap.size w w' := by
  go_enter Try.func84, Try.ntmps84
  go_wp2
  go_ret
  exact ⟨rfl, (Below.refl _ _).alloc (Nat.le_refl _) _⟩
/-- The numbers below n that are not among some. -/
def restR (xs : List Int) (n : Nat) : List Int := (List.range n).flatMap fun (i : Nat) => if xs.count ((i : Nat) : Int) = 0 then [((i : Nat) : Int)] else []
theorem restR_succ (xs : List Int) (n : Nat) : restR xs (n + 1) = restR xs n ++ if xs.count (n : Int) = 0 then [(n : Int)] else [] := by
  unfold restR; rw [List.range_succ, List.flatMap_append]; simp
theorem restR_le (xs : List Int) : ∀ n, (restR xs n).length ≤ n
  | 0 => by simp [restR]
  | n + 1 => by rw [restR_succ, List.length_append]; have := restR_le xs n; split <;> simp <;> omega
structure RestAt (w : World) (xs : List Int) (t : Nat) (wr : World) : Prop where
  ht : t ≤ xs.length
  m : MapI wr w.heap.size (dsz (xs.take t)) (cntI (xs.take t))
  hb : Below w.heap.size w wr
theorem RestAt.below {w : World} {xs : List Int} {t : Nat} {wr wr' : World} (h : RestAt w xs t wr) (hb : Below wr.heap.size wr wr') : RestAt w xs t wr' := ⟨h.ht, h.m.below hb, h.hb.trans (hb.mono h.hb.size)⟩
theorem RestAt.sa {w : World} {xs : List Int} {t : Nat} {wr : World} (h : RestAt w xs t wr) (hl : xs.length ≤ 100000) : dsz (xs.take t) < maxLen := by
  have := dsz_le (xs.take t)
  rw [List.length_take] at this
  unfold maxLen; omega
theorem RestAt.next {w : World} {xs : List Int} {t : Nat} {w2 w3 : World} {x : Int} (h : RestAt w xs t w2) (hl : xs.length ≤ 100000) (hlt : t < xs.length) (hx : xs.take (t + 1) = xs.take t ++ [x])
    (hm1 : MapI w3 w.heap.size (grow (cntI (xs.take t)) x (dsz (xs.take t))) (upd (cntI (xs.take t)) x (wrap64 ((cntI (xs.take t) x).getD 0 + 1)))) (hg1 : w2.grownBy w3 (some w.heap.size)) : RestAt w xs (t + 1) w3 := by
  rw [cntI_step (by rw [List.length_take]; omega), dsz_grow, ← hx] at hm1
  exact ⟨hlt, hm1, h.hb.grown hg1 h.hb.size (fun j hj => by cases hj; exact Nat.le_refl _)⟩
theorem encs_snoc (xs : List Int) (x : Int) : encs (Value.int .i64) (xs ++ [x]) = encs (Value.int .i64) xs ++ [.int .i64 x] := by simp [encs]
theorem len_snoc (xs : List Int) (x : Int) : (xs ++ [x]).length = xs.length + 1 := by simp
theorem rest_step {w wr w1 : World} {vo : Value} {n s : Nat} {xs : List Value} {f : Int → Option Int} {o : Obj} (ho : wr.ownsRow w.heap.size 3 1 vo n xs) (hm : MapI wr w.heap.size s f) (hb : Below w.heap.size w wr) (hg : (wr.alloc o).grownBy w1 vo.ownBlock) :
    MapI w1 w.heap.size s f ∧ Below w.heap.size w w1 := by
  refine ⟨(hm.alloc o).kept hg (fun e => ?_), (hb.alloc hb.size o).grown hg (by simp; have := hb.size; omega) (fun k hk => own_base ho k hk)⟩
  obtain ⟨cells, hc⟩ := own_typed ho _ e.symm
  exact hm.noCells hc
set_option maxRecDepth 100000 in
set_option maxHeartbeats 800000 in
theorem restA_calls (A0 : Option Addr) (c0 : Nat) (l0 : List PS) (n : Int) (w : World) (hr0 : Kd.C k37 w A0 l0.length l0) (hok : okP l0 = true) (hn : n ≤ 100000) :
    Calls Try.prog 82 #[.slice A0 l0.length c0, .int .i64 n, .func (.func 83) #[] #[]] w fun e w' => ∃ v, e = .returned v ∧ w'.ownsRow w.heap.size 3 1 v (restR (l0.map (·.f0)) n.toNat).length (encs (Value.int .i64) (restR (l0.map (·.f0)) n.toNat)) ∧ Below w.heap.size w w' := by
  have HR := Aside0.mk hr0
  have HL := Aside0.mk hok
  have hlen := okP_len hok
  have hmm := @run_makeMap Try.prog
  have hmx : ∀ W : World, (Builtin.max_ #[3, 3] 3 #[.int .i64 n, .int .i64 0]).run Try.prog W = .ok (.int .i64 (n.toNat : Nat)) W := fun W => by rw [maxI, show max n 0 = ((n.toNat : Nat) : Int) from by omega]
  clear hr0 hok
  go_enter Try.func82, Try.ntmps82
  go_wp2
  go_loopw [15] (fun vi wr => ∃ t : Nat, vi = .int .i64 t ∧ RestAt w (l0.map (·.f0)) t wr)
    (fun vi _ => l0.length - (intOf vi).toNat)
  case atStart =>
    refine ⟨0, rfl, Nat.zero_le _, ?_, (Below.refl _ _).alloc (Nat.le_refl _) _⟩
    have e : cntI ((l0.map (·.f0)).take 0) = fun _ => none := by funext k; simp [cntI]
    rw [e]; exact MapO.made Try.prog 3 3 encI w
  case round =>
    obtain ⟨t, rfl, hch⟩ := hrel
    by_cases hlt : t < l0.length
    · have HR2 := Aside0.mk (Kd.C_below HR.out hch.hb)
      have hwf := okP_mem HL.out _ (rdP_mem hlt)
      have htk : (l0.map (·.f0)).take (t + 1) = (l0.map (·.f0)).take t ++ [(rd_T37 l0 (t : Int)).f0] := by rw [← List.map_take, ← List.map_take, take_rdP hlt]; simp
      have HTK := Aside0.mk htk
      clear htk
      obtain ⟨ad, eA, hx0, hx1⟩ := pairAt HR2.out hlt
      cases eA
      generalize hp : rd_T37 l0 (t : Int) = p at *
      clear hp
      have HC := Aside0.mk hch
      clear hch
      go_wp2_with (first
        | (go_at_call 83; refine (pfirst_calls _ _ _).mono ?_; rintro e w2 ⟨rfl, hb2⟩; have HC2 := HC.out.below (((Below.refl _ _).alloc (Nat.le_refl _) _).trans (hb2.mono (by simp))))
        | (at_lookup; refine lookup_arm lawI Try.underlying72 Try.underlying3 zeroI rfl _ _ rfl _ _ _ rfl HC2.m _ _ rfl (keyI hwf.1) ?_; intro hwc)
        | (at_mapUpdate; refine store_arm lawI Try.underlying72 Try.underlying3 rfl _ _ _ rfl _ _ _ rfl HC2.m (HC2.sa (by simpa using hlen)) _ _ rfl (keyI hwf.1) _ rfl (wrap64_wf _) ?_; intro w3 hm1 hg1))
      have hn2 := HC2.next (by simpa using hlen) (by simpa using hlt) HTK.out hm1 hg1
      go_roundw
      case rel => exact ⟨t + 1, by go_num, hn2⟩
      case measure => simp [intOf]; omega
    · obtain rfl : t = l0.length := by have := hch.ht; rw [List.length_map] at this; omega
      have hM : MapI wr w.heap.size (dsz (l0.map (·.f0))) (cntI (l0.map (·.f0))) := by
        have := hch.m
        rwa [show (l0.map (·.f0)).take l0.length = l0.map (·.f0) from List.take_of_length_le (by simp)] at this
      have hb := hch.hb
      clear hch
      obtain ⟨i0, hi, hz0, hz1, hz2⟩ := info_parts info3
      go_wp2
      go_loopw [28, 10] (fun vi vo wr => ∃ (i : Nat), vi = .int .i64 i ∧ i ≤ n.toNat ∧ wr.ownsRow w.heap.size 3 1 vo (restR (l0.map (·.f0)) i).length (encs (Value.int .i64) (restR (l0.map (·.f0)) i)) ∧
          MapI wr w.heap.size (dsz (l0.map (·.f0))) (cntI (l0.map (·.f0))) ∧ Below w.heap.size w wr)
        (fun vi _ _ => n.toNat - (intOf vi).toNat)
      case atStart => exact ⟨0, rfl, Nat.zero_le _, by simpa [restR, encs] using World.ownsRow_nil _ _ _ _, hM, hb⟩
      case round =>
        obtain ⟨i, rfl, hi', ho, hm, hb⟩ := hrel
        by_cases hlt : i < n.toNat
        · have hlt' : (i : Int) < max n 0 := by omega
          have hwi : (Lit.int .i64 (i : Int)).wf = true := by exact WalkArith.wf_i64 (by omega)
          have hcnt := cntI_getD (l0.map (·.f0)) (i : Int)
          have hle := restR_le (l0.map (·.f0)) i
          have hml : (restR (l0.map (·.f0)) i).length + 1 ≤ maxLen := by unfold maxLen; omega
          have hsz := hb.size
          by_cases hz : (l0.map (·.f0)).count (i : Int) = 0
          · rw [hz] at hcnt
            have hs := restR_succ (l0.map (·.f0)) i
            rw [if_pos hz] at hs
            have HSU := Aside0.mk hs
            clear hs
            go_wp2_with (first
              | (at_lookup; refine lookup_arm lawI Try.underlying72 Try.underlying3 zeroI rfl _ _ rfl _ _ _ rfl hm _ _ rfl (keyI hwi) ?_; rw [hcnt]; intro hwc)
              | (at_builtin; refine wpList_append_own _ rfl _ _ 82 rfl w.heap.size 3 i0 (.int .i64 0) 1 8 Try.underlying82 hi hz0 hz1 hz2 rfl (by decide) _ _ _ rfl (ho.alloc _) ⟨wr.heap.size, 0, none⟩ 1 1 [.int .i64 (i : Int)] rfl rfl (cell_one_new _ _ _) (by simp [Value.oneCell']) hml (by omega) (by simp; omega) ?_; intro v' w1 hown' hgrow _))
            rw [← encs_snoc, ← len_snoc _ (i : Int), ← HSU.out] at hown'
            obtain ⟨hm2, hb2⟩ := rest_step ho hm hb hgrow
            go_roundw
            case rel => exact ⟨i + 1, by go_num, by omega, hown', hm2, hb2⟩
            case measure => simp [intOf]; omega
          · have hs := restR_succ (l0.map (·.f0)) i
            rw [if_neg hz, List.append_nil] at hs
            have hpos : ¬ ((l0.map (·.f0)).count (i : Int) : Int) = 0 := by omega
            have HSU := Aside0.mk hs
            clear hs
            generalize hv : ((l0.map (·.f0)).count (i : Int) : Int) = cv at *
            go_wp2_with (first
              | (at_lookup; refine lookup_arm lawI Try.underlying72 Try.underlying3 zeroI rfl _ _ rfl _ _ _ rfl hm _ _ rfl (keyI hwi) ?_; rw [hcnt]; intro hwc))
            go_roundw
            case rel => exact ⟨i + 1, by go_num, by omega, by rw [HSU.out]; exact ho, hm, hb⟩
            case measure => simp [intOf]; omega
        · have hlt' : ¬ (i : Int) < max n 0 := by omega
          obtain rfl : i = n.toNat := by omega
          go_wp2
          go_ret
          exact ⟨_, rfl, ho, hb⟩
set_option maxRecDepth 100000 in
set_option maxHeartbeats 800000 in
theorem restB_calls (A0 : Option Addr) (c0 : Nat) (l0 : List PS) (n : Int) (w : World) (hr0 : Kd.C k37 w A0 l0.length l0) (hok : okP l0 = true) (hn : n ≤ 100000) :
    Calls Try.prog 82 #[.slice A0 l0.length c0, .int .i64 n, .func (.func 84) #[] #[]] w fun e w' => ∃ v, e = .returned v ∧ w'.ownsRow w.heap.size 3 1 v (restR (l0.map (·.f1)) n.toNat).length (encs (Value.int .i64) (restR (l0.map (·.f1)) n.toNat)) ∧ Below w.heap.size w w' := by
  have HR := Aside0.mk hr0
  have HL := Aside0.mk hok
  have hlen := okP_len hok
  have hmm := @run_makeMap Try.prog
  have hmx : ∀ W : World, (Builtin.max_ #[3, 3] 3 #[.int .i64 n, .int .i64 0]).run Try.prog W = .ok (.int .i64 (n.toNat : Nat)) W := fun W => by rw [maxI, show max n 0 = ((n.toNat : Nat) : Int) from by omega]
  clear hr0 hok
  go_enter Try.func82, Try.ntmps82
  go_wp2
  go_loopw [15] (fun vi wr => ∃ t : Nat, vi = .int .i64 t ∧ RestAt w (l0.map (·.f1)) t wr)
    (fun vi _ => l0.length - (intOf vi).toNat)
  case atStart =>
    refine ⟨0, rfl, Nat.zero_le _, ?_, (Below.refl _ _).alloc (Nat.le_refl _) _⟩
    have e : cntI ((l0.map (·.f1)).take 0) = fun _ => none := by funext k; simp [cntI]
    rw [e]; exact MapO.made Try.prog 3 3 encI w
  case round =>
    obtain ⟨t, rfl, hch⟩ := hrel
    by_cases hlt : t < l0.length
    · have HR2 := Aside0.mk (Kd.C_below HR.out hch.hb)
      have hwf := okP_mem HL.out _ (rdP_mem hlt)
      have htk : (l0.map (·.f1)).take (t + 1) = (l0.map (·.f1)).take t ++ [(rd_T37 l0 (t : Int)).f1] := by rw [← List.map_take, ← List.map_take, take_rdP hlt]; simp
      have HTK := Aside0.mk htk
      clear htk
      obtain ⟨ad, eA, hx0, hx1⟩ := pairAt HR2.out hlt
      cases eA
      generalize hp : rd_T37 l0 (t : Int) = p at *
      clear hp
      have HC := Aside0.mk hch
      clear hch
      go_wp2_with (first
        | (go_at_call 84; refine (psecond_calls _ _ _).mono ?_; rintro e w2 ⟨rfl, hb2⟩; have HC2 := HC.out.below (((Below.refl _ _).alloc (Nat.le_refl _) _).trans (hb2.mono (by simp))))
        | (at_lookup; refine lookup_arm lawI Try.underlying72 Try.underlying3 zeroI rfl _ _ rfl _ _ _ rfl HC2.m _ _ rfl (keyI hwf.2) ?_; intro hwc)
        | (at_mapUpdate; refine store_arm lawI Try.underlying72 Try.underlying3 rfl _ _ _ rfl _ _ _ rfl HC2.m (HC2.sa (by simpa using hlen)) _ _ rfl (keyI hwf.2) _ rfl (wrap64_wf _) ?_; intro w3 hm1 hg1))
      have hn2 := HC2.next (by simpa using hlen) (by simpa using hlt) HTK.out hm1 hg1
      go_roundw
      case rel => exact ⟨t + 1, by go_num, hn2⟩
      case measure => simp [intOf]; omega
    · obtain rfl : t = l0.length := by have := hch.ht; rw [List.length_map] at this; omega
      have hM : MapI wr w.heap.size (dsz (l0.map (·.f1))) (cntI (l0.map (·.f1))) := by
        have := hch.m
        rwa [show (l0.map (·.f1)).take l0.length = l0.map (·.f1) from List.take_of_length_le (by simp)] at this
      have hb := hch.hb
      clear hch
      obtain ⟨i0, hi, hz0, hz1, hz2⟩ := info_parts info3
      go_wp2
      go_loopw [28, 10] (fun vi vo wr => ∃ (i : Nat), vi = .int .i64 i ∧ i ≤ n.toNat ∧ wr.ownsRow w.heap.size 3 1 vo (restR (l0.map (·.f1)) i).length (encs (Value.int .i64) (restR (l0.map (·.f1)) i)) ∧
          MapI wr w.heap.size (dsz (l0.map (·.f1))) (cntI (l0.map (·.f1))) ∧ Below w.heap.size w wr)
        (fun vi _ _ => n.toNat - (intOf vi).toNat)
      case atStart => exact ⟨0, rfl, Nat.zero_le _, by simpa [restR, encs] using World.ownsRow_nil _ _ _ _, hM, hb⟩
      case round =>
        obtain ⟨i, rfl, hi', ho, hm, hb⟩ := hrel
        by_cases hlt : i < n.toNat
        · have hlt' : (i : Int) < max n 0 := by omega
          have hwi : (Lit.int .i64 (i : Int)).wf = true := by exact WalkArith.wf_i64 (by omega)
          have hcnt := cntI_getD (l0.map (·.f1)) (i : Int)
          have hle := restR_le (l0.map (·.f1)) i
          have hml : (restR (l0.map (·.f1)) i).length + 1 ≤ maxLen := by unfold maxLen; omega
          have hsz := hb.size
          by_cases hz : (l0.map (·.f1)).count (i : Int) = 0
          · rw [hz] at hcnt
            have hs := restR_succ (l0.map (·.f1)) i
            rw [if_pos hz] at hs
            have HSU := Aside0.mk hs
            clear hs
            go_wp2_with (first
              | (at_lookup; refine lookup_arm lawI Try.underlying72 Try.underlying3 zeroI rfl _ _ rfl _ _ _ rfl hm _ _ rfl (keyI hwi) ?_; rw [hcnt]; intro hwc)
              | (at_builtin; refine wpList_append_own _ rfl _ _ 82 rfl w.heap.size 3 i0 (.int .i64 0) 1 8 Try.underlying82 hi hz0 hz1 hz2 rfl (by decide) _ _ _ rfl (ho.alloc _) ⟨wr.heap.size, 0, none⟩ 1 1 [.int .i64 (i : Int)] rfl rfl (cell_one_new _ _ _) (by simp [Value.oneCell']) hml (by omega) (by simp; omega) ?_; intro v' w1 hown' hgrow _))
            rw [← encs_snoc, ← len_snoc _ (i : Int), ← HSU.out] at hown'
            obtain ⟨hm2, hb2⟩ := rest_step ho hm hb hgrow
            go_roundw
            case rel => exact ⟨i + 1, by go_num, by omega, hown', hm2, hb2⟩
            case measure => simp [intOf]; omega
          · have hs := restR_succ (l0.map (·.f1)) i
            rw [if_neg hz, List.append_nil] at hs
            have hpos : ¬ ((l0.map (·.f1)).count (i : Int) : Int) = 0 := by omega
            have HSU := Aside0.mk hs
            clear hs
            generalize hv : ((l0.map (·.f1)).count (i : Int) : Int) = cv at *
            go_wp2_with (first
              | (at_lookup; refine lookup_arm lawI Try.underlying72 Try.underlying3 zeroI rfl _ _ rfl _ _ _ rfl hm _ _ rfl (keyI hwi) ?_; rw [hcnt]; intro hwc))
            go_roundw
            case rel => exact ⟨i + 1, by go_num, by omega, by rw [HSU.out]; exact ho, hm, hb⟩
            case measure => simp [intOf]; omega
        · have hlt' : ¬ (i : Int) < max n 0 := by omega
          obtain rfl : i = n.toNat := by omega
          go_wp2
          go_ret
          exact ⟨_, rfl, ho, hb⟩
theorem R_int {w' : World} {base : Nat} {v : Value} {xs : List Int} (ho : w'.ownsRow base 3 1 v xs.length (encs (Value.int .i64) xs)) : Kd.R (Kd.int .i64) 3 w' base (fun _ => True) v xs := Kd.R_of_own ho (fun _ _ => trivial)
def pairs_RestA.f (l : List PS) (na : Int) : Option (List Int) := if okP l = true ∧ na ≤ 100000 then some (restR (l.map (·.f0)) na.toNat) else none
def pairs_RestB.f (l : List PS) (na : Int) : Option (List Int) := if okP l = true ∧ na ≤ 100000 then some (restR (l.map (·.f1)) na.toNat) else none
theorem pairs_RestA.calls (A0 : Option Addr) (c0 : Nat) (l0 : List PS) (a1 : Int) (r : List Int) (w : World) (hr0 : Kd.C k37 w A0 l0.length l0) (hc0 : l0.length ≤ c0) (h : pairs_RestA.f l0 a1 = some r) :
    Calls Try.prog 55 #[.slice A0 l0.length c0, .int .i64 a1] w fun e w' => ∃ v0_ : Value, e = .returned (v0_) ∧ Kd.R (Kd.int .i64) 3 w' w.heap.size (fun _ => True) v0_ r ∧ Below w.heap.size w w' := by
  unfold pairs_RestA.f at h
  split at h
  · rename_i hok
    have H := Aside0.mk (Option.some.inj h)
    have HR := Aside0.mk hr0
    have HL := Aside0.mk hok
    clear h hr0 hok hc0
    go_enter Try.func55, Try.ntmps55
    go_wp2_with (first | (go_at_call 82; refine (restA_calls A0 c0 l0 a1 _ HR.out HL.out.1 HL.out.2).mono ?_; rintro e w1 ⟨v, rfl, ho, hb⟩))
    go_ret
    rw [← H.out]
    exact ⟨v, rfl, R_int ho, hb⟩
  · exact nomatch h
theorem pairs_RestB.calls (A0 : Option Addr) (c0 : Nat) (l0 : List PS) (a1 : Int) (r : List Int) (w : World) (hr0 : Kd.C k37 w A0 l0.length l0) (hc0 : l0.length ≤ c0) (h : pairs_RestB.f l0 a1 = some r) :
    Calls Try.prog 56 #[.slice A0 l0.length c0, .int .i64 a1] w fun e w' => ∃ v0_ : Value, e = .returned (v0_) ∧ Kd.R (Kd.int .i64) 3 w' w.heap.size (fun _ => True) v0_ r ∧ Below w.heap.size w w' := by
  unfold pairs_RestB.f at h
  split at h
  · rename_i hok
    have H := Aside0.mk (Option.some.inj h)
    have HR := Aside0.mk hr0
    have HL := Aside0.mk hok
    clear h hr0 hok hc0
    go_enter Try.func56, Try.ntmps56
    go_wp2_with (first | (go_at_call 82; refine (restB_calls A0 c0 l0 a1 _ HR.out HL.out.1 HL.out.2).mono ?_; rintro e w1 ⟨v, rfl, ho, hb⟩))
    go_ret
    rw [← H.out]
    exact ⟨v, rfl, R_int ho, hb⟩
  · exact nomatch h
end Go.Proofs.Ytoefeboikkhdkaa.X
end
section
namespace Go.Proofs.Ytoefeboikkhdkaa.X
open Go.RowKit Go.Maps Go.Proofs.YtoefeboikkhdkaaW.PrintWords Go.Proofs.Ytoefeboikkhdkaa.GMap
set_option linter.unusedVariables false
/-- Pairs' cells, one behind the other. -/
def cellsS (ps : List PS) : List Value := ps.flatMap fun p => [.int .i64 p.f0, .int .i64 p.f1]
theorem cellsS_snoc (ps : List PS) (p : PS) : cellsS (ps ++ [p]) = cellsS ps ++ [.int .i64 p.f0, .int .i64 p.f1] := by simp [cellsS]
theorem reps_cellsS {w : World} {base : Nat} {ok : Nat → Prop} (ps : List PS) : Reps (k37.M w base ok) 2 ps (cellsS ps) := by
  suffices h : ∀ (n : Nat) (ps : List PS), ps.length = n → Reps (k37.M w base ok) 2 ps (cellsS ps) from h _ ps rfl
  intro n
  induction n with
  | zero => intro ps h; obtain rfl := List.eq_nil_of_length_eq_zero h; exact Reps.none _ _
  | succ n ih =>
    intro ps h
    have hne : ps ≠ [] := by intro e; rw [e] at h; simp at h
    rw [← List.dropLast_concat_getLast hne, cellsS_snoc]
    exact (ih ps.dropLast (by simp [h])).snoc (k37_mkM w base ok _) rfl
theorem R_pairs {w' : World} {base : Nat} {v : Value} {ps : List PS} (ho : w'.ownsRow base 37 2 v ps.length (cellsS ps)) : Kd.R k37 37 w' base (fun _ => True) v ps :=
  ⟨fun _ _ => trivial, cellsS ps, ho, reps_cellsS _⟩
theorem row_step {w wr w1 : World} {vo : Value} {n e z : Nat} {xs : List Value} {o : Obj} (ho : wr.ownsRow w.heap.size e z vo n xs) (hb : Below w.heap.size w wr) (hg : (wr.alloc o).grownBy w1 vo.ownBlock) : Below w.heap.size w w1 :=
  (hb.alloc hb.size o).grown hg (by simp; have := hb.size; omega) (fun k hk => own_base ho k hk)
theorem cell_two_at (w : World) (a b : Value) (t : TypeId) (B : Nat) (hB : B = w.heap.size) : ∀ j u, [a, b][j]? = some u → (w.alloc (.cells #[a, b] t)).cell? ((⟨B, 0, none⟩ : Addr).add j) = some u := by
  subst hB; exact cell_two_new w a b t
end Go.Proofs.Ytoefeboikkhdkaa.X
end
section
namespace Go.Proofs.Ytoefeboikkhdkaa.X
open Go.RowKit Go.Maps Go.Proofs.YtoefeboikkhdkaaW.PrintWords Go.Proofs.Ytoefeboikkhdkaa.GMap
set_option linter.unusedVariables false
def swp (p : PS) : PS := ⟨p.f1, p.f0⟩
/-- One more, by B, behind those of the same B. -/
def putP (s : List PS) (p : PS) : List PS := s.takeWhile (fun q => decide (q.f1 ≤ p.f1)) ++ p :: s.dropWhile (fun q => decide (q.f1 ≤ p.f1))
def turnR (l : List PS) : List PS := (l.map swp).foldl putP []
def SortB (s : List PS) : Prop := s.Pairwise fun p q => p.f1 ≤ q.f1
theorem putP_len (s : List PS) (p : PS) : (putP s p).length = s.length + 1 := by
  unfold putP
  have := congrArg List.length (List.takeWhile_append_dropWhile (p := fun q : PS => decide (q.f1 ≤ p.f1)) (l := s))
  rw [List.length_append] at this
  rw [List.length_append, List.length_cons]; omega
theorem foldl_put_len : ∀ (ps s : List PS), (ps.foldl putP s).length = s.length + ps.length
  | [], _ => rfl
  | p :: ps, s => by rw [List.foldl_cons, foldl_put_len ps, putP_len, List.length_cons]; omega
theorem turnR_len (l : List PS) : (turnR l).length = l.length := by unfold turnR; rw [foldl_put_len]; simp
/-- Where the inner loop stops, it is put in. -/
theorem put_at (s : List PS) (p : PS) (hs : SortB s) (k : Nat) (hk : k ≤ s.length) (hhi : ∀ q ∈ s.drop k, p.f1 < q.f1) (hlo : k = 0 ∨ (rd_T37 s ((k - 1 : Nat) : Int)).f1 ≤ p.f1) : putP s p = s.take k ++ p :: s.drop k := by
  have hall : ∀ q ∈ s.take k, q.f1 ≤ p.f1 := by
    intro q hq
    rcases hlo with h0 | h0
    · subst h0; simp at hq
    · obtain ⟨j, hj, rfl⟩ := List.getElem_of_mem hq
      rw [List.length_take] at hj
      rw [List.getElem_take]
      have hk1 : k - 1 < s.length := by omega
      have e : rd_T37 s ((k - 1 : Nat) : Int) = s[k - 1] := by
        unfold rd_T37
        rw [show (((k - 1 : Nat) : Int)).toNat = k - 1 from rfl, List.getD_eq_getElem?_getD, List.getElem?_eq_getElem hk1]; rfl
      rw [e] at h0
      rcases Nat.lt_or_ge j (k - 1) with h1 | h1
      · have := List.pairwise_iff_getElem.1 hs j (k - 1) (by omega) hk1 h1
        omega
      · have : j = k - 1 := by omega
        subst this; exact h0
  have gen : ∀ (A D : List PS), (∀ q ∈ A, q.f1 ≤ p.f1) → (∀ q ∈ D, p.f1 < q.f1) → (A ++ D).takeWhile (fun q => decide (q.f1 ≤ p.f1)) = A ∧ (A ++ D).dropWhile (fun q => decide (q.f1 ≤ p.f1)) = D := by
    intro A D hA hD
    rw [List.takeWhile_append_of_pos (by intro q hq; exact decide_eq_true (hA q hq)), List.dropWhile_append_of_pos (by intro q hq; exact decide_eq_true (hA q hq))]
    cases D with
    | nil => simp
    | cons q t =>
      have := hD q List.mem_cons_self
      have hf : decide (q.f1 ≤ p.f1) = false := decide_eq_false (by omega)
      rw [List.takeWhile_cons, List.dropWhile_cons, hf]; simp
  have h1 := gen _ _ hall hhi
  rw [List.take_append_drop] at h1
  unfold putP
  rw [h1.1, h1.2]
theorem sort_put (s : List PS) (p : PS) (hs : SortB s) : SortB (putP s p) := by
  unfold putP SortB
  have e := List.takeWhile_append_dropWhile (p := fun q : PS => decide (q.f1 ≤ p.f1)) (l := s)
  have hlo : ∀ q ∈ s.takeWhile (fun q => decide (q.f1 ≤ p.f1)), q.f1 ≤ p.f1 := fun q hq => by simpa using List.all_eq_true.1 List.all_takeWhile q hq
  have hs' := hs
  unfold SortB at hs'
  rw [← e, List.pairwise_append] at hs'
  have hhi : ∀ q ∈ s.dropWhile (fun q => decide (q.f1 ≤ p.f1)), p.f1 ≤ q.f1 := by
    cases hd : s.dropWhile (fun q => decide (q.f1 ≤ p.f1)) with
    | nil => simp
    | cons q t =>
      have hq : ¬ q.f1 ≤ p.f1 := by
        have := List.head_dropWhile_not (fun q : PS => decide (q.f1 ≤ p.f1)) (l := s) (by rw [hd]; simp)
        simpa [hd] using this
      intro q' hq'
      have h2 := hs'.2.1
      rw [hd, List.pairwise_cons] at h2
      rcases List.mem_cons.1 hq' with rfl | h
      · omega
      · have := h2.1 q' h; omega
  rw [List.pairwise_append]
  refine ⟨hs'.1, ?_, fun a ha b hb => ?_⟩
  · rw [List.pairwise_cons]; exact ⟨hhi, hs'.2.1⟩
  · rcases List.mem_cons.1 hb with rfl | h
    · exact hlo a ha
    · exact hs'.2.2 a ha b h
theorem sort_fold : ∀ (ps s : List PS), SortB s → SortB (ps.foldl putP s)
  | [], _, h => h
  | p :: ps, s, h => sort_fold ps _ (sort_put s p h)
/-- A row of pairs that is written in place. -/
structure RowIn (w0 : World) (g cap : Nat) (ps : List PS) (W : World) : Prop where
  hg : w0.heap.size ≤ g
  blk : ∃ cur : Array Value, W.heap[g]? = some (.cells cur 73 (0, 0)) ∧ cur.size = cap * 2 ∧ cur.toList.take (ps.length * 2) = cellsS ps
  hcap : ps.length ≤ cap
  hmax : cap ≤ maxLen
  hb : Below w0.heap.size w0 W
theorem cellsS_get : ∀ (ps : List PS) (k : Nat), k < ps.length → (cellsS ps)[k * 2]? = some (.int .i64 (rd_T37 ps (k : Int)).f0) ∧ (cellsS ps)[k * 2 + 1]? = some (.int .i64 (rd_T37 ps (k : Int)).f1)
  | p :: ps, 0, _ => ⟨rfl, rfl⟩
  | p :: ps, k + 1, h => by
    have ih := cellsS_get ps k (by simpa using h)
    have e : rd_T37 (p :: ps) ((k + 1 : Nat) : Int) = rd_T37 ps (k : Int) := rfl
    rw [e]
    refine ⟨?_, ?_⟩
    · rw [← ih.1]; show ([Value.int .i64 p.f0, .int .i64 p.f1] ++ cellsS ps)[(k + 1) * 2]? = _
      rw [List.getElem?_append_right (by simp; omega)]; congr 1; simp; omega
    · rw [← ih.2]; show ([Value.int .i64 p.f0, .int .i64 p.f1] ++ cellsS ps)[(k + 1) * 2 + 1]? = _
      rw [List.getElem?_append_right (by simp; omega)]; congr 1; simp; omega
theorem cellsS_set : ∀ (ps : List PS) (k : Nat) (p : PS), k < ps.length → cellsS (ps.set k p) = ((cellsS ps).set (k * 2) (.int .i64 p.f0)).set (k * 2 + 1) (.int .i64 p.f1)
  | q :: ps, 0, p, _ => rfl
  | q :: ps, k + 1, p, h => by
    have ih := cellsS_set ps k p (by simpa using h)
    show [Value.int .i64 q.f0, .int .i64 q.f1] ++ cellsS (ps.set k p) = (([Value.int .i64 q.f0, .int .i64 q.f1] ++ cellsS ps).set ((k + 1) * 2) _).set ((k + 1) * 2 + 1) _
    rw [ih, show (k + 1) * 2 = k * 2 + 2 from by omega]
    rfl
theorem RowIn.at {w0 : World} {g cap : Nat} {ps : List PS} {W : World} (h : RowIn w0 g cap ps W) {k : Nat} (hk : k < ps.length) : W.cell? ⟨g, k * 2, none⟩ = some (.int .i64 (rd_T37 ps (k : Int)).f0) ∧ W.cell? ⟨g, k * 2 + 1, none⟩ = some (.int .i64 (rd_T37 ps (k : Int)).f1) ∧ W.frozen? ⟨g, k * 2, none⟩ = false ∧ W.frozen? ⟨g, k * 2 + 1, none⟩ = false := by
  obtain ⟨cur, h1, h2, h3⟩ := h.blk
  have hc := h.hcap
  obtain ⟨g1, g2⟩ := cellsS_get ps k hk
  rw [← h3, List.getElem?_take_of_lt (by omega)] at g1 g2
  refine ⟨?_, ?_, by simp [World.frozen?, h1], by simp [World.frozen?, h1]⟩
  · simp [World.cell?, h1]; rw [← g1]; simp
  · simp [World.cell?, h1]; rw [← g2]; simp
theorem blk_set {W : World} {g t : Nat} {cur : Array Value} (h : W.heap[g]? = some (.cells cur t (0, 0))) (j : Nat) (v : Value) : (W.setCell ⟨g, j, none⟩ v).heap[g]? = some (.cells (cur.setIfInBounds j v) t (0, 0)) := by
  obtain ⟨hlt, hk⟩ := Array.getElem?_eq_some_iff.1 h
  show (W.heap.modify g _)[g]? = _
  rw [Array.getElem?_eq_getElem (by rw [Array.size_modify]; exact hlt), Array.getElem_modify_self, hk]
  rfl
theorem RowIn.set {w0 : World} {g cap : Nat} {ps : List PS} {W : World} (h : RowIn w0 g cap ps W) {k : Nat} (hk : k < ps.length) (p : PS) : RowIn w0 g cap (ps.set k p) ((W.setCell ⟨g, k * 2, none⟩ (.int .i64 p.f0)).setCell ⟨g, k * 2 + 1, none⟩ (.int .i64 p.f1)) := by
  obtain ⟨cur, h1, h2, h3⟩ := h.blk
  have hc := h.hcap
  refine ⟨h.hg, ⟨_, blk_set (blk_set h1 _ _) _ _, by simp [h2], ?_⟩, by rw [List.length_set]; exact hc, h.hmax, (h.hb.setCell (by exact h.hg) _).setCell (by exact h.hg) _⟩
  rw [cellsS_set ps k p hk, List.length_set, ← h3]
  simp [List.take_set, Array.toList_setIfInBounds]
theorem RowIn.below {w0 : World} {g cap : Nat} {ps : List PS} {W W' : World} (h : RowIn w0 g cap ps W) (hb : Below W.heap.size W W') : RowIn w0 g cap ps W' := by
  obtain ⟨cur, h1, h2, h3⟩ := h.blk
  exact ⟨h.hg, ⟨cur, (hb.block _ (lt_of_block h1)).trans h1, h2, h3⟩, h.hcap, h.hmax, h.hb.trans (hb.mono h.hb.size)⟩
theorem RowIn.of {w0 W : World} {v : Value} {ps : List PS} (ho : W.ownsRow w0.heap.size 73 2 v ps.length (cellsS ps)) (hb : Below w0.heap.size w0 W) (hne : 0 < ps.length) : ∃ g cap, v = .slice (some ⟨g, 0, none⟩) ps.length cap ∧ RowIn w0 g cap ps W := by
  rcases ho.2 with ⟨_, h0⟩ | ⟨g, cap, cur, rfl, hg, hh, hc, hm, hs, ht⟩
  · omega
  · exact ⟨g, cap, rfl, hg, ⟨cur, hh, hs, ht⟩, hc, hm, hb⟩
theorem RowIn.grown {w0 : World} {g cap : Nat} {ps : List PS} {W W1 : World} (h : RowIn w0 g cap ps W) {o : Obj} {vo : Value} {n : Nat} {xs : List Value} (ho : W.ownsRow w0.heap.size 37 2 vo n xs) (hg : (W.alloc o).grownBy W1 vo.ownBlock) : RowIn w0 g cap ps W1 := by
  obtain ⟨cur, h1, h2, h3⟩ := h.blk
  refine ⟨h.hg, ⟨cur, (hg.block g (by simp; have := lt_of_block h1; omega) fun e => ?_).trans (blk_alloc h1 o), h2, h3⟩, h.hcap, h.hmax, row_step ho h.hb hg⟩
  obtain ⟨cells, hc⟩ := own_typed ho g e.symm
  rw [h1] at hc; simp at hc
theorem swap_two (A R : List PS) (s p : PS) : ((A ++ s :: p :: R).set (A.length + 1) s).set A.length p = A ++ p :: s :: R := by
  rw [List.set_append_right _ _ (by omega), List.set_append_right _ _ (by omega)]
  simp
theorem pturned_calls (x y : Int) (w : World) : Calls Try.prog 86 #[.agg #[.int .i64 x, .int .i64 y]] w fun e w' => e = .returned (.agg #[.int .i64 y, .int .i64 x]) ∧ Below w.heap.size w w' := by
  go_enter Try.func86, Try.ntmps86
  go_wp2
  refine bodyPost_ret (v := .agg #[.int .i64 y, .int .i64 x]) ?_ rfl ⟨rfl, ?_⟩
  · have hb : ((w.alloc (.cells #[.int .i64 x, .int .i64 y] 73)).alloc (.cells #[.int .i64 y, .int .i64 x] 73)).heap[w.heap.size + 1]? = some (.cells #[.int .i64 y, .int .i64 x] 73 (0, 0)) := by rw [ha, if_pos (by simp)]
    generalize (w.alloc (.cells #[.int .i64 x, .int .i64 y] 73)).alloc (.cells #[.int .i64 y, .int .i64 x] 73) = W2 at *
    have h0 : W2.cell? ⟨w.heap.size + 1, 0, none⟩ = some (.int .i64 y) := by simp [World.cell?, hb]
    have h1 : W2.cell? ⟨w.heap.size + 1, 1, none⟩ = some (.int .i64 x) := by simp [World.cell?, hb]
    simp [results, Try.results86, go_sem, h0, h1]
  · exact ((Below.refl _ _).alloc (Nat.le_refl _) _).alloc (by simp) _
theorem info73P : (Try.prog.info? 73).map (fun i => (i.zero, i.size, i.bytes)) = some (some (.agg #[(.int .i64 0), (.int .i64 0)]), 2, 16) := by kernel_rfl
def pairs_Turn.f (l : List PS) : Option (List PS) := if l.length ≤ 100000 then some (turnR l) else none
set_option maxRecDepth 100000 in
set_option maxHeartbeats 1600000 in
theorem pairs_Turn.calls (A0 : Option Addr) (c0 : Nat) (l0 : List PS) (r : List PS) (w : World) (hr0 : Kd.C k37 w A0 l0.length l0) (hc0 : l0.length ≤ c0) (h : pairs_Turn.f l0 = some r) :
    Calls Try.prog 60 #[.slice A0 l0.length c0] w fun e w' => ∃ v0_ : Value, e = .returned (v0_) ∧ Kd.R k37 37 w' w.heap.size (fun _ => True) v0_ r ∧ Below w.heap.size w w' := by
  unfold pairs_Turn.f at h
  split at h
  · rename_i hla
    have H := Aside0.mk (Option.some.inj h)
    have HR0 := Aside0.mk hr0
    obtain ⟨i0, hi, hz0, hz1, hz2⟩ := info_parts info37
    obtain ⟨j0, hj, hy0, hy1, hy2⟩ := info_parts info73P
    clear h hr0 hc0
    go_enter Try.func60, Try.ntmps60
    go_wp2
    go_loopw [13, 3] (fun vi vo wr => ∃ t : Nat, vi = .int .i64 t ∧ t ≤ l0.length ∧ wr.ownsRow w.heap.size 73 2 vo ((l0.map swp).take t).length (cellsS ((l0.map swp).take t)) ∧ Below w.heap.size w wr)
      (fun vi _ _ => l0.length - (intOf vi).toNat)
    case atStart => exact ⟨0, rfl, Nat.zero_le _, by simpa [cellsS] using World.ownsRow_nil _ _ _ _, Below.refl _ _⟩
    case round =>
      obtain ⟨t, rfl, ht, ho, hb⟩ := hrel
      by_cases hlt : t < l0.length
      · have HR2 := Aside0.mk (Kd.C_below HR0.out hb)
        have htk : (l0.map swp).take (t + 1) = (l0.map swp).take t ++ [swp (rd_T37 l0 (t : Int))] := by rw [← List.map_take, ← List.map_take, take_rdP hlt]; simp
        obtain ⟨ad, eA, hx0, hx1⟩ := pairAt HR2.out hlt
        cases eA
        generalize rd_T37 l0 (t : Int) = p at *
        have HTK := Aside0.mk htk
        clear htk
        have hml : ((l0.map swp).take t).length + 1 ≤ maxLen := by rw [List.length_take]; unfold maxLen; omega
        have hml2 : (((l0.map swp).take t).length + 1) * 16 ≤ 140737488355328 := by rw [List.length_take]; omega
        have HO := Aside0.mk ho
        clear ho
        go_wp2_with (first
          | (go_at_call 86; refine (pturned_calls _ _ _).mono ?_; rintro e w2 ⟨rfl, hb2⟩; have hbk := hb.trans ((((Below.refl _ _).alloc (Nat.le_refl _) _).trans (hb2.mono (by simp))).mono hb.size); have HO2 := Aside0.mk (pw_own_below HO.out (((Below.refl _ _).alloc (Nat.le_refl _) _).trans (hb2.mono (by simp)))))
          | (at_builtin; refine wpList_append_own _ rfl _ _ 113 rfl w.heap.size 73 j0 _ 2 16 Try.underlying113 hj hy0 hy1 hy2 rfl (by decide) _ _ _ rfl (HO2.out.alloc _) ⟨w2.heap.size, 0, none⟩ 1 1 [.int .i64 p.f1, .int .i64 p.f0] rfl rfl (cell_two_at _ _ _ _ _ rfl) (by simp [Value.oneCell']) hml hml2 (by simp; have := hbk.size; omega) ?_; intro v' w1 hown' hgrow _))
        have hbn := row_step HO2.out hbk hgrow
        have e : cellsS ((l0.map swp).take (t + 1)) = cellsS ((l0.map swp).take t) ++ [.int .i64 p.f1, .int .i64 p.f0] := by rw [HTK.out, cellsS_snoc]; rfl
        have e2 : ((l0.map swp).take (t + 1)).length = ((l0.map swp).take t).length + 1 := by rw [HTK.out]; simp
        rw [← e, ← e2] at hown'
        clear e e2
        go_roundw
        case rel => exact ⟨t + 1, by go_num, by omega, hown', hbn⟩
        case measure => simp [intOf]; omega
      · obtain rfl : t = l0.length := by omega
        have ho' : wr.ownsRow w.heap.size 73 2 u3 (l0.map swp).length (cellsS (l0.map swp)) := by
          rwa [show (l0.map swp).take l0.length = l0.map swp from List.take_of_length_le (by simp)] at ho
        clear ho
        by_cases h0 : l0.length = 0
        · have he : l0 = [] := List.eq_nil_of_length_eq_zero h0
          subst he
          rcases ho'.2 with ⟨rfl, _⟩ | ⟨g, cap, cur, rfl, hg, hh, hc, hm, hs, _⟩
          all_goals
            go_wp2
            go_loopw [25] (fun vi wk => vi = .int .i64 0 ∧ Below w.heap.size w wk) (fun _ _ => 0)
            case atStart => exact ⟨rfl, hb⟩
            case round =>
              obtain ⟨rfl, hb2⟩ := hrel
              go_wp2
              go_loopw [66, 8] (fun vi vo wk => vi = .int .i64 0 ∧ vo = .slice none 0 0 ∧ Below w.heap.size w wk) (fun _ _ _ => 0)
              case atStart => exact ⟨rfl, rfl, hb2⟩
              case round =>
                obtain ⟨rfl, rfl, hb3⟩ := hrel
                go_wp2
                go_ret
                rw [← H.out]
                exact ⟨_, rfl, Kd.R_nil _ _ _ _ _, hb3⟩
        · obtain ⟨g, cap, rfl, hrow⟩ := RowIn.of ho' hb (by simp; omega)
          clear ho' hb
          rw [List.length_map]
          go_wp2
          go_loopw [25] (fun vi wr => ∃ i : Nat, vi = .int .i64 i ∧ i ≤ l0.length ∧ RowIn w g cap (((l0.map swp).take i).foldl putP [] ++ (l0.map swp).drop i) wr)
            (fun vi _ => l0.length - (intOf vi).toNat)
          case atStart => exact ⟨0, rfl, Nat.zero_le _, by simpa using hrow⟩
          case round =>
            clear hrow
            obtain ⟨i, rfl, hi', hrow⟩ := hrel
            by_cases hlt : i < l0.length
            · have hS : SortB (((l0.map swp).take i).foldl putP []) := sort_fold _ _ List.Pairwise.nil
              have hSl : (((l0.map swp).take i).foldl putP []).length = i := by rw [foldl_put_len, List.length_take, List.length_map]; simp; omega
              have hd : (l0.map swp).drop i = swp (rd_T37 l0 (i : Int)) :: (l0.map swp).drop (i + 1) := by
                rw [List.drop_eq_getElem_cons (by simp; exact hlt), List.getElem_map]
                congr 2
                unfold rd_T37
                rw [show ((i : Int)).toNat = i from rfl, List.getD_eq_getElem?_getD, List.getElem?_eq_getElem hlt]; rfl
              have hnx : ((l0.map swp).take (i + 1)).foldl putP [] = putP (((l0.map swp).take i).foldl putP []) (swp (rd_T37 l0 (i : Int))) := by
                rw [← List.map_take, take_rdP hlt, List.map_append, List.foldl_append, List.map_take]; rfl
              rw [hd] at hrow
              generalize swp (rd_T37 l0 (i : Int)) = p at *
              generalize hRR : (l0.map swp).drop (i + 1) = R at *
              generalize hSS : ((l0.map swp).take i).foldl putP [] = S at *
              have HNX := Aside0.mk hnx
              have HRR := Aside0.mk hRR
              have HSo := Aside0.mk hS
              clear hnx hS hd hSS hRR
              go_wp2
              go_loopw [7] (fun vk wk => ∃ k : Nat, vk = .int .i64 k ∧ k ≤ i ∧ RowIn w g cap (S.take k ++ p :: (S.drop k ++ R)) wk ∧ Aside0 (∀ q ∈ S.drop k, p.f1 < q.f1))
                (fun vk _ => (intOf vk).toNat)
              case atStart => exact ⟨i, rfl, Nat.le_refl _, by rw [List.take_of_length_le (by omega), List.drop_eq_nil_of_le (by omega)]; exact hrow, ⟨by rw [List.drop_eq_nil_of_le (by omega)]; simp⟩⟩
              case round =>
                clear hrow
                obtain ⟨k, rfl, hk, hrow, HQ⟩ := hrel
                by_cases h0 : k = 0
                · subst h0
                  go_wp2
                  go_quiet (fail)
                  go_wp2
                  have HPA := put_at S p HSo.out 0 (Nat.zero_le _) HQ.out (.inl rfl)
                  go_roundw
                  case rel =>
                    refine ⟨i + 1, by go_num, by omega, ?_⟩
                    have h1 := hrow.below (pw_below_drewN (Below.refl _ _) nq)
                    rw [HNX.out, HRR.out, HPA]
                    simpa using h1
                  case measure => simp [intOf]; omega
                · obtain ⟨u, hu⟩ : ∃ u, k = u + 1 := ⟨k - 1, by omega⟩
                  have gtn : 0 < k := by omega
                  have gt : (0 : Int) < (k : Int) := by omega
                  have wu : IntKind.i64.wrap ((k : Int) - 1) = (u : Int) := by rw [IntWalk.i64_in _ (by omega)]; omega
                  have lk : (k : Int) < (l0.length : Int) := by omega
                  have lu : (u : Int) < (l0.length : Int) := by omega
                  have hus : u < S.length := by omega
                  have e1 : S.take k = S.take u ++ [rd_T37 S (u : Int)] := by rw [hu]; exact take_rdP hus
                  have e2 : S.drop u = rd_T37 S (u : Int) :: S.drop k := by
                    rw [hu, List.drop_eq_getElem_cons hus]
                    congr 1
                    unfold rd_T37
                    rw [show ((u : Int)).toNat = u from rfl, List.getD_eq_getElem?_getD, List.getElem?_eq_getElem hus]; rfl
                  have hrd : rd_T37 S ((k - 1 : Nat) : Int) = rd_T37 S (u : Int) := by rw [show k - 1 = u from by omega]
                  have HPA := Aside0.mk (put_at S p HSo.out k (by omega) HQ.out)
                  rw [hrd] at HPA
                  clear hrd
                  generalize rd_T37 S (u : Int) = s at *
                  have hAl : (S.take u).length = u := by rw [List.length_take]; omega
                  rw [e1, List.append_assoc] at hrow
                  have hrow2 : RowIn w g cap (S.take u ++ s :: p :: (S.drop k ++ R)) wr := hrow
                  have hu2 := hrow2.at (k := u) (by simp [hAl])
                  have hk2 := hrow2.at (k := k) (by simp [hAl]; omega)
                  have eu : rd_T37 (S.take u ++ s :: p :: (S.drop k ++ R)) (u : Int) = s := by
                    unfold rd_T37
                    rw [show ((u : Int)).toNat = u from rfl, List.getD_eq_getElem?_getD, List.getElem?_append_right (by omega), hAl]; simp
                  have ek : rd_T37 (S.take u ++ s :: p :: (S.drop k ++ R)) (k : Int) = p := by
                    unfold rd_T37
                    rw [show ((k : Int)).toNat = k from rfl, List.getD_eq_getElem?_getD, List.getElem?_append_right (by omega), hAl, hu]; simp
                  rw [eu] at hu2
                  rw [ek] at hk2
                  obtain ⟨hu0, hu1, fu0, fu1⟩ := hu2
                  obtain ⟨hk0, hk1, fk0, fk1⟩ := hk2
                  have HR := Aside0.mk hrow2
                  have HU := Aside0.mk hu
                  clear hrow hrow2 hu eu ek
                  by_cases hc : p.f1 < s.f1
                  · go_wp2
                    go_quiet (fail)
                    go_wp2
                    have n1 : ¬ u = k := by have := HU.out; omega
                    have n2 : ¬ k = u := by have := HU.out; omega
                    have n3 : ¬ u * 2 = k * 2 := by have := HU.out; omega
                    have n4 : ¬ k * 2 = u * 2 := by have := HU.out; omega
                    have n5 : ¬ u * 2 = k * 2 + 1 := by have := HU.out; omega
                    have n6 : ¬ k * 2 + 1 = u * 2 := by have := HU.out; omega
                    have n7 : ¬ u * 2 + 1 = k * 2 := by have := HU.out; omega
                    have n8 : ¬ k * 2 = u * 2 + 1 := by have := HU.out; omega
                    go_region_with (fail)
                    all_goals
                      go_step
                      go_wp2
                      go_roundw
                      case rel =>
                        refine ⟨u, by go_num, by omega, ?_, ⟨fun q hq => ?_⟩⟩
                        · have h1 := (HR.out.below (pw_below_drewN (Below.refl _ _) (nq + 1))).set (k := k) (by simp [hAl]; have := HU.out; omega) s
                          have h2 := h1.set (k := u) (by simp [hAl]) p
                          have e := swap_two (S.take u) (S.drop k ++ R) s p
                          rw [hAl, ← HU.out] at e
                          rw [e] at h2
                          rw [e2]
                          exact h2
                        · rw [e2] at hq
                          rcases List.mem_cons.1 hq with rfl | h'
                          · exact hc
                          · exact HQ.out q h'
                      case measure => simp [intOf]; have := HU.out; omega
                  · go_wp2
                    go_quiet (fail)
                    go_wp2
                    go_roundw
                    case rel =>
                      refine ⟨i + 1, by go_num, by omega, ?_⟩
                      have h1 := HR.out.below (pw_below_drewN (Below.refl _ _) nq)
                      rw [HNX.out, HRR.out, HPA.out (.inr (by omega)), e1]
                      simpa using h1
                    case measure => simp [intOf]; omega
            · obtain rfl : i = l0.length := by omega
              have e : ((l0.map swp).take l0.length).foldl putP [] ++ (l0.map swp).drop l0.length = turnR l0 := by
                rw [List.take_of_length_le (by simp), List.drop_eq_nil_of_le (by simp), List.append_nil]; rfl
              rw [e] at hrow
              clear e
              have htl := turnR_len l0
              go_wp2
              go_loopw [66, 8] (fun vi vo wr => ∃ t : Nat, vi = .int .i64 t ∧ t ≤ l0.length ∧ wr.ownsRow w.heap.size 37 2 vo ((turnR l0).take t).length (cellsS ((turnR l0).take t)) ∧ RowIn w g cap (turnR l0) wr)
                (fun vi _ _ => l0.length - (intOf vi).toNat)
              case atStart => exact ⟨0, rfl, Nat.zero_le _, by simpa [cellsS] using World.ownsRow_nil _ _ _ _, hrow⟩
              case round =>
                clear hrow
                obtain ⟨t, rfl, ht, ho, hrow⟩ := hrel
                by_cases hlt3 : t < l0.length
                · obtain ⟨hx0, hx1, _, _⟩ := hrow.at (k := t) (by omega)
                  have htk := Aside0.mk (take_rdP (l := turnR l0) (t := t) (by omega))
                  generalize rd_T37 (turnR l0) (t : Int) = p at *
                  have hml : ((turnR l0).take t).length + 1 ≤ maxLen := by rw [List.length_take]; unfold maxLen; omega
                  have hml2 : (((turnR l0).take t).length + 1) * 16 ≤ 140737488355328 := by rw [List.length_take]; omega
                  have HO2 := Aside0.mk (ho.alloc (.cells #[.int .i64 p.f0, .int .i64 p.f1] 73))
                  have HRW := Aside0.mk (hrow.below ((Below.refl _ _).alloc (Nat.le_refl _) (.cells #[.int .i64 p.f0, .int .i64 p.f1] 73)))
                  have hz := hrow.hb.size
                  clear ho hrow
                  go_wp2_with (first
                    | (at_builtin; refine wpList_append_own _ rfl _ _ 28 rfl w.heap.size 37 i0 _ 2 16 Try.underlying28 hi hz0 hz1 hz2 rfl (by decide) _ _ _ rfl (HO2.out.alloc _) ⟨wr.heap.size + 1, 0, none⟩ 1 1 [.int .i64 p.f0, .int .i64 p.f1] rfl rfl (cell_two_at _ _ _ _ _ (by simp)) (by simp [Value.oneCell']) hml hml2 (by simp; omega) ?_; intro v' w1 hown' hgrow _))
                  have hrn := HRW.out.grown HO2.out hgrow
                  have e : cellsS ((turnR l0).take (t + 1)) = cellsS ((turnR l0).take t) ++ [.int .i64 p.f0, .int .i64 p.f1] := by rw [htk.out, cellsS_snoc]
                  have e2 : ((turnR l0).take (t + 1)).length = ((turnR l0).take t).length + 1 := by rw [htk.out]; simp
                  rw [← e, ← e2] at hown'
                  clear e e2
                  go_roundw
                  case rel => exact ⟨t + 1, by go_num, by omega, hown', hrn⟩
                  case measure => simp [intOf]; omega
                · obtain rfl : t = l0.length := by omega
                  rw [show (turnR l0).take l0.length = turnR l0 from List.take_of_length_le (by omega)] at ho
                  go_wp2
                  go_ret
                  rw [← H.out]
                  exact ⟨_, rfl, R_pairs ho, hrow.hb⟩
  · exact nomatch h
end Go.Proofs.Ytoefeboikkhdkaa.X
end
section
namespace Go.Proofs.Ytoefeboikkhdkaa.X
open Go.RowKit Go.Maps Go.Proofs.YtoefeboikkhdkaaW.PrintWords Go.Proofs.Ytoefeboikkhdkaa.GMap
set_option linter.unusedVariables false
set_option maxRecDepth 100000 in
set_option maxHeartbeats 1600000 in
theorem pclone_calls (A : Option Addr) (c : Nat) (l : List PS) (w : World) (hr : Kd.C k37 w A l.length l) (hc : l.length ≤ c) (hl : l.length ≤ 1000000) :
    Calls Try.prog 59 #[.slice A l.length c] w fun e w' => ∃ v : Value, e = .returned v ∧ Kd.R k37 37 w' w.heap.size (fun _ => True) v l ∧ Below w.heap.size w w' := by
  rcases A with _ | ad
  · have h0 : l.length = 0 := by
      rcases Nat.eq_zero_or_pos l.length with h | h
      · exact h
      · obtain ⟨ad, e, _⟩ := hr.2.2 h; cases e
    obtain rfl := List.eq_nil_of_length_eq_zero h0
    clear hr
    have hq : ∀ W, Sem.run Try.prog (binOp .eql 28 (.slice none 0 c) (.slice none 0 0)) W = .ok (.bool true) W := fun W => Lib.run_eql_slice_nil W 28 37 none 0 c 0 0 Try.underlying28
    go_enter Try.func59, Try.ntmps59
    go_wp2
    go_ret
    exact ⟨_, rfl, Kd.R_nil _ _ _ _ _, Below.refl _ _⟩
  · have HR := Aside0.mk hr
    clear hr
    have hq : ∀ W, Sem.run Try.prog (binOp .eql 28 (.slice (some ad) l.length c) (.slice none 0 0)) W = .ok (.bool false) W := fun W => Lib.run_eql_slice_nil W 28 37 (some ad) l.length c 0 0 Try.underlying28
    go_enter Try.func59, Try.ntmps59
    go_wp2_with (first
      | ((with_reducible refine gate_dst (N := 5) rfl ?_); refine Kd.R_lit k37 _ 37 ?hg (N := 5) ?hd (xs := ([] : List PS)) (inner := []) (ok := fun _ => True) (okp := fun _ => True) ?hr ?hp (fun _ hk => hk) trivial (Below.refl _ _) (Nat.le_refl _) (by simp) ?_; (case hd => rfl); (case hg => rfl); (case hr => first | (go_simp; done) | (go_simp; rfl)); (case hp => exact (Reps.none _ _)); intro v5 w5 ho hb hg_ hnew_; have HO := Aside0.mk ho; have HB := Aside0.mk hb; clear hg_ hnew_ ho hb)
      | (at_builtin; refine Kd.R_append_rows k37 (w0 := w) w.heap.size rfl (.tmp 5) (.tmp 6) 28 37 (.agg #[(.int .i64 0), (.int .i64 0)]) 16 rfl Try.underlying28 info37 rfl (by decide) (by omega) v5 [] l (some ad) l.length c (fun _ => True) (fun _ => False) rfl rfl HO.out (Kd.C_below HR.out HB.out) (fun _ _ h => h) (fun _ h => h.elim) (fun _ _ => trivial) HB.out HB.out.size (by simp; omega) ?_; intro v7 w7 ho7 hb7 hg7 hat7))
    go_ret
    exact ⟨_, rfl, ho7, hb7⟩
set_option maxRecDepth 100000 in
set_option maxHeartbeats 1600000 in
theorem together_calls (A : Option Addr) (c : Nat) (l : List PS) (A1 : Option Addr) (c1 : Nat) (m : List PS) (w : World) (hr : Kd.C k37 w A l.length l) (hc : l.length ≤ c) (hr1 : Kd.C k37 w A1 m.length m) (hc1 : m.length ≤ c1) (hl : l.length ≤ 10000) (hm : m.length ≤ 10000) (ht : (turnR (l ++ m)).length ≤ 100000) :
    Calls Try.prog 26 #[.slice A l.length c, .slice A1 m.length c1] w fun e w' => ∃ v : Value, e = .returned v ∧ Kd.R k37 37 w' w.heap.size (fun _ => True) v (turnR (turnR (l ++ m))) ∧ Below w.heap.size w w' := by
  have HR := Aside0.mk hr
  have HR1 := Aside0.mk hr1
  have hrm : m.length ≤ 9223372036854775807 := hr1.2.1
  obtain ⟨x, hx⟩ : ∃ x, x = l ++ m := ⟨_, rfl⟩
  rw [← hx] at ht ⊢
  obtain ⟨y, hy⟩ : ∃ y, y = turnR x := ⟨_, rfl⟩
  rw [← hy] at ht ⊢
  obtain ⟨z, hz⟩ : ∃ z, z = turnR y := ⟨_, rfl⟩
  rw [← hz]
  have HT := Aside0.mk (show pairs_Turn.f y = some z by rw [hz]; exact if_pos ht)
  have HT0 := Aside0.mk (show pairs_Turn.f x = some y by rw [hy]; exact if_pos (by rw [hx, List.length_append]; omega))
  have HX := Aside0.mk hx
  clear hr hr1 ht hx hy hz
  go_enter Try.func26, Try.ntmps26
  go_wp2_with (first
    | (go_at_call 59; refine (pclone_calls A c l _ HR.out hc (by omega)).mono ?_; rintro e w1 ⟨v1, rfl, ho1, hb1⟩; have HO := Aside0.mk ho1; have HB := Aside0.mk hb1; clear ho1 hb1)
    | ((with_reducible refine gate_dst (N := 9) rfl ?_); refine Kd.R_append_rows k37 (w0 := w) w.heap.size rfl (.tmp 7) (.tmp 8) 28 37 (.agg #[(.int .i64 0), (.int .i64 0)]) 16 rfl Try.underlying28 info37 rfl (by decide) (by omega) v1 l m A1 m.length c1 (fun _ => True) (fun _ => False) rfl rfl HO.out (Kd.C_below HR1.out HB.out) (fun _ _ h => h) (fun _ h => h.elim) (fun _ _ => trivial) HB.out HB.out.size (by omega) ?_; intro v9 w9 ho9 hb9 hg9 hat9; rw [← HX.out] at ho9; obtain ⟨A9, c9, rfl⟩ := Kd.R_slice ho9; have HO9 := Aside0.mk ho9; have HB9 := Aside0.mk hb9; clear ho9 hb9 hg9 hat9)
    | (go_at_call_of 60 A9; refine (pairs_Turn.calls A9 c9 x y _ (Kd.R_reads' HO9.out).2.2 (Kd.R_reads' HO9.out).2.1 HT0.out).mono ?_; rintro e w2 ⟨v2, rfl, ho2, hb2⟩; obtain ⟨A2, c2, rfl⟩ := Kd.R_slice ho2; have HO2 := Aside0.mk ho2; have HB2 := Aside0.mk (HB9.out.trans (hb2.mono HB9.out.size)); clear ho2 hb2)
    | (go_at_call_of 60 A2; refine (pairs_Turn.calls A2 c2 y z _ (Kd.R_reads' HO2.out).2.2 (Kd.R_reads' HO2.out).2.1 HT.out).mono ?_; rintro e w3 ⟨v3, rfl, ho3, hb3⟩; have HO3 := Aside0.mk (Kd.R_lower ho3 HB2.out.size); have HB3 := Aside0.mk (HB2.out.trans (hb3.mono HB2.out.size)); clear ho3 hb3))
  go_ret
  exact ⟨_, rfl, HO3.out, HB3.out⟩
end Go.Proofs.Ytoefeboikkhdkaa.X
end
section
namespace Go.Proofs.Ytoefeboikkhdkaa.X
open Go.RowKit Go.Proofs.YtoefeboikkhdkaaW.PrintWords Go.Proofs.YtoefeboikkhdkaaW.PrintLast
set_option linter.unusedVariables false
section
variable {P : Program} {ops : Array Oper} {Q : Exit → Act → World → Prop} {md : Region.Mode} {S : World → Prop} {ds : List Nat} {lp : Nat}
/-- It ends as it should, or not at all. -/
def OnlyNormal (Q : Exit → Act → World → Prop) : Exit → Act → World → Prop
  | .normal, a, w => Q .normal a w
  | _, _, _ => False
theorem lets_not : ¬ LetsOut (OnlyNormal Q) := fun ⟨_, _, h⟩ => h
theorem stepsIn_of {m m' : Machine} (h : Steps P m m') : StepsIn (Machine.fenced P (Fence.wide.inRound lp)) P m m' := stepsIn_wide.2 h
theorem depth_no : ((Fence.wide.inRound lp).depth.isSome = true) → False := fun h => Bool.noConfusion (show false = true from h)
theorem rowsIn_of {n : Nat} {row : String} {args : Array Value} {w : World} {R : Value → World → Prop} (h : Rows P row args w R) : RowsIn (Fence.wide.inRound lp) n P row args w R :=
  fun c cs _ => let ⟨v, w', r, s⟩ := h c cs; ⟨v, w', r, stepsIn_of s⟩
theorem operIn_of {n : Nat} {o : Oper} {a : Act} {w : World} {K : Act → World → Prop} (hd : ∀ c, o.op ≠ .defer c) (h : o.wp P a w K Q) : o.wpIn (Fence.wide.inRound lp) n P a w K Q := by
  unfold Oper.wp at h
  unfold Oper.wpIn
  refine ⟨fun _ _ => trivial, ?_⟩
  rw [Fence.inRound_round, Oper.semAt_eq _ _ _ hd]
  generalize (execOp a.eval o).run P w = r at *
  cases r with
  | ok x w' =>
    cases x <;> simp only [Oper.upon, Oper.uponIn] at h ⊢ <;>
      first
        | exact h
        | exact ⟨fun h1 => (depth_no h1).elim, CallsIn.inRound lp (callsIn_wide.2 h)⟩
        | exact ⟨fun h1 => (depth_no h1).elim, rowsIn_of h⟩
        | exact h.elim
  | halt x w' => cases x <;> simp only [Oper.upon, Oper.uponIn] at h ⊢ <;> exact h
theorem anyIn_of {n : Nat} (hd : ∀ (i : Nat) (o : Oper), ops[i]? = some o → ∀ c, o.op ≠ .defer c) (hL : ¬ LetsOut Q) : ∀ (fuel : Nat) (listed : Array Bool) (a : Act) (w : World), wpAny P md ops Q fuel listed a w → wpAnyIn (Fence.wide.inRound lp) n P md ops Q fuel listed a w
  | 0, _, _, _, h => h
  | fuel + 1, listed, a, w, h => by
    refine ⟨h.1, fun i hi => ?_⟩
    have h2 := h.2 i hi
    unfold wpOp at h2
    unfold wpOpIn
    cases ho : ops[i]? with
    | none =>
      rw [ho] at h2
      exact anyIn_of hd hL fuel _ a w h2
    | some o =>
      simp only [ho] at h2 ⊢
      split
      · rename_i hw
        rw [if_pos hw] at h2
        rcases h2 with h2 | ⟨_, h2⟩
        · exact Oper.wpIn_mono (fun a' w' h' => anyIn_of hd hL fuel _ a' w' h') (operIn_of (hd i o ho) h2)
        · exact absurd h2 hL
      · rename_i hw
        rw [if_neg hw] at h2
        exact ⟨fun _ _ => trivial, anyIn_of hd hL fuel _ _ w h2⟩
theorem codeIn_mono {F : Fence} {n : Nat} {c : Code} {Q' : Exit → Act → World → Prop} {a : Act} {w : World} (hQ : ∀ e a w, Q e a w → Q' e a w) (h : c.wpIn F n P Q a w) : c.wpIn F n P Q' a w :=
  fun b k cs h1 h2 h3 => let ⟨e, a', w', q, s⟩ := h b k cs h1 h2 h3; ⟨e, a', w', hQ _ _ _ q, s⟩
def noDefer (ops : Array Oper) : Bool := ops.all fun o => match o.op with | .defer _ => false | _ => true
theorem noDefer_spec (h : noDefer ops = true) : ∀ (i : Nat) (o : Oper), ops[i]? = some o → ∀ c, o.op ≠ .defer c := by
  intro i o ho c e
  unfold noDefer at h
  rw [Array.all_eq_true_iff_forall_mem] at h
  have := h o (Array.mem_of_getElem? ho)
  rw [e] at this
  cases this
/-- As start_, in a round. -/
theorem startIn_ {id n nf : Nat} {a : Act} {w : World} (l : Array Bool) (hm : P.follows .mixedOrders = true) (hn : ops.size = n) (hl : Array.replicate n false = l) (hd : noDefer ops = true) (hS : S w.drew)
    (h : S w.drew → wpAnyLast P .any ops (OnlyNormal Q) S ds n l a w.drew) : (Code.region id ops true).wpIn (Fence.wide.inRound lp) nf P Q a w := by
  subst hn
  subst hl
  refine codeIn_mono (Q := OnlyNormal Q) (fun e a w q => ?_) (wpIn_region_any hm (anyIn_of (noDefer_spec hd) lets_not _ _ _ _ (wpAny_of_last _ _ _ _ (h hS))))
  cases e <;> first | exact q | exact q.elim
end
end Go.Proofs.Ytoefeboikkhdkaa.X
end
section
namespace Go.Proofs.Ytoefeboikkhdkaa.X.Gr
open Go.RowKit Go.Proofs.YtoefeboikkhdkaaW.PrintWords Go.Proofs.YtoefeboikkhdkaaW.PrintLast Go.Proofs.YtoefeboikkhdkaaW.PrintMore
set_option linter.unusedVariables false
set_option linter.unusedSimpArgs false
/-- So many draws on, with these blocks behind. -/
def Gro (w w' : World) : Prop := ∃ q os, w' = Go.Sort.grow (w.drewN q) os
theorem gro_refl (w : World) : Gro w w := ⟨0, #[], by rw [Go.Sort.grow_empty]; rfl⟩
theorem gro_drewN {w W : World} (h : Gro w W) (n : Nat) : Gro w (W.drewN n) := by
  obtain ⟨q, os, rfl⟩ := h
  exact ⟨q + n, os, by show Go.Sort.grow ((w.drewN q).drewN n) os = _; rw [World.drewN_drewN]⟩
theorem gro_drew {w W : World} (h : Gro w W) : Gro w W.drew := gro_drewN h 1
theorem gro_alloc {w W : World} (h : Gro w W) (o : Obj) : Gro w (W.alloc o) := by
  obtain ⟨q, os, rfl⟩ := h
  exact ⟨q, os ++ #[o], by rw [Go.Sort.alloc_eq_grow, Go.Sort.grow_grow]⟩
theorem heapsz_alloc (w : World) (o : Obj) : (w.alloc o).heap.size = w.heap.size + 1 := by show (w.heap.push o).size = _; exact Array.size_push ..
theorem lit3_C (W : World) (e : TypeId) (x y z : Int) : Kd.C (Kd.int .i64) (W.alloc (.cells #[.int .i64 x, .int .i64 y, .int .i64 z] e)) (some ⟨W.heap.size, 0, none⟩) [x, y, z].length [x, y, z] := by
  have ho := World.ownsRow_lit (base := 0) (e := e) (size := 1) W #[.int .i64 x, .int .i64 y, .int .i64 z] 3 (Nat.zero_le _) (by decide) (by simp)
  have hr : Kd.R (Kd.int .i64) e (W.alloc (.cells #[.int .i64 x, .int .i64 y, .int .i64 z] e)) 0 (fun _ => True) (.slice (some ⟨W.heap.size, 0, none⟩) 3 3) [x, y, z] := Kd.R_of_own (by exact ho) (fun _ _ => trivial)
  obtain ⟨A, c, hv, hc, hC⟩ := Kd.R_reads hr
  cases hv
  exact hC
theorem lit3_step {P : Program} {ops : Array Oper} {o : Oper} {a : Act} {Kc : Act → World → Prop} {Q : Exit → Act → World → Prop} {W : World} {x y z : Int} {e : TypeId} (hw : Region.wanted o (yielded ops a.tmps) = true)
    (hrun : (execOp a.eval o).run P W = .ok (.value (.slice (some ⟨W.heap.size, 0, none⟩) 3 3)) (W.alloc (.cells #[.int .i64 x, .int .i64 y, .int .i64 z] e)))
    (h : ∀ (B : Nat) (W1 : World), Kd.C (Kd.int .i64) W1 (some ⟨B, 0, none⟩) [x, y, z].length [x, y, z] → (∀ w0, Gro w0 W → Gro w0 W1) → (∀ (g : Nat) (ob : Obj), W.heap[g]? = some ob → W1.heap[g]? = some ob) →
      Kc (a.put o.dst (.slice (some ⟨B, 0, none⟩) 3 3)) W1) : if Region.wanted o (yielded ops a.tmps) = true then Oper.wp P o a W Kc Q else Kc (a.put o.dst undef) W :=
  event_step hw hrun (h _ _ (lit3_C W e x y z) (fun _ hg => gro_alloc hg _) (fun _ _ hg => blk_alloc hg _))
set_option maxHeartbeats 8000000 in
set_option maxRecDepth 100000 in
theorem compare_exact (k : Nat) (a0_0 : Int) (a0_1 : Int) (a0_2 : Int) (a1_0 : Int) (a1_1 : Int) (a1_2 : Int) (r : Int) (w : World) (h : greedy_choice_compare.f k a0_0 a0_1 a0_2 a1_0 a1_1 a1_2 = some r) :
    Calls Try.prog 62 #[.agg #[.int .i64 a0_0, .int .i64 a0_1, .int .i64 a0_2], .agg #[.int .i64 a1_0, .int .i64 a1_1, .int .i64 a1_2]] w fun e w' => e = .returned (.int .i64 r) ∧ Gro w w' := by
  have hu91 := Try.underlying91
  have HB := Aside0.mk (gro_refl w)
  have H : ((cmp_Compare_int.f a1_2 a0_2).bind fun t115 => ((cmp_Compare_int.f a0_0 a1_0).bind fun t116 => ((cmp_Compare_int.f a0_1 a1_1).bind fun t117 => ((cmp_Or_int.f k (([t115, t116, t117] : List Int))).bind fun t121 => (some t121))))) = some r := h
  clear h
  replace H := Option.bind_eq_some_iff.mp H
  obtain ⟨t115, A30, H⟩ := H
  replace H : ((cmp_Compare_int.f a0_0 a1_0).bind fun t116 => ((cmp_Compare_int.f a0_1 a1_1).bind fun t117 => ((cmp_Or_int.f k (([t115, t116, t117] : List Int))).bind fun t121 => (some t121)))) = some r := H
  have A3 := Aside0.mk A30
  clear A30
  replace H := Option.bind_eq_some_iff.mp H
  obtain ⟨t116, A40, H⟩ := H
  replace H : ((cmp_Compare_int.f a0_1 a1_1).bind fun t117 => ((cmp_Or_int.f k (([t115, t116, t117] : List Int))).bind fun t121 => (some t121))) = some r := H
  have A4 := Aside0.mk A40
  clear A40
  replace H := Option.bind_eq_some_iff.mp H
  obtain ⟨t117, A50, H⟩ := H
  replace H : ((cmp_Or_int.f k (([t115, t116, t117] : List Int))).bind fun t121 => (some t121)) = some r := H
  have A5 := Aside0.mk A50
  clear A50
  obtain ⟨y118, hy118⟩ : ∃ y_ : List Int, y_ = (([t115, t116, t117] : List Int)) := ⟨_, rfl⟩
  replace H : ((cmp_Or_int.f k y118).bind fun t121 => (some t121)) = some r := by first | (rw [hy118]; with_reducible exact H) | (have H2_ := (Option.bind_some _ _).symm.trans H; rw [hy118]; with_reducible exact H2_) | (have H2_ := (Option.bind_some _ _).symm.trans H; with_reducible exact H2_) | with_reducible exact H | (rw [hy118]; exact H) | exact H
  subst hy118
  replace H := Option.bind_eq_some_iff.mp H
  obtain ⟨t121, A60, H⟩ := H
  replace H : (some t121) = some r := H
  have A6 := Aside0.mk A60
  clear A60
  obtain rfl := Option.some.inj H
  go_enter Try.func62, Try.ntmps62
  go_wp2
  have BK113 := Aside0.mk (blk_alloc (blk_new w (.cells #[.int .i64 a0_0, .int .i64 a0_1, .int .i64 a0_2] 91)) (.cells #[.int .i64 a1_0, .int .i64 a1_1, .int .i64 a1_2] 91))
  have BK114 := Aside0.mk (show ((w.alloc (.cells #[.int .i64 a0_0, .int .i64 a0_1, .int .i64 a0_2] 91)).alloc (.cells #[.int .i64 a1_0, .int .i64 a1_1, .int .i64 a1_2] 91)).heap[w.heap.size + 1]? = some (.cells #[.int .i64 a1_0, .int .i64 a1_1, .int .i64 a1_2] 91 (0, 0)) from by have h := blk_new (w.alloc (.cells #[.int .i64 a0_0, .int .i64 a0_1, .int .i64 a0_2] 91)) (.cells #[.int .i64 a1_0, .int .i64 a1_1, .int .i64 a1_2] 91); rwa [heapsz_alloc] at h)
  have HB' := Aside0.mk (gro_alloc (gro_alloc HB.out (.cells #[.int .i64 a0_0, .int .i64 a0_1, .int .i64 a0_2] 91)) (.cells #[.int .i64 a1_0, .int .i64 a1_1, .int .i64 a1_2] 91))
  clear HB
  have HB := HB'
  clear HB'
  generalize (w.alloc (.cells #[.int .i64 a0_0, .int .i64 a0_1, .int .i64 a0_2] 91)).alloc (.cells #[.int .i64 a1_0, .int .i64 a1_1, .int .i64 a1_2] 91) = w8 at *
  generalize w.heap.size + 1 = gb114 at *
  generalize w.heap.size = gb113 at *
  have n0_ := Aside0.mk (blk_drew BK113.out)
  have n1_ := Aside0.mk (blk_drew BK114.out)
  have n2_ := Aside0.mk (gro_drew HB.out)
  clear BK113
  clear BK114
  clear HB
  have BK113 := n0_
  have BK114 := n1_
  have HB := n2_
  clear n0_ n1_ n2_
  refine start_ (n := 18) (S := fun w' => w'.cell? ⟨gb114, 0, none⟩ = some (.int .i64 a1_0) ∧ w'.cell? ⟨gb114, 1, none⟩ = some (.int .i64 a1_1) ∧ w'.cell? ⟨gb114, 2, none⟩ = some (.int .i64 a1_2) ∧ w'.cell? ⟨gb113, 0, none⟩ = some (.int .i64 a0_0) ∧ w'.cell? ⟨gb113, 1, none⟩ = some (.int .i64 a0_1) ∧ w'.cell? ⟨gb113, 2, none⟩ = some (.int .i64 a0_2)) (ds := []) #[false, false, false, false, false, false, false, false, false, false, false, false, false, false, false, false, false, false] (by kernel_rfl) rfl rfl ⟨(blk_cell BK114.out 0).trans rfl, (blk_cell BK114.out 1).trans rfl, (blk_cell BK114.out 2).trans rfl, (blk_cell BK113.out 0).trans rfl, (blk_cell BK113.out 1).trans rfl, (blk_cell BK113.out 2).trans rfl⟩ (fun hHeld => ?_); refine with_tabW greedy_choice_compare.tab1 greedy_choice_compare.bits1 (fun HT_ HW_ => ?_)
  generalize w8.drew = w9 at BK113 BK114 HB hHeld ⊢
  refine pure_ (i := 0) (N := some 5) (v := ?_) (a' := ?_) #[true, false, false, false, false, false, false, false, false, false, false, false, false, false, false, false, false, false] rfl rfl (any_of HT_.out (by kernel_rfl)) (fun _ _ _ h => h) (Or.inl ⟨by rfl, ?_⟩) ?_ ?_
  rotate_left
  · intro w'
    go_simp
    with_reducible rfl
  rotate_left
  · simp only [Act.put, List.setIfInBounds_toArray, List.set_cons_zero, List.set_cons_succ, i64_w, i32_w]
    rfl
  refine pure_ (i := 2) (N := some 7) (v := ?_) (a' := ?_) #[true, false, true, false, false, false, false, false, false, false, false, false, false, false, false, false, false, false] rfl rfl (any_of HT_.out (by kernel_rfl)) (fun _ _ _ h => h) (Or.inl ⟨by rfl, ?_⟩) ?_ ?_
  rotate_left
  · intro w'
    go_simp
    with_reducible rfl
  rotate_left
  · simp only [Act.put, List.setIfInBounds_toArray, List.set_cons_zero, List.set_cons_succ, i64_w, i32_w]
    rfl
  refine pure_ (i := 5) (N := some 10) (v := ?_) (a' := ?_) #[true, false, true, false, false, true, false, false, false, false, false, false, false, false, false, false, false, false] rfl rfl (any_of HT_.out (by kernel_rfl)) (fun _ _ _ h => h) (Or.inl ⟨by rfl, ?_⟩) ?_ ?_
  rotate_left
  · intro w'
    go_simp
    with_reducible rfl
  rotate_left
  · simp only [Act.put, List.setIfInBounds_toArray, List.set_cons_zero, List.set_cons_succ, i64_w, i32_w]
    rfl
  refine pure_ (i := 7) (N := some 12) (v := ?_) (a' := ?_) #[true, false, true, false, false, true, false, true, false, false, false, false, false, false, false, false, false, false] rfl rfl (any_of HT_.out (by kernel_rfl)) (fun _ _ _ h => h) (Or.inl ⟨by rfl, ?_⟩) ?_ ?_
  rotate_left
  · intro w'
    go_simp
    with_reducible rfl
  rotate_left
  · simp only [Act.put, List.setIfInBounds_toArray, List.set_cons_zero, List.set_cons_succ, i64_w, i32_w]
    rfl
  refine pure_ (i := 10) (N := some 15) (v := ?_) (a' := ?_) #[true, false, true, false, false, true, false, true, false, false, true, false, false, false, false, false, false, false] rfl rfl (any_of HT_.out (by kernel_rfl)) (fun _ _ _ h => h) (Or.inl ⟨by rfl, ?_⟩) ?_ ?_
  rotate_left
  · intro w'
    go_simp
    with_reducible rfl
  rotate_left
  · simp only [Act.put, List.setIfInBounds_toArray, List.set_cons_zero, List.set_cons_succ, i64_w, i32_w]
    rfl
  refine pure_ (i := 12) (N := some 17) (v := ?_) (a' := ?_) #[true, false, true, false, false, true, false, true, false, false, true, false, true, false, false, false, false, false] rfl rfl (any_of HT_.out (by kernel_rfl)) (fun _ _ _ h => h) (Or.inl ⟨by rfl, ?_⟩) ?_ ?_
  rotate_left
  · intro w'
    go_simp
    with_reducible rfl
  rotate_left
  · simp only [Act.put, List.setIfInBounds_toArray, List.set_cons_zero, List.set_cons_succ, i64_w, i32_w]
    rfl
  refine take_ (i := 1) (N := some 6) (v := ?_) (a' := ?_) #[true, true, true, false, false, true, false, true, false, false, true, false, true, false, false, false, false, false] rfl rfl (take_ofW HT_.out HW_.out (by kernel_rfl)) (fun _ _ _ h => h) (Or.inl ⟨by rfl, ?_⟩) hHeld ?_ ?_
  rotate_left
  · rintro w' ⟨s0, s1, s2, s3, s4, s5⟩
    go_simp
    with_reducible rfl
  rotate_left
  · simp only [Act.put, List.setIfInBounds_toArray, List.set_cons_zero, List.set_cons_succ, i64_w, i32_w]
    rfl
  refine take_ (i := 3) (N := some 8) (v := ?_) (a' := ?_) #[true, true, true, true, false, true, false, true, false, false, true, false, true, false, false, false, false, false] rfl rfl (take_ofW HT_.out HW_.out (by kernel_rfl)) (fun _ _ _ h => h) (Or.inl ⟨by rfl, ?_⟩) hHeld ?_ ?_
  rotate_left
  · rintro w' ⟨s0, s1, s2, s3, s4, s5⟩
    go_simp
    with_reducible rfl
  rotate_left
  · simp only [Act.put, List.setIfInBounds_toArray, List.set_cons_zero, List.set_cons_succ, i64_w, i32_w]
    rfl
  refine take_ (i := 6) (N := some 11) (v := ?_) (a' := ?_) #[true, true, true, true, false, true, true, true, false, false, true, false, true, false, false, false, false, false] rfl rfl (take_ofW HT_.out HW_.out (by kernel_rfl)) (fun _ _ _ h => h) (Or.inl ⟨by rfl, ?_⟩) hHeld ?_ ?_
  rotate_left
  · rintro w' ⟨s0, s1, s2, s3, s4, s5⟩
    go_simp
    with_reducible rfl
  rotate_left
  · simp only [Act.put, List.setIfInBounds_toArray, List.set_cons_zero, List.set_cons_succ, i64_w, i32_w]
    rfl
  refine take_ (i := 8) (N := some 13) (v := ?_) (a' := ?_) #[true, true, true, true, false, true, true, true, true, false, true, false, true, false, false, false, false, false] rfl rfl (take_ofW HT_.out HW_.out (by kernel_rfl)) (fun _ _ _ h => h) (Or.inl ⟨by rfl, ?_⟩) hHeld ?_ ?_
  rotate_left
  · rintro w' ⟨s0, s1, s2, s3, s4, s5⟩
    go_simp
    with_reducible rfl
  rotate_left
  · simp only [Act.put, List.setIfInBounds_toArray, List.set_cons_zero, List.set_cons_succ, i64_w, i32_w]
    rfl
  refine take_ (i := 11) (N := some 16) (v := ?_) (a' := ?_) #[true, true, true, true, false, true, true, true, true, false, true, true, true, false, false, false, false, false] rfl rfl (take_ofW HT_.out HW_.out (by kernel_rfl)) (fun _ _ _ h => h) (Or.inl ⟨by rfl, ?_⟩) hHeld ?_ ?_
  rotate_left
  · rintro w' ⟨s0, s1, s2, s3, s4, s5⟩
    go_simp
    with_reducible rfl
  rotate_left
  · simp only [Act.put, List.setIfInBounds_toArray, List.set_cons_zero, List.set_cons_succ, i64_w, i32_w]
    rfl
  refine take_ (i := 13) (N := some 18) (v := ?_) (a' := ?_) #[true, true, true, true, false, true, true, true, true, false, true, true, true, true, false, false, false, false] rfl rfl (take_ofW HT_.out HW_.out (by kernel_rfl)) (fun _ _ _ h => h) (Or.inl ⟨by rfl, ?_⟩) hHeld ?_ ?_
  rotate_left
  · rintro w' ⟨s0, s1, s2, s3, s4, s5⟩
    go_simp
    with_reducible rfl
  rotate_left
  · simp only [Act.put, List.setIfInBounds_toArray, List.set_cons_zero, List.set_cons_succ, i64_w, i32_w]
    rfl
  refine one_ (i := 4) (N := some 9) #[true, true, true, true, true, true, true, true, true, false, true, true, true, true, false, false, false, false] rfl rfl (one_of HT_.out (by kernel_rfl)) (by decide) (fun K hK => ?_)
  refine goes_ Try.func65 (by kernel_rfl) rfl #[.int .i64 a1_2, .int .i64 a0_2] (by rfl) rfl rfl (by (try simp only [List.map_toArray, List.map_cons, List.map_nil]); first | done | rfl | (simp only [List.length_drop, List.length_take]; rfl)) ?_
  with_reducible refine (cmp_Compare_int.calls a1_2 a0_2 t115 _ A3.out).mono ?_
  rintro e w' ⟨rfl, ⟨nd, rfl⟩⟩
  refine ⟨_, rfl, ?_⟩
  refine hK.out _ _ ⟨(blk_cell BK114.out 0).trans rfl, (blk_cell BK114.out 1).trans rfl, (blk_cell BK114.out 2).trans rfl, (blk_cell BK113.out 0).trans rfl, (blk_cell BK113.out 1).trans rfl, (blk_cell BK113.out 2).trans rfl⟩ (fun hHeld => ?_)
  clear hK K
  refine norm_ (a' := ?_) ?_ ?_
  rotate_left
  · show Act.put _ (some 9) _ = _
    simp only [Act.put, List.setIfInBounds_toArray, List.set_cons_zero, List.set_cons_succ, i64_w, i32_w]
    rfl
  refine one_ (i := 9) (N := some 14) #[true, true, true, true, true, true, true, true, true, true, true, true, true, true, false, false, false, false] rfl rfl (one_of HT_.out (by kernel_rfl)) (by decide) (fun K hK => ?_)
  refine goes_ Try.func65 (by kernel_rfl) rfl #[.int .i64 a0_0, .int .i64 a1_0] (by rfl) rfl rfl (by (try simp only [List.map_toArray, List.map_cons, List.map_nil]); first | done | rfl | (simp only [List.length_drop, List.length_take]; rfl)) ?_
  with_reducible refine (cmp_Compare_int.calls a0_0 a1_0 t116 _ A4.out).mono ?_
  rintro e w' ⟨rfl, ⟨nd, rfl⟩⟩
  refine ⟨_, rfl, ?_⟩
  refine hK.out _ _ ⟨(blk_cell BK114.out 0).trans rfl, (blk_cell BK114.out 1).trans rfl, (blk_cell BK114.out 2).trans rfl, (blk_cell BK113.out 0).trans rfl, (blk_cell BK113.out 1).trans rfl, (blk_cell BK113.out 2).trans rfl⟩ (fun hHeld => ?_)
  clear hK K
  refine norm_ (a' := ?_) ?_ ?_
  rotate_left
  · show Act.put _ (some 14) _ = _
    simp only [Act.put, List.setIfInBounds_toArray, List.set_cons_zero, List.set_cons_succ, i64_w, i32_w]
    rfl
  refine one_ (i := 14) (N := some 19) #[true, true, true, true, true, true, true, true, true, true, true, true, true, true, true, false, false, false] rfl rfl (one_of HT_.out (by kernel_rfl)) (by decide) (fun K hK => ?_)
  refine goes_ Try.func65 (by kernel_rfl) rfl #[.int .i64 a0_1, .int .i64 a1_1] (by rfl) rfl rfl (by (try simp only [List.map_toArray, List.map_cons, List.map_nil]); first | done | rfl | (simp only [List.length_drop, List.length_take]; rfl)) ?_
  with_reducible refine (cmp_Compare_int.calls a0_1 a1_1 t117 _ A5.out).mono ?_
  rintro e w' ⟨rfl, ⟨nd, rfl⟩⟩
  refine ⟨_, rfl, ?_⟩
  refine hK.out _ _ ⟨(blk_cell BK114.out 0).trans rfl, (blk_cell BK114.out 1).trans rfl, (blk_cell BK114.out 2).trans rfl, (blk_cell BK113.out 0).trans rfl, (blk_cell BK113.out 1).trans rfl, (blk_cell BK113.out 2).trans rfl⟩ (fun hHeld => ?_)
  clear hK K
  refine norm_ (a' := ?_) ?_ ?_
  rotate_left
  · show Act.put _ (some 19) _ = _
    simp only [Act.put, List.setIfInBounds_toArray, List.set_cons_zero, List.set_cons_succ, i64_w, i32_w]
    rfl
  refine one_ (i := 15) (N := some 20) #[true, true, true, true, true, true, true, true, true, true, true, true, true, true, true, true, false, false] rfl rfl (one_of HT_.out (by kernel_rfl)) (by decide) (fun K hK => ?_)
  refine lit3_step (x := t115) (y := t116) (z := t117) (e := 3) rfl ?hr ?_
  case hr => first | (go_simp; done) | (go_simp; rfl)
  intro B12 w10 hC12 hG12 hb12
  have n1_ := Aside0.mk (hb12 gb113 _ (by (with_reducible repeat (first | refine blk_drewN ?_ _ | refine blk_drew ?_)); exact BK113.out))
  have n2_ := Aside0.mk (hb12 gb114 _ (by (with_reducible repeat (first | refine blk_drewN ?_ _ | refine blk_drew ?_)); exact BK114.out))
  have n3_ := Aside0.mk (hG12 w (by repeat (first | (with_reducible exact HB.out) | apply gro_drewN | apply gro_drew)))
  clear BK113 BK114 HB hG12 hb12
  have BK113 := n1_
  have BK114 := n2_
  have HB := n3_
  clear n1_ n2_ n3_
  have HC12 := Aside0.mk hC12
  clear hC12
  refine hK.out _ _ ⟨(blk_cell BK114.out 0).trans rfl, (blk_cell BK114.out 1).trans rfl, (blk_cell BK114.out 2).trans rfl, (blk_cell BK113.out 0).trans rfl, (blk_cell BK113.out 1).trans rfl, (blk_cell BK113.out 2).trans rfl⟩ (fun hHeld => ?_)
  clear hK K
  refine norm_ (a' := ?_) ?_ ?_
  rotate_left
  · show Act.put _ (some 20) _ = _
    simp only [Act.put, List.setIfInBounds_toArray, List.set_cons_zero, List.set_cons_succ, i64_w, i32_w]
    rfl
  refine one_ (i := 16) (N := some 21) #[true, true, true, true, true, true, true, true, true, true, true, true, true, true, true, true, true, false] rfl rfl (one_of HT_.out (by kernel_rfl)) (by decide) (fun K hK => ?_)
  refine goes_ Try.func89 (by kernel_rfl) rfl #[.slice (some ⟨B12, 0, none⟩) 3 3] (by rfl) rfl rfl (by (try simp only [List.map_toArray, List.map_cons, List.map_nil]); first | done | rfl | (simp only [List.length_drop, List.length_take]; rfl)) ?_
  have hOr := cmp_Or_int.calls k (some ⟨B12, 0, none⟩) 3 [t115, t116, t117] t121 w10 HC12.out (Nat.le_of_eq rfl) A6.out
  change Calls Try.prog 89 #[.slice (some ⟨B12, 0, none⟩) 3 3] _ _ at hOr
  with_reducible refine hOr.mono ?_
  rintro e w' ⟨rfl, ⟨nd, rfl⟩⟩
  refine ⟨_, rfl, ?_⟩
  refine hK.out _ _ ⟨(blk_cell BK114.out 0).trans rfl, (blk_cell BK114.out 1).trans rfl, (blk_cell BK114.out 2).trans rfl, (blk_cell BK113.out 0).trans rfl, (blk_cell BK113.out 1).trans rfl, (blk_cell BK113.out 2).trans rfl⟩ (fun hHeld => ?_)
  clear hK K
  refine norm_ (a' := ?_) ?_ ?_
  rotate_left
  · show Act.put _ (some 21) _ = _
    simp only [Act.put, List.setIfInBounds_toArray, List.set_cons_zero, List.set_cons_succ, i64_w, i32_w]
    rfl
  refine pure_ (i := 17) (N := some 4) (v := ?_) (a' := ?_) #[true, true, true, true, true, true, true, true, true, true, true, true, true, true, true, true, true, true] rfl rfl (any_of HT_.out (by kernel_rfl)) (fun _ _ _ h => h) (Or.inl ⟨by rfl, ?_⟩) ?_ ?_
  rotate_left
  · intro w'
    go_simp
    with_reducible rfl
  rotate_left
  · simp only [Act.put, List.setIfInBounds_toArray, List.set_cons_zero, List.set_cons_succ, i64_w, i32_w]
    rfl
  refine done_ (done_of HT_.out (by kernel_rfl)) ?_
  try go_wp2
  go_ret
  exact ⟨rfl, by repeat (first | (with_reducible exact HB.out) | apply gro_drewN | apply gro_drew)⟩
/-- What compare computes. -/
def cmp3 (a b : Int) : Int := if a < b then -1 else if a > b then 1 else 0
abbrev SC := S57
def cmpR (x y : SC) : Int := if cmp3 y.f2 x.f2 = 0 then (if cmp3 x.f0 y.f0 = 0 then cmp3 x.f1 y.f1 else cmp3 x.f0 y.f0) else cmp3 y.f2 x.f2
theorem compareI_some (a b : Int) : cmp_Compare_int.f a b = some (cmp3 a b) := by
  unfold cmp_Compare_int.f cmp_isNaN_int.f cmp3
  simp only [Option.bind_some, bne_self_eq_false, Bool.false_eq_true, if_false]
  split
  · rfl
  · split <;> rfl
theorem or3_some (k : Nat) (a b c : Int) : cmp_Or_int.f (k + 5) [a, b, c] = some (if a = 0 then (if b = 0 then (if c = 0 then 0 else c) else b) else a) := by
  unfold cmp_Or_int.f
  have e0 : rd [a, b, c] 0 = a := rfl
  have e1 : rd [a, b, c] 1 = b := rfl
  have e2 : rd [a, b, c] 2 = c := rfl
  have w0 : wrap64 (0 + 1) = 1 := by unfold wrap64; omega
  have w1 : wrap64 (1 + 1) = 2 := by unfold wrap64; omega
  have w2 : wrap64 (2 + 1) = 3 := by unfold wrap64; omega
  simp only [cmp_Or_int.l0, List.length_cons, List.length_nil, e0, e1, e2, w0, w1, w2]
  by_cases ha : a = 0
  · by_cases hb : b = 0
    · by_cases hc : c = 0
      · simp [ha, hb, hc, e0, e1, e2, w0, w1, w2, cmp_Or_int.l0]
      · simp [ha, hb, hc, e0, e1, e2, w0, w1, w2, cmp_Or_int.l0]
    · simp [ha, hb, e0, e1, e2, w0, w1, w2, cmp_Or_int.l0]
  · simp [ha]
theorem compare_some (k : Nat) (x y : SC) : greedy_choice_compare.f (k + 5) x.f0 x.f1 x.f2 y.f0 y.f1 y.f2 = some (cmpR x y) := by
  unfold greedy_choice_compare.f cmpR
  simp only [compareI_some, Option.bind_some, or3_some]
  congr 1
  split
  · split
    · split <;> simp_all
    · rfl
  · rfl
theorem compare_calls (x y : SC) (w : World) : Calls Try.prog 62 #[.agg #[.int .i64 x.f0, .int .i64 x.f1, .int .i64 x.f2], .agg #[.int .i64 y.f0, .int .i64 y.f1, .int .i64 y.f2]] w fun e w' => e = .returned (.int .i64 (cmpR x y)) ∧ Gro w w' :=
  compare_exact 5 _ _ _ _ _ _ _ w (compare_some 0 x y)
end Go.Proofs.Ytoefeboikkhdkaa.X.Gr
end
section
namespace Go.Proofs.Ytoefeboikkhdkaa.X.Ba
open Go.RowKit Go.WideMaps Go.Maps Go.Proofs.YtoefeboikkhdkaaW.PrintWords Go.Proofs.Ytoefeboikkhdkaa.GMap
set_option linter.unusedVariables false
theorem lawS : Keyed Try.prog 9 := string_keyed Try.underlying9
theorem zeroI (w : World) : (zeroValue 3).run Try.prog w = .ok (.int .i64 0) w := by kernel_rfl
abbrev MapS (w : World) (b s : Nat) (f : List UInt8 → Option Int) : Prop := MapO Try.prog 9 3 encB w b s f
abbrev bts (s : ByteArray) : List UInt8 := s.data.toList
theorem keyS {s : ByteArray} (hs : s.size ≤ maxLen) : keyOf Try.prog 9 (.string s) = some (encB.lit (bts s)) := keyOf_string_mk Try.underlying9 hs
theorem ha (w : World) (o : Obj) (i : Nat) : (w.alloc o).heap[i]? = if i = w.heap.size then some o else w.heap[i]? := Array.getElem?_push
theorem strAt {w : World} {A : Option Addr} {l : List ByteArray} (h : Kd.C Kd.string w A l.length l) {k : Nat} (hk : k < l.length) : ∃ ad, A = some ad ∧ w.cell? (ad.add k) = some (.string (rdOf ByteArray.empty l (k : Int))) := by
  obtain ⟨ad, e, hx⟩ := Kd.at_string h (k : Int) (by omega) (by omega)
  exact ⟨ad, e, hx⟩
/-- Lists of texts that are looked at. -/
def okS (l : List ByteArray) : Bool := decide (l.length ≤ 100000) && l.all fun s => decide (s.size ≤ maxLen)
theorem okS_len {l : List ByteArray} (h : okS l = true) : l.length ≤ 100000 := by
  simp only [okS, Bool.and_eq_true, decide_eq_true_eq] at h; exact h.1
theorem okS_mem {l : List ByteArray} (h : okS l = true) : ∀ s ∈ l, s.size ≤ maxLen := by
  simp only [okS, Bool.and_eq_true, List.all_eq_true, decide_eq_true_eq] at h; exact h.2
theorem rdOf_mem {l : List ByteArray} {k : Nat} (h : k < l.length) : rdOf ByteArray.empty l (k : Int) ∈ l := by
  unfold rdOf
  rw [show (k : Int).toNat = k from rfl, List.getD_eq_getElem?_getD, List.getElem?_eq_getElem h]
  exact List.getElem_mem h
theorem take_rd {l : List ByteArray} {k : Nat} (h : k < l.length) : l.take (k + 1) = l.take k ++ [rdOf ByteArray.empty l (k : Int)] := by
  unfold rdOf
  rw [show (k : Int).toNat = k from rfl, List.getD_eq_getElem?_getD, List.getElem?_eq_getElem h, List.take_succ_eq_append_getElem h]; rfl
theorem drop_rd {l : List ByteArray} {k : Nat} (h : k < l.length) : l.drop k = rdOf ByteArray.empty l (k : Int) :: l.drop (k + 1) := by
  unfold rdOf
  rw [show (k : Int).toNat = k from rfl, List.getD_eq_getElem?_getD, List.getElem?_eq_getElem h, List.drop_eq_getElem_cons h]; rfl
/-- What the map holds once a list is counted. -/
def cnt (l : List ByteArray) (k : List UInt8) : Nat := (l.filter fun s => decide (bts s = k)).length
def cntO (l : List ByteArray) (k : List UInt8) : Option Int := if cnt l k = 0 then none else some (cnt l k)
theorem cnt_le (l : List ByteArray) (k) : cnt l k ≤ l.length := List.length_filter_le _ _
theorem cnt_snoc (l : List ByteArray) (s : ByteArray) (k) : cnt (l ++ [s]) k = cnt l k + if bts s = k then 1 else 0 := by
  unfold cnt
  rw [List.filter_append]
  by_cases h : bts s = k <;> simp [h]
theorem cntO_getD (l : List ByteArray) (k) : (cntO l k).getD 0 = cnt l k := by
  unfold cntO; split <;> simp_all
theorem cntO_snoc (l : List ByteArray) (s : ByteArray) : cntO (l ++ [s]) = upd (cntO l) (bts s) ((cntO l (bts s)).getD 0 + 1) := by
  funext k
  unfold upd
  rw [cntO_getD]
  unfold cntO
  rw [cnt_snoc]
  by_cases h : k = bts s
  · subst h; simp
  · rw [if_neg h]; have h' : ¬ bts s = k := fun e => h e.symm
    simp [h']
theorem count1_calls (x : ByteArray) (B b n : Nat) (f : List UInt8 → Option Int) (v : Int) (w : World) (hv : Aside0 ((f (bts x)).getD 0 = v)) (hx : x.size ≤ maxLen)
    (hc : w.cell? ⟨B, 0, none⟩ = some (.map (some b))) (hm : MapS w b n f) :
    Calls Try.prog 85 #[.string x, .pointer (some ⟨B, 0, none⟩)] w fun e w' => e = .returned (.int .i64 v) ∧ w = w' := by
  go_enter Try.func85, Try.ntmps85
  go_wp2_with (first | (at_lookup; refine lookup_arm lawS Try.underlying66 Try.underlying3 zeroI rfl _ _ rfl b n f rfl hm _ _ rfl (keyS hx) ?_; intro hwc))
  go_ret
  exact ⟨by rw [← hv.out]; rfl, rfl⟩
set_option maxRecDepth 100000 in
set_option maxHeartbeats 400000 in
theorem count_calls (A : Option Addr) (c : Nat) (l : List ByteArray) (w : World) (hr : Kd.C Kd.string w A l.length l) (hl : okS l = true) :
    Calls Try.prog 57 #[.slice A l.length c] w fun e w' => ∃ B b s, e = .returned (.agg #[.map (some b), .func (.func 85) #[] #[.pointer (some ⟨B, 0, none⟩)]]) ∧ w.heap.size ≤ B ∧ w.heap.size ≤ b ∧ B ≠ b ∧ s ≤ l.length ∧
      w'.heap[B]? = some (.cells #[Value.map (some b)] 66 (0, 0)) ∧ MapS w' b s (cntO l) ∧ Below w.heap.size w w' := by
  have hmm := @run_makeMap Try.prog
  have hmf : ∀ (fn : Fn) (first cap : Array Value) (w : World), (Instr.makeFunc fn first cap).run Try.prog w = .ok (.func fn first cap) w := fun _ _ _ _ => rfl
  have HR := Aside0.mk hr
  have HL := Aside0.mk hl
  have hlen := okS_len hl
  clear hr hl
  go_enter Try.func57, Try.ntmps57
  go_wp2
  go_loopw [9] (fun i wr => ∃ k s : Nat, k ≤ l.length ∧ s ≤ k ∧ i = .int .i64 k ∧ MapS wr (w.heap.size + 1) s (cntO (l.take k)) ∧ wr.heap[w.heap.size + 1 + 1]? = some (.cells #[Value.map (some (w.heap.size + 1))] 66 (0, 0)) ∧ wr.heap[w.heap.size]? = some (.cells #[Value.map none, Value.nilFunc] 86 (0, 0)) ∧ Below w.heap.size w wr)
    (fun i _ => l.length - (intOf i).toNat)
  case atStart =>
    refine ⟨0, 0, Nat.zero_le _, Nat.le_refl _, rfl, ?_, ?_, ?_, ?_⟩
    · have h := (MapO.made Try.prog 9 3 encB (w.alloc (.cells #[Value.map none, Value.nilFunc] 86))).alloc (.cells #[Value.map (some (w.heap.size + 1))] 66)
      have e : cntO (l.take 0) = fun _ => none := by funext k; simp [cntO, cnt]
      rw [e]; simpa using h
    · rw [ha, if_pos (by simp)]
    · rw [ha, if_neg (by simp; omega), ha, if_neg (by simp), ha, if_pos rfl]
    · exact (((Below.refl _ _).alloc (Nat.le_refl _) _).alloc (by simp) _).alloc (by simp; omega) _
  case round =>
    obtain ⟨k, s, hk, hs, rfl, hm, hB, hR, hb⟩ := hrel
    by_cases hlt : k < l.length
    · have HR2 := Aside0.mk (Kd.C_below HR.out hb)
      have hsz := okS_mem HL.out _ (rdOf_mem hlt)
      have htk := Aside0.mk (take_rd hlt)
      obtain ⟨ad, eA, hx⟩ := strAt HR2.out hlt
      cases eA
      generalize hy : rdOf ByteArray.empty l (k : Int) = y at *
      have hc := cell_of_one hB
      go_wp2_with (first
        | (at_lookup; refine lookup_arm lawS Try.underlying66 Try.underlying3 zeroI rfl _ _ rfl _ s _ rfl hm _ _ rfl (keyS hsz) ?_; intro hwc)
        | (at_mapUpdate; refine store_arm lawS Try.underlying66 Try.underlying3 rfl _ _ _ rfl _ s _ rfl hm (by unfold maxLen; omega) _ _ rfl (keyS hsz) _ rfl (wrap64_wf _) ?_; intro w1 hm1 hg1))
      have hcl := cnt_le (l.take k) (bts y)
      rw [List.length_take] at hcl
      rw [cntO_getD, show wrap64 ((cnt (l.take k) (bts y) : Int) + 1) = (cntO (l.take k) (bts y)).getD 0 + 1 from by rw [cntO_getD]; unfold wrap64; omega, ← cntO_snoc, ← htk.out] at hm1
      have hg2 := grow_le (cntO (l.take k)) (bts y) s
      clear hm hx hwc
      go_roundw
      case rel =>
        refine ⟨k + 1, _, by omega, ?_, by go_num, hm1, ?_, ?_, ?_⟩
        · omega
        · exact (hg1.block _ (lt_of_block hB) (by simp)).trans hB
        · exact (hg1.block _ (lt_of_block hR) (by simp)).trans hR
        · exact hb.grown hg1 hb.size (fun j hj => by cases hj; omega)
      case measure => simp [intOf]; omega
    · have hk' : k = l.length := by omega
      subst hk'
      have hc := cell_of_one hB
      have hr0 : wr.cell? ⟨w.heap.size, 0, none⟩ = some (.map none) := by simp [World.cell?, hR]
      have hr1 : wr.cell? ⟨w.heap.size, 1, none⟩ = some .nilFunc := by simp [World.cell?, hR]
      have hf0 : wr.frozen? ⟨w.heap.size, 0, none⟩ = false := by simp [World.frozen?, hR]
      have hf1 : wr.frozen? ⟨w.heap.size, 1, none⟩ = false := by simp [World.frozen?, hR]
      go_wp2
      refine bodyPost_ret (v := .agg #[.map (some (w.heap.size + 1)), .func (.func 85) #[] #[.pointer (some ⟨w.heap.size + 1 + 1, 0, none⟩)]]) (by simp [results, Try.results57, go_sem, hr0, hr1]) rfl ?_
      refine ⟨_, _, s, rfl, by omega, by omega, by omega, hs, ?_, ?_, ?_⟩
      · rw [Below.heap_setCell _ _ _ _ (by show _ ≠ w.heap.size; omega), Below.heap_setCell _ _ _ _ (by show _ ≠ w.heap.size; omega)]; exact hB
      · rw [List.take_length] at hm
        exact (hm.setCell (by simp) _).setCell (by simp) _
      · exact (hb.setCell (by simp) _).setCell (by simp) _
def ovl : List ByteArray → (List UInt8 → Int) → Int
  | [], _ => 0
  | s :: l, f => if 0 < f (bts s) then ovl l (fun k => if k = bts s then f k - 1 else f k) + 1 else ovl l f
/-- What two have in common. -/
def bag_Overlap.f (a b : List ByteArray) : Option Int := if okS a && okS b then some (ovl a (fun k => cnt b k)) else none
theorem ovl_yes {s : ByteArray} {l f} (h : 0 < f (bts s)) : ovl (s :: l) f = ovl l (fun k => if k = bts s then f k - 1 else f k) + 1 := by rw [ovl, if_pos h]
theorem ovl_no {s : ByteArray} {l f} (h : ¬ 0 < f (bts s)) : ovl (s :: l) f = ovl l f := by rw [ovl, if_neg h]
theorem upd_getD (f : List UInt8 → Option Int) (y : List UInt8) (v : Int) : (fun k => (upd f y v k).getD 0) = fun k => if k = y then v else (f k).getD 0 := by
  funext k; unfold upd; split <;> rfl
/-- The loop of Overlap: how far it has come. -/
def OvlAt (a b : List ByteArray) (k n : Nat) (f : List UInt8 → Option Int) : Prop := n ≤ k ∧ (n : Int) + ovl (a.drop k) (fun x => (f x).getD 0) = ovl a (fun k => cnt b k) ∧ ∀ x, 0 ≤ (f x).getD 0 ∧ (f x).getD 0 ≤ 100000
theorem OvlAt.start {a b : List ByteArray} (hb : b.length ≤ 100000) : OvlAt a b 0 0 (cntO b) := by
  refine ⟨Nat.le_refl _, ?_, fun x => ?_⟩
  · have : (fun x => (cntO b x).getD 0) = fun k => (cnt b k : Int) := by funext x; rw [cntO_getD]
    rw [List.drop_zero, this, Int.natCast_zero, Int.zero_add]
  · have := cnt_le b x; rw [cntO_getD]; omega
theorem OvlAt.yes {a b : List ByteArray} {k n : Nat} {f} {s : ByteArray} {v : Int} (h : OvlAt a b k n f) (hd : a.drop k = s :: a.drop (k + 1)) (hv : (f (bts s)).getD 0 = v) (h0 : 0 < v) : OvlAt a b (k + 1) (n + 1) (upd f (bts s) (v - 1)) := by
  obtain ⟨h1, h2, h3⟩ := h
  rw [hd, ovl_yes (by rw [hv]; exact h0)] at h2
  refine ⟨by omega, ?_, fun x => ?_⟩
  · rw [upd_getD, ← h2]
    have : (fun k => if k = bts s then v - 1 else (f k).getD 0) = fun k => if k = bts s then (f k).getD 0 - 1 else (f k).getD 0 := by
      funext k; by_cases e : k = bts s
      · subst e; rw [if_pos rfl, if_pos rfl, hv]
      · rw [if_neg e, if_neg e]
    rw [this]; omega
  · have := congrFun (upd_getD f (bts s) (v - 1)) x
    rw [this]
    have h4 := h3 x
    have h5 := h3 (bts s)
    split <;> omega
theorem OvlAt.no {a b : List ByteArray} {k n : Nat} {f} {s : ByteArray} {v : Int} (h : OvlAt a b k n f) (hd : a.drop k = s :: a.drop (k + 1)) (hv : (f (bts s)).getD 0 = v) (h0 : ¬ 0 < v) : OvlAt a b (k + 1) n f := by
  obtain ⟨h1, h2, h3⟩ := h
  rw [hd, ovl_no (by rw [hv]; exact h0)] at h2
  exact ⟨by omega, h2, h3⟩
theorem OvlAt.end_ {a b : List ByteArray} {n : Nat} {f} (h : OvlAt a b a.length n f) : (n : Int) = ovl a (fun k => cnt b k) := by
  have := h.2.1
  rw [List.drop_length] at this
  simpa [ovl] using this
theorem OvlAt.val {a b : List ByteArray} {k n : Nat} {f} {x : List UInt8} {v : Int} (h : OvlAt a b k n f) (hv : (f x).getD 0 = v) : 0 ≤ v ∧ v ≤ 100000 := by
  rw [← hv]; exact h.2.2 x
set_option maxRecDepth 100000 in
set_option maxHeartbeats 400000 in
theorem bag_Overlap.calls (A0 : Option Addr) (c0 : Nat) (l0 : List ByteArray) (A1 : Option Addr) (c1 : Nat) (l1 : List ByteArray) (r : Int) (w : World) (hr0 : Kd.C Kd.string w A0 l0.length l0) (hc0 : l0.length ≤ c0) (hr1 : Kd.C Kd.string w A1 l1.length l1) (hc1 : l1.length ≤ c1) (h : bag_Overlap.f l0 l1 = some r) :
    Calls Try.prog 24 #[.slice A0 l0.length c0, .slice A1 l1.length c1] w fun e w' => e = .returned (.int .i64 r) ∧ Below w.heap.size w w' := by
  unfold bag_Overlap.f at h
  split at h
  · rename_i hok
    simp only [Bool.and_eq_true] at hok
    obtain ⟨hok0, hok1⟩ := hok
    have H := Aside0.mk (Option.some.inj h)
    have HR0 := Aside0.mk hr0
    have HR1 := Aside0.mk hr1
    have HL0 := Aside0.mk hok0
    have HL1 := Aside0.mk hok1
    have hlen := okS_len hok0
    clear h hr0 hr1 hok0 hok1 hc0 hc1
    go_enter Try.func24, Try.ntmps24
    go_wp2_with (go_at_call 57; refine (count_calls A1 c1 l1 _ HR1.out HL1.out).mono ?_; rintro e w1 ⟨B, b, s, rfl, hB0, hb0, hBb, hs, hB, hm, hb⟩)
    go_loopw [6, 13] (fun vn vi wr => ∃ k n s f, k ≤ l0.length ∧ s ≤ 100000 + k ∧ vi = .int .i64 (k : Nat) ∧ vn = .int .i64 (n : Nat) ∧ Aside0 (OvlAt l0 l1 k n f) ∧ Aside0 (MapS wr b s f) ∧
        wr.heap[B]? = some (.cells #[Value.map (some b)] 66 (0, 0)) ∧
        wr.heap[w1.heap.size]? = some (.cells #[Value.map (some b), .func (.func 85) #[] #[.pointer (some ⟨B, 0, none⟩)]] 86 (0, 0)) ∧ Below w.heap.size w wr)
      (fun _ vi _ => l0.length - (intOf vi).toNat)
    case atStart =>
      have hB1 := lt_of_block hB
      refine ⟨0, 0, s, cntO l1, Nat.zero_le _, ?_, rfl, rfl, ⟨OvlAt.start (okS_len HL1.out)⟩, ⟨hm.alloc _⟩, ?_, ?_, hb.alloc hb.size _⟩
      · have := okS_len HL1.out; omega
      · rw [ha, if_neg (by omega)]; exact hB
      · rw [ha, if_pos rfl]
    case round =>
      obtain ⟨k, n, s', f, hk, hs', rfl, rfl, HO, HM, hB', hT, hb'⟩ := hrel
      have hc := cell_of_one hB'
      have hr0 : wr.cell? ⟨w1.heap.size, 0, none⟩ = some (.map (some b)) := by simp [World.cell?, hT]
      have hr1 : wr.cell? ⟨w1.heap.size, 1, none⟩ = some (.func (.func 85) #[] #[.pointer (some ⟨B, 0, none⟩)]) := by simp [World.cell?, hT]
      by_cases hlt : k < l0.length
      · have HR2 := Aside0.mk (Kd.C_below HR0.out hb')
        have hsz := okS_mem HL0.out _ (rdOf_mem hlt)
        have hdr := Aside0.mk (drop_rd hlt)
        obtain ⟨ad, eA, hx⟩ := strAt HR2.out hlt
        cases eA
        generalize rdOf ByteArray.empty l0 (k : Int) = y at *
        obtain ⟨v, hv⟩ : ∃ v, Aside0 ((f (bts y)).getD 0 = v) := ⟨_, ⟨rfl⟩⟩
        have hvb := HO.out.val hv.out
        have hn := HO.out.1
        by_cases h0 : 0 < v
        · have HO2 := Aside0.mk (HO.out.yes hdr.out hv.out h0)
          go_wp2_with (first
            | (go_at_call 85; refine (count1_calls y B b s' f v _ hv hsz (by assumption) HM.out).mono ?_; rintro e w' ⟨rfl, rfl⟩)
            | (at_lookup; refine lookup_arm lawS Try.underlying66 Try.underlying3 zeroI rfl _ _ rfl _ s' _ rfl HM.out _ _ rfl (keyS hsz) ?_; rw [hv.out]; intro hwc)
            | (at_mapUpdate; refine store_arm lawS Try.underlying66 Try.underlying3 rfl _ _ _ rfl _ s' _ rfl HM.out (by unfold maxLen; omega) _ _ rfl (keyS hsz) (v - 1) rfl (by exact WalkArith.wf_i64 (by omega)) ?_; intro w2 hm1 hg1))
          have hgs := grow_le f (bts y) s'
          clear hc hr0 hr1 hx
          go_roundw
          case rel =>
            refine ⟨k + 1, n + 1, _, _, by omega, ?_, by go_num, by go_num, HO2, ⟨hm1⟩, ?_, ?_, hb'.grown hg1 hb'.size (fun j hj => by cases hj; omega)⟩
            · omega
            · exact (hg1.block _ (lt_of_block hB') (by simpa using fun e => hBb e)).trans hB'
            · exact (hg1.block _ (lt_of_block hT) (by have := hm.lt; simp; omega)).trans hT
          case measure => simp [intOf]; omega
        · have HO2 := Aside0.mk (HO.out.no hdr.out hv.out h0)
          go_wp2_with (first
            | (go_at_call 85; refine (count1_calls y B b s' f v _ hv hsz (by assumption) HM.out).mono ?_; rintro e w' ⟨rfl, rfl⟩))
          clear hc hr0 hr1 hx
          go_roundw
          case rel => exact ⟨k + 1, n, _, _, by omega, by omega, by go_num, rfl, HO2, HM, hB', hT, hb'⟩
          case measure => simp [intOf]; omega
      · have hk' : k = l0.length := by omega
        subst hk'
        go_wp2
        go_ret
        refine ⟨?_, hb'⟩
        rw [← H.out, ← HO.out.end_]; rfl
  · cases h
end Go.Proofs.Ytoefeboikkhdkaa.X.Ba
end
section
namespace Go.Proofs.Ytoefeboikkhdkaa.GOpen
open Go.RowKit Go.ChangeShapes Go.WideShapes Go.Proofs.YtoefeboikkhdkaaW.PrintWords
/-- Whatever reads at type e is of the kind d, and ok. -/
def Opens (P : Program) (e : TypeId) {α : Type} (d : Kd α) (ok : α → Prop) : Prop :=
  ∀ (H : Type) (enc : TypeId × Value → H) (w : World) (base : Nat) (spare : Nat → Bool) (held : Bool) (fuel : Nat) (cs : List Value) (y : DataW H × List MemPlace),
    DataW.trod enc P w base spare held fuel e cs = some y → ∃ x, d.K w x cs ∧ ok x
section
variable {P : Program} {e t : TypeId} {α β : Type} {d : Kd α} {d' : Kd β} {ok : α → Prop} {ok' : β → Prop}
theorem Opens.string (he : P.underlying e = some .string) : Opens P e Kd.string (fun s => s.size ≤ maxLen) := by
  intro H enc w base spare held fuel cs y h
  obtain ⟨s, rfl, _, hs⟩ := DataW.trod_string he h
  exact ⟨s, rfl, hs⟩
theorem Opens.int {k : IntKind} (he : P.underlying e = some (.int k)) : Opens P e (Kd.int k) (fun n => (Lit.int k n).wf = true) := by
  intro H enc w base spare held fuel cs y h
  obtain ⟨s, rfl, _, hs⟩ := DataW.trod_int he h
  exact ⟨s, rfl, hs⟩
theorem Opens.bool (he : P.underlying e = some .bool) : Opens P e Kd.bool (fun _ => True) := by
  intro H enc w base spare held fuel cs y h
  obtain ⟨s, rfl, _⟩ := DataW.trod_bool he h
  exact ⟨s, rfl, trivial⟩
theorem mapM_cells {w : World} {a : Addr} : ∀ {l : List Nat} {cs : List Value}, (l.mapM fun i => w.cell? (a.add i)) = some cs → cs.length = l.length ∧ ∀ (j i : Nat) (u : Value), l[j]? = some i → cs[j]? = some u → w.cell? (a.add i) = some u
  | [], cs, h => by
    simp at h; subst h
    exact ⟨rfl, fun j i u hj _ => by simp at hj⟩
  | i :: l, cs, h => by
    rw [List.mapM_cons] at h
    cases hc : w.cell? (a.add i) with
    | none => rw [hc] at h; simp at h
    | some v =>
      rw [hc] at h
      cases hm : (l.mapM fun i => w.cell? (a.add i)) with
      | none => rw [hm] at h; simp at h
      | some vs =>
        rw [hm] at h
        simp at h
        subst h
        obtain ⟨h1, h2⟩ := mapM_cells hm
        refine ⟨by simp [h1], fun j i' u hj hu => ?_⟩
        cases j with
        | zero => simp at hj hu; subst hj; subst hu; exact hc
        | succ j => simp at hj hu; exact h2 j i' u hj hu
theorem add_add (a : Addr) (n m : Nat) : (a.add n).add m = a.add (n + m) := by
  unfold Addr.add
  by_cases h : n = 0
  · subst h; simp
  · by_cases h2 : m = 0
    · subst h2; simp [h]
    · simp [h, h2, Nat.add_assoc]
theorem cells_at {w : World} {base : Nat} {a : Addr} {n : Nat} {cs : List Value} (h : w.cells? base a n = some cs) : cs.length = n ∧ ∀ j u, cs[j]? = some u → w.cell? (a.add j) = some u := by
  unfold World.cells? at h
  split at h
  · obtain ⟨h1, h2⟩ := mapM_cells h
    rw [List.length_range] at h1
    refine ⟨h1, fun j u hu => h2 j j u ?_ hu⟩
    have := (List.getElem?_eq_some_iff.1 hu).1
    rw [List.getElem?_range (by omega)]
  · cases h
theorem Opens.slice (h : Opens P e d ok) (ht : P.underlying t = some (.slice e)) (hsz : P.cellsOf e = d.sz) : Opens P t (Kd.slice e d) (fun l => l.length ≤ maxLen ∧ ∀ x ∈ l, ok x) := by
  intro H enc w base spare held fuel cs y hy
  rcases DataW.trod_slice ht hy with ⟨rfl, _⟩ | ⟨a, len, cap, elems, rest, n, _, rfl, _, hb, hl, hm, hlen, hel, _, _⟩
  · exact ⟨[], ⟨none, 0, rfl, Nat.le_refl _, rfl, Nat.zero_le _, fun h0 => absurd h0 (by simp)⟩, Nat.zero_le _, fun x hx => by simp at hx⟩
  · have each : ∀ i, i < len → ∃ x, ok x ∧ ∃ c, c.length = d.sz ∧ d.K w x c ∧ ∀ j u, c[j]? = some u → w.cell? (a.add (i * d.sz + j)) = some u := by
      intro i hi
      have h1 := hel i hi
      rw [List.getElem?_eq_getElem (by omega)] at h1
      obtain ⟨c, hc, hr⟩ := Option.bind_eq_some_iff.1 h1
      obtain ⟨x, hK, hok⟩ := h H enc w base spare held n c _ hr
      obtain ⟨h2, h3⟩ := cells_at hc
      rw [hsz] at h2 h3
      exact ⟨x, hok, c, h2, hK, fun j u hu => by rw [← add_add]; exact h3 j u hu⟩
    have pick : ∃ l : List α, l.length = len ∧ ∀ i x, l[i]? = some x → ok x ∧ ∃ c, c.length = d.sz ∧ d.K w x c ∧ ∀ j u, c[j]? = some u → w.cell? (a.add (i * d.sz + j)) = some u := by
      clear hel hlen hy hl
      have aux : ∀ m, m ≤ len → ∃ l : List α, l.length = m ∧ ∀ i x, l[i]? = some x → ok x ∧ ∃ c, c.length = d.sz ∧ d.K w x c ∧ ∀ j u, c[j]? = some u → w.cell? (a.add (i * d.sz + j)) = some u := by
        intro m
        induction m with
        | zero => exact fun _ => ⟨[], rfl, fun i x hx => by simp at hx⟩
        | succ m ih =>
          intro hm'
          obtain ⟨l, hl, hx⟩ := ih (by omega)
          obtain ⟨x, hx'⟩ := each m (by omega)
          refine ⟨l ++ [x], by simp [hl], fun i z hz => ?_⟩
          rcases Nat.lt_or_ge i l.length with hi | hi
          · rw [List.getElem?_append_left hi] at hz; exact hx i z hz
          · have : i = l.length := by
              have := (List.getElem?_eq_some_iff.1 hz).1
              simp at this; omega
            subst this
            simp at hz; subst hz
            rw [hl]; exact hx'
      exact aux len (Nat.le_refl _)
    obtain ⟨l, hl', hx⟩ := pick
    subst hl'
    refine ⟨l, ⟨some a, cap, rfl, hl, rfl, by simp only [maxLen] at hm; omega, fun _ => ⟨a, rfl, fun j p hp => (hx j p hp).2⟩⟩, by omega, fun x hx' => ?_⟩
    obtain ⟨i, hi⟩ := List.getElem?_of_mem hx'
    exact (hx i x hi).1
theorem Opens.iso (h : Opens P e d ok) (f : β → α) (g : α → β) (hfg : ∀ x, f (g x) = x) : Opens P e (Kd.iso d f) (fun y => ok (f y)) := by
  intro H enc w base spare held fuel cs y hy
  obtain ⟨x, hK, hok⟩ := h H enc w base spare held fuel cs y hy
  exact ⟨g x, by show d.K w (f (g x)) cs; rw [hfg]; exact hK, by show ok (f (g x)); rw [hfg]; exact hok⟩
/-- A struct of two fields. -/
theorem Opens.pair {f0 f1 : Field} (h : Opens P f0.type d ok) (h' : Opens P f1.type d' ok') (ht : P.underlying t = some (.struct #[f0, f1])) (hn : P.cellsOf t = d.sz + d'.sz) (h0 : P.cellsOf f0.type = d.sz) (h1 : P.cellsOf f1.type = d'.sz) (o0 : f0.offset = 0) (o1 : f1.offset = d.sz) :
    Opens P t (Kd.pair d d') (fun x => ok x.1 ∧ ok' x.2) := by
  intro H enc w base spare held fuel cs y hy
  obtain ⟨y0, y1, n, _, hl, q0, q1⟩ := trod_struct2 ht hy
  rw [o0, List.drop_zero, h0] at q0
  rw [o1, h1] at q1
  obtain ⟨x0, k0, r0⟩ := h H enc w base spare held n _ _ q0
  obtain ⟨x1, k1, r1⟩ := h' H enc w base spare held n _ _ q1
  refine ⟨(x0, x1), ⟨_, _, ?_, k0, k1⟩, r0, r1⟩
  rw [List.take_of_length_le (l := cs.drop d.sz) (by rw [List.length_drop]; omega), List.take_append_drop]
/-- An argument: a struct. -/
theorem arg_struct {H : Type} {enc : TypeId × Value → H} {W : World} {base : Nat} {spare : Nat → Bool} {held : Bool} {v : Value} {D : DataW H} {p : List MemPlace} {base' : Nat} {r : Reach} {fs : Array Field}
    (h : Opens P t d ok) (ht : P.underlying t = some (.struct fs)) (hv : Value.okWide P W r base' t v) (hr : DataW.Trod enc P W base spare held t v D p) :
    ∃ x cs, v = .agg cs ∧ d.K W x cs.toList ∧ ok x := by
  obtain ⟨cs, rfl, _⟩ := okWide_struct ht hv
  obtain ⟨fuel, hf⟩ := hr
  obtain ⟨x, hK, hok⟩ := h H enc W base spare held fuel _ _ hf
  exact ⟨x, cs, rfl, hK, hok⟩
end
end Go.Proofs.Ytoefeboikkhdkaa.GOpen
end
section
namespace Go.Proofs.Ytoefeboikkhdkaa.X
open Go.RowKit Go.ChangeShapes Go.WideShapes Go.Proofs.YtoefeboikkhdkaaW.PrintWords Go.Proofs.Ytoefeboikkhdkaa.GOpen
set_option linter.unusedVariables false
def okT9 (x : ByteArray) : Prop := x.size ≤ maxLen
def okT22 (x : List (ByteArray)) : Prop := x.length ≤ maxLen ∧ ∀ y ∈ x, okT9 y
def okT23 (x : List (List (ByteArray))) : Prop := x.length ≤ maxLen ∧ ∀ y ∈ x, okT22 y
def okT25 (x : S25) : Prop := okT22 x.f0 ∧ okT23 x.f1
def okT4 (x : Bool) : Prop := True
def okT3 (x : Int) : Prop := (Lit.int .i64 x).wf = true
set_option maxRecDepth 100000 in
theorem opens25 : Opens Try.prog 25 k25 okT25 :=
  (Opens.iso (Opens.pair (Opens.slice (Opens.string Try.underlying9) Try.underlying22 (by kernel_rfl)) (Opens.slice (Opens.slice (Opens.string Try.underlying9) Try.underlying22 (by kernel_rfl)) Try.underlying23 (by kernel_rfl)) Try.underlying25 (by kernel_rfl) (by kernel_rfl) (by kernel_rfl) rfl rfl) (fun x : S25 => (x.f0, x.f1)) (fun p => ⟨p.1, p.2⟩) (fun _ => rfl))
theorem laidOut : laidOutB Try.prog = true := by kernel_rfl
theorem own : ownKnob Try.prog.godebug = none := by kernel_rfl
end Go.Proofs.Ytoefeboikkhdkaa.X
end
section
namespace Go.Proofs.Ytoefeboikkhdkaa.X
open Go.RowKit Go.Proofs.YtoefeboikkhdkaaW.PrintWords
set_option linter.unusedVariables false
end Go.Proofs.Ytoefeboikkhdkaa.X
end
section
namespace Go.Proofs.Ytoefeboikkhdkaa.X.Ba
open Go.Proofs.YtoefeboikkhdkaaW.PrintWords
section
variable {α : Type} [BEq α] [LawfulBEq α]
/-- How many of a are in b, each of b's used once. -/
def ov2 : List α → List α → Nat
  | [], _ => 0
  | s :: a, b => if s ∈ b then ov2 a (b.erase s) + 1 else ov2 a b
theorem ov2_le : ∀ (a b : List α), ov2 a b ≤ a.length
  | [], _ => Nat.le_refl _
  | s :: a, b => by
    simp only [ov2, List.length_cons]
    have h1 := ov2_le a b
    have h2 := ov2_le a (b.erase s)
    split <;> omega
end
/-- Texts as lists of bytes. -/
abbrev BT (a : List ByteArray) : List (List UInt8) := a.map bts
theorem bts_inj {x y : ByteArray} (h : bts x = bts y) : x = y := ByteArray.ext (Array.toList_inj.mp h)
theorem cnt_count (l : List ByteArray) (k : List UInt8) : cnt l k = (BT l).count k := by
  induction l with
  | nil => rfl
  | cons s l ih =>
    have : cnt (s :: l) k = cnt l k + if bts s = k then 1 else 0 := by
      unfold cnt
      by_cases h : bts s = k <;> simp [h]
    rw [this, ih]; simp only [BT, List.map_cons]; rw [List.count_cons]
    by_cases h : bts s = k <;> simp [h]
theorem ovl_ov2 : ∀ (a : List ByteArray) (b : List (List UInt8)), ovl a (fun k => (b.count k : Nat)) = (ov2 (BT a) b : Nat)
  | [], _ => rfl
  | s :: a, b => by
    simp only [BT, List.map_cons, ov2]
    by_cases h : bts s ∈ b
    · have hp : 0 < b.count (bts s) := List.count_pos_iff.2 h
      rw [ovl_yes (by omega), if_pos h]
      have e : (fun k => if k = bts s then ((b.count k : Nat) : Int) - 1 else (b.count k : Nat)) = fun k => (((b.erase (bts s)).count k : Nat) : Int) := by
        funext k
        rw [List.count_erase]
        by_cases e : k = bts s
        · subst e; simp; omega
        · have e' : ¬ bts s = k := fun h => e h.symm
          simp [e, e']
      rw [e, ovl_ov2 a]; simp [BT]
    · have h0 : b.count (bts s) = 0 := List.count_eq_zero.2 h
      rw [ovl_no (by rw [h0]; decide), if_neg h, ovl_ov2 a]
theorem ovl_eq (a b : List ByteArray) : ovl a (fun k => cnt b k) = (ov2 (BT a) (BT b) : Nat) := by
  have : (fun k => ((cnt b k : Nat) : Int)) = fun k => (((BT b).count k : Nat) : Int) := by funext k; rw [cnt_count]
  rw [this, ovl_ov2]
end Go.Proofs.Ytoefeboikkhdkaa.X.Ba
end
section
namespace Go.Proofs.Ytoefeboikkhdkaa.X.Ba
open Go.RowKit Go.Proofs.YtoefeboikkhdkaaW.PrintWords
set_option linter.unusedVariables false
end Go.Proofs.Ytoefeboikkhdkaa.X.Ba
end
