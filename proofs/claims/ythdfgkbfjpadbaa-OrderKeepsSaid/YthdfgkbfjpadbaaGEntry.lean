/- 'm[x], .. = .., ..': mapEntry, then entryStore, at maps of ints (MapO). Over any program. -/
import Derived.Test.YthdfgkbfjpadbaaGMap
import Derived.WideKeyEntry
import Derived.Maps.OwnSet
namespace Go.Proofs.Ythdfgkbfjpadbaa.GMap
open Go.RowKit Go.WideMaps Go.Maps Go.WideElems Go.ChangeMaps Go.MapKept Go.ChangeShapes Go.WideShapes
section
variable {H : Type} {P : Program} {w : World} {t k e : TypeId} {R : Value → Option (DataW H × List MemPlace)} {b : Nat} {es : Array MapEntry} {clock : Nat}
theorem entry_keyed (K : Keyed P k) (ht : P.underlying t = some (.map k e)) {z : Value} (hz : ∀ u : World, (zeroValue e).run P u = .ok z u) (hb : w.heap[b]? = some (.map es clock)) (F : Fit P k R es clock)
    {key : Value} {kl : Lit} (hkey : keyOf P k key = some kl) :
    ∃ (v0 : Value) (st : Nat) (es1 : Array MapEntry) (clock1 : Nat), (Instr.lookup t (.map (some b)) key false).run P w = .ok v0 w ∧ (Instr.mapEntry t (.map (some b)) key).run P w = .ok (.tuple #[v0, goInt st]) (setBlock w b (.map es1 clock1)) ∧
      (Instr.mapUpdate t (.map (some b)) key v0).run P w = .ok () (setBlock w b (.map es1 clock1)) ∧
      ∀ (w2 : World) (val : Value), w2.heap[b]? = some (.map es1 clock1) → ∃ es' clock', (Instr.entryStore t (.map (some b)) (goInt st) val).run P w2 = .ok () (setBlock w2 b (.map es' clock')) ∧
        (Instr.mapUpdate t (.map (some b)) key val).run P w = .ok () (setBlock w b (.map es' clock')) := by
  obtain ⟨s1, s2, _⟩ := F.stamped
  rcases K.find w hkey es.toList F.keys with ⟨h1, h2⟩ | ⟨j, e0, h1, h2, h3⟩
  · refine ⟨z, clock, es.push ⟨key, z, clock⟩, clock + 1, ?_, ?_, ?_, fun w2 val hw2 => ⟨es.push ⟨key, val, clock⟩, clock + 1, ?_, ?_⟩⟩
    · simp [Instr.lookup, run_underlying ht, MapKept.run_getObj_map hb, K.check w es.isEmpty hkey, h1, hz, Result.andThen]
    · simp [Instr.mapEntry, run_underlying ht, MapKept.run_getObj_map hb, K.check w false hkey, h1, hz, MapKept.run_setObj_map _ hb, Result.andThen, setBlock]
    · simp [Instr.mapUpdate, run_underlying ht, MapKept.run_getObj_map hb, K.check w false hkey, h1, MapKept.run_setObj_map _ hb, Result.andThen, setBlock]
    · have hidx : (es.push ⟨key, z, clock⟩).findIdx? (fun e => ((e.born : Nat) : Int) == ((clock : Nat) : Int)) = some es.size := by
        rw [findIdx_arr]
        have := findIdx_born (l := (es.push ⟨key, z, clock⟩).toList) (j := es.size) (e0 := ⟨key, z, clock⟩) (by
          simp only [Array.toList_push, List.map_append, List.map_cons, List.map_nil]
          refine List.nodup_append.2 ⟨s2, by simp, fun a ha c hc e1 => ?_⟩
          simp only [List.mem_singleton] at hc
          obtain ⟨x, hx, rfl⟩ := List.mem_map.1 ha
          have := s1 x hx
          omega) (by simp)
        exact this
      have hmod : (es.push ⟨key, z, clock⟩).modify es.size (fun e => { e with val := val }) = es.push ⟨key, val, clock⟩ := by
        apply Array.ext'
        rw [Array.toList_modify, Array.toList_push, Array.toList_push, ← Array.length_toList, modify_last]
      simp [Instr.entryStore, MapKept.run_getObj_map hw2, asInt, asIntOf, goInt, hidx, hmod, MapKept.run_setObj_map _ hw2, Result.andThen, setBlock]
    · simp [Instr.mapUpdate, run_underlying ht, MapKept.run_getObj_map hb, K.check w false hkey, h1, MapKept.run_setObj_map _ hb, Result.andThen, setBlock]
  · have hj : es[j]? = some e0 := by simpa using h2
    have hsame : es.modify j (fun e => { e with key := key }) = es := by
      apply Array.ext'
      rw [Array.toList_modify, modify_eq_set _ _ _ _ h2]
      have : ({ e0 with key := key } : MapEntry) = e0 := by rw [← h3]
      rw [this]
      exact set_self _ _ _ h2
    have hsame2 : es.modify j (fun e => { e with key := key, val := e0.val }) = es := by
      apply Array.ext'
      rw [Array.toList_modify, modify_eq_set _ _ _ _ h2]
      have : ({ e0 with key := key, val := e0.val } : MapEntry) = e0 := by rw [← h3]
      rw [this]
      exact set_self _ _ _ h2
    refine ⟨e0.val, e0.born, es, clock, ?_, ?_, ?_, fun w2 val hw2 => ⟨es.modify j (fun e' => { e' with key := key, val := val }), clock, ?_, ?_⟩⟩
    · simp [Instr.lookup, run_underlying ht, MapKept.run_getObj_map hb, K.check w es.isEmpty hkey, h1, Result.andThen]
    · simp [Instr.mapEntry, run_underlying ht, MapKept.run_getObj_map hb, K.check w false hkey, h1, hj, h3, K.stays w hkey, hsame, MapKept.run_setObj_map _ hb, Result.andThen, setBlock]
    · simp [Instr.mapUpdate, run_underlying ht, MapKept.run_getObj_map hb, K.check w false hkey, h1, hj, h3, K.stays w hkey, hsame2, MapKept.run_setObj_map _ hb, Result.andThen, setBlock]
    · have hidx : es.findIdx? (fun e => ((e.born : Nat) : Int) == ((e0.born : Nat) : Int)) = some j := by
        rw [findIdx_arr]
        exact findIdx_born s2 h2
      have hmod : es.modify j (fun e => { e with val := val }) = es.modify j (fun e' => { e' with key := key, val := val }) := by
        apply Array.ext'
        rw [Array.toList_modify, Array.toList_modify, modify_eq_set _ _ _ _ h2, modify_eq_set _ _ _ _ h2, ← h3]
      simp [Instr.entryStore, MapKept.run_getObj_map hw2, asInt, asIntOf, goInt, hidx, hmod, MapKept.run_setObj_map _ hw2, Result.andThen, setBlock]
    · simp [Instr.mapUpdate, run_underlying ht, MapKept.run_getObj_map hb, K.check w false hkey, h1, hj, h3, K.stays w hkey, MapKept.run_setObj_map _ hb, Result.andThen, setBlock]
end
section
variable {α : Type} [DecidableEq α] {P : Program} {t k e : TypeId} {E : Enc α} {w w' : World} {b s : Nat} {f : α → Option Int}
theorem put_int (law : Keyed P k) (ht : P.underlying t = some (.map k e)) (he : P.underlying e = some (.int .i64)) (H : MapO P k e E w b s f) (hn : s < maxLen) {key : Value} {y : α} (hkey : keyOf P k key = some (E.lit y)) {i : Int} (hi : (Lit.int .i64 i).wf = true) {o : Obj}
    (hrun : (Instr.mapUpdate t (.map (some b)) key (.int .i64 i)).run P w = .ok () (setBlock w b o)) : MapO P k e E (setBlock w b o) b (grow f y s) (upd f y i) := by
  obtain ⟨D, hown, hs, hD, hf⟩ := H
  obtain ⟨w1, hr1, h1, _⟩ := hown.store law ht hn hkey (plainElem_int (H := Unit) he hi)
  rw [hrun] at hr1
  injection hr1 with _ hw1
  subst hw1
  have hsz : size (D.put (E.lit y) (.lit (.int .i64 i))) = grow f y s := by
    rw [size_put hD, (hf y).1, hs]; rfl
  refine ⟨_, ?_, hsz, hD.put (E.key y) _, fun x => ?_⟩
  · obtain ⟨es, clock, q1, q2, q3, q4⟩ := h1
    refine ⟨es, clock, q1, q2, ?_, q4⟩
    have e1 : size (D.put (E.lit y) (.lit (.int .i64 i))) = es.size := by
      rw [q4]; show ((es.toList.map (WideElems.rg P k (plainElem P e))).foldr DataW.insert []).length = es.size
      exact length_read es
    omega
  · unfold upd
    by_cases e : x = y
    · subst e
      rw [if_pos rfl]
      exact ⟨has_put_same hD.isMap (E.key x) _, atKey_put_same hD.isMap (E.key x) _ _⟩
    · have e' : E.lit x ≠ E.lit y := fun h => e (E.inj _ _ h)
      rw [if_neg e, has_put_other e', atKey_put_other e']
      exact hf x
theorem grownBy_setBlock (w : World) (b : Nat) (o : Obj) : w.grownBy (setBlock w b o) (some b) := ⟨rfl, rfl, rfl, by simp [setBlock], fun j _ hj => by
  show (w.heap.setIfInBounds b o)[j]? = w.heap[j]?
  rw [Array.getElem?_setIfInBounds_ne (fun e => hj (by rw [e]))]⟩
/-- An entry that is held: what a store into it does. -/
def Held (P : Program) (t k e : TypeId) (E : Enc α) (b : Nat) (y : α) (g : Nat) (f : α → Option Int) (o : Obj) (st : Nat) : Prop :=
  ∀ (w2 : World) (i : Int), (Lit.int .i64 i).wf = true → w2.heap[b]? = some o → ∃ o2, (Instr.entryStore t (.map (some b)) (goInt st) (.int .i64 i)).run P w2 = .ok () (setBlock w2 b o2) ∧ MapO P k e E (setBlock w2 b o2) b g (upd f y i)
theorem MapO.entry (law : Keyed P k) (ht : P.underlying t = some (.map k e)) (he : P.underlying e = some (.int .i64)) (hz : ∀ w, (zeroValue e).run P w = .ok (.int .i64 0) w) (H : MapO P k e E w b s f) (hn : s < maxLen) {key : Value} {y : α} (hkey : keyOf P k key = some (E.lit y)) :
    ∃ (st : Nat) (o : Obj), (Instr.mapEntry t (.map (some b)) key).run P w = .ok (.tuple #[.int .i64 ((f y).getD 0), goInt st]) (setBlock w b o) ∧ (setBlock w b o).heap[b]? = some o ∧ MapO P k e E (setBlock w b o) b (grow f y s) (upd f y ((f y).getD 0)) ∧ Held P t k e E b y (grow f y s) f o st := by
  have H' := H
  obtain ⟨D, hown, hs, hD, hf⟩ := H
  have hown' := hown
  obtain ⟨es, clock, q1, q2, q3, q4⟩ := hown'
  obtain ⟨c, hlk, hat, hwc⟩ := hown.lookup_int law ht he (hz w) hkey
  have hc : c = (f y).getD 0 := by
    have h := (hf y).2
    rw [hat] at h
    injection h with h1
    injection h1 with _ h2
  obtain ⟨v0, st, es1, clock1, r1, r2, r3, r4⟩ := entry_keyed law ht hz q1 q2 hkey
  rw [hlk] at r1
  injection r1 with r1 _
  subst r1
  subst hc
  have hbs : (setBlock w b (.map es1 clock1)).heap[b]? = some (.map es1 clock1) := heap_setBlock_same q1 _
  refine ⟨st, .map es1 clock1, r2, hbs, put_int law ht he H' hn hkey hwc r3, fun w2 i hi hw2 => ?_⟩
  obtain ⟨es', clock', e1, e2⟩ := r4 w2 (.int .i64 i) hw2
  refine ⟨.map es' clock', e1, (put_int law ht he H' hn hkey hi e2).block ?_⟩
  rw [heap_setBlock_same hw2, heap_setBlock_same q1]
end
end Go.Proofs.Ythdfgkbfjpadbaa.GMap
