/- A map that a call makes, from keys to rows of whole numbers: 'm[k] = append(m[k], i)', by mapEntry and entryStore; and m[k] read. Over any program. -/
import Derived.Maps.GroupsBeside
import Derived.WideKeyEntry
import Derived.DeepKeys4
import Derived.WideKeyArr
import Derived.WalkKit
namespace Go.Proofs.Ytchpgkojlhipgaa.GGr
open Go.RowKit Go.Maps Go.WideElems Go.MapKept
open Go.WideMaps (KeyLaw)
open Go.ChangeMaps (setBlock heap_setBlock_same heap_setBlock_other)

abbrev R0 : Value → Option (DataW Unit × List MemPlace) := fun _ => some (.nil, [])

section
variable {P : Program} {t k e el : TypeId} {q : IntKind} {w : World} {b : Nat} {es : Array MapEntry} {clock : Nat}

/-- Who stands in the map behind a store: told by both ways. -/
theorem upd_es (K : KeyLaw P k) (ht : P.underlying t = some (.map k e)) (hb : w.heap[b]? = some (.map es clock)) (F : Fit P k R0 es clock) (hroom : es.size < maxLen)
    {key val : Value} {kl : Lit} (hkey : keyOf P k key = some kl) :
    ∃ es' clock', (Instr.mapUpdate t (.map (some b)) key val).run P w = .ok () (setBlock w b (.map es' clock')) ∧ Fit P k R0 es' clock' ∧ es'.size ≤ es.size + 1 ∧
      (∀ x' ∈ es'.toList, (x' ∈ es.toList ∧ x'.key ≠ key) ∨ (x'.key = key ∧ x'.val = val)) ∧ (∀ x ∈ es.toList, ∃ x' ∈ es'.toList, x'.key = x.key) ∧ ∃ x' ∈ es'.toList, x'.key = key := by
  obtain ⟨es', clock', hrun, F', _, _, _, hwho⟩ := Maps.fit_store (R' := R0) (val := val) (Keyed.of_law K) ht hb F hroom (fun _ _ _ _ h => h) hkey rfl
  rcases K.find w hkey es.toList F.keys with ⟨h1, h2⟩ | ⟨j, e0, h1, h2, h3⟩
  · have hr2 : (Instr.mapUpdate t (.map (some b)) key val).run P w = .ok () (setBlock w b (.map (es.push ⟨key, val, clock⟩) (clock + 1))) := by
      simp [Instr.mapUpdate, run_underlying ht, MapKept.run_getObj_map hb, K.check w false hkey, h1, MapKept.run_setObj_map _ hb, Result.andThen, setBlock]
    have hse : setBlock w b (.map es' clock') = setBlock w b (.map (es.push ⟨key, val, clock⟩) (clock + 1)) := by rw [hr2] at hrun; simpa using hrun.symm
    have hh := congrArg (fun u : World => u.heap[b]?) hse
    simp only [heap_setBlock_same hb] at hh
    obtain ⟨rfl, rfl⟩ : es' = es.push ⟨key, val, clock⟩ ∧ clock' = clock + 1 := by simpa using hh
    exact ⟨_, _, hrun, F', by simp, hwho, fun x hx => ⟨x, by simp at hx ⊢; exact .inl hx, rfl⟩, ⟨_, by simp; exact .inr rfl, rfl⟩⟩
  · have hj : es[j]? = some e0 := by simpa using h2
    have hr2 : (Instr.mapUpdate t (.map (some b)) key val).run P w = .ok () (setBlock w b (.map (es.modify j (fun e' => { e' with key := key, val := val })) clock)) := by
      simp [Instr.mapUpdate, run_underlying ht, MapKept.run_getObj_map hb, K.check w false hkey, h1, hj, h3, K.stays w hkey, MapKept.run_setObj_map _ hb, Result.andThen, setBlock]
    have hse : setBlock w b (.map es' clock') = setBlock w b (.map (es.modify j (fun e' => { e' with key := key, val := val })) clock) := by rw [hr2] at hrun; simpa using hrun.symm
    have hh := congrArg (fun u : World => u.heap[b]?) hse
    simp only [heap_setBlock_same hb] at hh
    obtain ⟨rfl, rfl⟩ : es' = es.modify j (fun e' => { e' with key := key, val := val }) ∧ clock' = clock := by simpa using hh
    have hks : (es.modify j (fun e' => { e' with key := key, val := val })).toList.map (·.key) = es.toList.map (·.key) := modify_keys j _ (fun e1 he => by rw [hj] at he; cases he; exact h3.symm)
    have hto : ∀ x ∈ es.toList, ∃ x' ∈ (es.modify j (fun e' => { e' with key := key, val := val })).toList, x'.key = x.key := fun x hx => by
      have : x.key ∈ (es.modify j (fun e' => { e' with key := key, val := val })).toList.map (·.key) := by rw [hks]; exact List.mem_map_of_mem hx
      obtain ⟨x', h, h'⟩ := List.mem_map.1 this
      exact ⟨x', h, h'⟩
    refine ⟨_, _, hrun, F', by simp, hwho, hto, ?_⟩
    obtain ⟨x', h, h'⟩ := hto e0 (List.mem_of_getElem? h2)
    exact ⟨x', h, h'.trans h3⟩

/-- BLOCK b IS A MAP OF AT MOST n ENTRIES FROM mk s TO ROWS OF THE CALL'S OWN, each its own, that hold f s; no entry: f s is empty. -/
def GM (P : Program) (k : TypeId) (mk : ByteArray → Value) (el : TypeId) (q : IntKind) (w : World) (base b n : Nat) (f : ByteArray → List Int) : Prop :=
  ∃ es clock, w.heap[b]? = some (.map es clock) ∧ Fit P k R0 es clock ∧ es.size ≤ n ∧ b < base ∧
    (∀ x ∈ es.toList, ∃ s, x.key = mk s ∧ f s ≠ [] ∧ w.ownsInts base el q x.val (f s)) ∧
    (∀ s, f s ≠ [] → ∃ x ∈ es.toList, x.key = mk s) ∧
    ∀ x ∈ es.toList, ∀ y ∈ es.toList, x.key ≠ y.key → x.val.ownBlock = none ∨ x.val.ownBlock ≠ y.val.ownBlock

variable {mk : ByteArray → Value} {base n : Nat} {f : ByteArray → List Int} {w' : World}

theorem GM.made (P : Program) (k : TypeId) (mk : ByteArray → Value) (el : TypeId) (q : IntKind) (w : World) : GM P k mk el q (w.alloc (.map #[] 0)) (w.heap.size + 1) w.heap.size 0 (fun _ => []) :=
  ⟨#[], 0, (MapKept.heap_alloc w _).1, ⟨by simp, stamped_empty 0, by simp⟩, Nat.le_refl _, Nat.lt_succ_self _, by simp, fun s h => absurd rfl h, by simp⟩
theorem GM.lt (h : GM P k mk el q w base b n f) : b < w.heap.size := by
  obtain ⟨es, clock, hb, _⟩ := h
  exact (Array.getElem?_eq_some_iff.1 hb).1
theorem GM.lt_base (h : GM P k mk el q w base b n f) : b < base := by
  obtain ⟨es, clock, hb, _, _, hl, _⟩ := h
  exact hl
/-- Over what turns another block: not the map's, nor a group's row. -/
theorem GM.kept {row : Option Nat} (h : GM P k mk el q w base b n f) (hg : w.grownBy w' row) (hb' : some b ≠ row) (hs : ∀ j, row = some j → w.Shuns b (· = j)) : GM P k mk el q w' base b n f := by
  obtain ⟨es, clock, hb, F, hn, hbb, hown, hhas, hap⟩ := h
  refine ⟨es, clock, (hg.block b (Array.getElem?_eq_some_iff.1 hb).1 hb').trans hb, F, hn, hbb, fun x hx => ?_, hhas, hap⟩
  obtain ⟨s, h1, h2, h3⟩ := hown x hx
  refine ⟨s, h1, h2, h3.kept hg ?_⟩
  cases hv : x.val.ownBlock with
  | none => exact .inl rfl
  | some g => exact .inr fun e1 => hs g e1.symm es clock hb x hx g hv rfl
theorem GM.grown (h : GM P k mk el q w base b n f) (hg : w.grownBy w' none) : GM P k mk el q w' base b n f := h.kept hg (by simp) (fun j hj => by cases hj)
theorem GM.alloc (h : GM P k mk el q w base b n f) (o : Obj) : GM P k mk el q (w.alloc o) base b n f := h.grown (World.grownBy_alloc w o none)
/-- Its rows lie from 'base' on, and in the world. -/
theorem GM.shuns (h : GM P k mk el q w base b n f) {j : Nat} (hj : j < base ∨ w.heap.size ≤ j) : w.Shuns b (· = j) := by
  obtain ⟨es, clock, hb, F, hn, hbb, hown, hhas, hap⟩ := h
  intro es' clock' hb' x hx g hg e1
  obtain ⟨rfl, rfl⟩ : es' = es ∧ clock' = clock := by rw [hb] at hb'; simpa using hb'.symm
  obtain ⟨s, _, _, h3⟩ := hown x hx
  have := h3.1.lt g hg
  omega

/-- m[k] read. -/
theorem GM.look (h : GM P k mk el q w base b n f) (K : KeyLaw P k) (hmk : ∀ s s', mk s = mk s' → s = s') (ht : P.underlying t = some (.map k e)) (hz : (zeroValue e).run P w = .ok (.slice none 0 0) w) (s : ByteArray) {kl : Lit} (hkey : keyOf P k (mk s) = some kl) :
    ∃ v, (Instr.lookup t (.map (some b)) (mk s) false).run P w = .ok v w ∧ w.ownsInts base el q v (f s) ∧ (∀ g, v.ownBlock = some g → ∀ No : Nat → Prop, w.Shuns b No → ¬ No g) := by
  obtain ⟨es, clock, hb, F, hn, hbb, hown, hhas, hap⟩ := h
  rcases Maps.fit_look false (Keyed.of_law K) ht hz hb F hkey with ⟨hrun, hno, _⟩ | ⟨e0, y, hm0, hk0, hrun, _⟩
  · refine ⟨.slice none 0 0, by simpa using hrun, ?_, fun g hg => by cases hg⟩
    have : f s = [] := Classical.byContradiction fun hx => by
      obtain ⟨x, hx, hk⟩ := hhas s hx
      exact hno x hx hk
    rw [this]
    exact World.ownsInts_nil _ _ _ _
  · obtain ⟨s', h1, h2, h3⟩ := hown e0 hm0
    obtain rfl : s' = s := hmk _ _ (h1.symm.trans hk0)
    exact ⟨e0.val, by simpa using hrun, h3, fun g hg No hs => hs es clock hb e0 hm0 g hg⟩

def upd (f : ByteArray → List Int) (s : ByteArray) (l : List Int) : ByteArray → List Int := fun x => if x = s then l else f x

/-- THE WAY BACK. -/
def Back (P : Program) (t k : TypeId) (mk : ByteArray → Value) (el : TypeId) (q : IntKind) (base b n : Nat) (f : ByteArray → List Int) (s : ByteArray) (v0 : Value) (st : Nat) (w2 : World) : Prop :=
  ∀ (w3 : World) (v' : Value) (zs : List Int), w2.grownBy w3 v0.ownBlock → w3.ownsInts base el q v' zs → zs ≠ [] → (v'.ownBlock = v0.ownBlock ∨ ∃ g, v'.ownBlock = some g ∧ w2.heap.size ≤ g) →
    ∃ w4, (Instr.entryStore t (.map (some b)) (goInt st) v').run P w3 = .ok () w4 ∧ w3.grownBy w4 (some b) ∧ w4.heap.size = w3.heap.size ∧ GM P k mk el q w4 base b (n + 1) (upd f s zs)

/-- m[k] = append(m[k], ..): the entry. -/
theorem GM.entry (h : GM P k mk el q w base b n f) (hn : n < maxLen) (K : KeyLaw P k) (hmk : ∀ s s', mk s = mk s' → s = s') (ht : P.underlying t = some (.map k e)) (hz : ∀ u : World, (zeroValue e).run P u = .ok (.slice none 0 0) u) (s : ByteArray) {kl : Lit} (hkey : keyOf P k (mk s) = some kl) :
    ∃ (v0 : Value) (st : Nat) (w2 : World), (Instr.mapEntry t (.map (some b)) (mk s)).run P w = .ok (.tuple #[v0, goInt st]) w2 ∧ w.grownBy w2 (some b) ∧ w2.heap.size = w.heap.size ∧ w2.ownsInts base el q v0 (f s) ∧ Back P t k mk el q base b n f s v0 st w2 := by
  obtain ⟨es, clock, hb, F, hs, hbb, hown, hhas, hap⟩ := h
  obtain ⟨v0, st, es1, clock1, hrun, hwhich, hback⟩ := entry_then_store K ht hz hb F hkey
  have hg2 : w.grownBy (setBlock w b (.map es1 clock1)) (some b) := ⟨rfl, rfl, rfl, by simp [setBlock], fun i _ hi => heap_setBlock_other hb _ (fun e1 => hi (by rw [e1]))⟩
  have hofb : ∀ {u : Value} {zs : List Int} {W : World}, W.ownsInts base el q u zs → u.ownBlock = none ∨ u.ownBlock ≠ some b := fun {u zs W} ho => by
    cases hu : u.ownBlock with
    | none => exact .inl rfl
    | some g => exact .inr fun e1 => by cases e1; have := (ho.1.lt b hu).1; omega
  have hv0 : w.ownsInts base el q v0 (f s) ∧ ∀ x ∈ es.toList, x.key ≠ mk s → x.val.ownBlock = none ∨ x.val.ownBlock ≠ v0.ownBlock := by
    rcases hwhich with ⟨e0, hm0, hk0, rfl⟩ | ⟨hno, rfl⟩
    · obtain ⟨s', h1, h2, h3⟩ := hown e0 hm0
      obtain rfl : s' = s := hmk _ _ (h1.symm.trans hk0)
      exact ⟨h3, fun x hx hne => hap x hx e0 hm0 (by rw [hk0]; exact hne)⟩
    · have : f s = [] := Classical.byContradiction fun hx => by
        obtain ⟨x, hx, hk⟩ := hhas s hx
        exact hno x hx hk
      rw [this]
      refine ⟨World.ownsInts_nil _ _ _ _, fun x hx _ => ?_⟩
      cases hv : x.val.ownBlock with
      | none => exact .inl rfl
      | some g => exact .inr fun e1 => by cases e1
  refine ⟨v0, st, _, hrun, hg2, by simp [setBlock], hv0.1.kept hg2 (hofb hv0.1), ?_⟩
  intro w3 v' zs hg3 ho3 hzs hloc
  have hb2 : (setBlock w b (.map es1 clock1)).heap[b]? = some (.map es1 clock1) := heap_setBlock_same hb _
  have hblt : b < (setBlock w b (.map es1 clock1)).heap.size := (Array.getElem?_eq_some_iff.1 hb2).1
  have hb3 : w3.heap[b]? = some (.map es1 clock1) := (hg3.block b hblt (fun e1 => by
    rcases hofb hv0.1 with h | h
    · rw [h] at e1; cases e1
    · exact h e1.symm)).trans hb2
  obtain ⟨es', clock', hst, hup⟩ := hback w3 v' hb3
  obtain ⟨es'', clock'', hrun2, F', hsz, hwho, hto, hthere⟩ := upd_es (val := v') K ht hb F (by omega) hkey
  have hse : setBlock w b (.map es' clock') = setBlock w b (.map es'' clock'') := by rw [hrun2] at hup; simpa using hup.symm
  have hh := congrArg (fun u : World => u.heap[b]?) hse
  simp only [heap_setBlock_same hb] at hh
  obtain ⟨rfl, rfl⟩ : es' = es'' ∧ clock' = clock'' := by simpa using hh
  have hg4 : w3.grownBy (setBlock w3 b (.map es' clock')) (some b) := ⟨rfl, rfl, rfl, by simp [setBlock], fun i _ hi => heap_setBlock_other hb3 _ (fun e1 => hi (by rw [e1]))⟩
  refine ⟨_, hst, hg4, by simp [setBlock], es', clock', heap_setBlock_same hb3 _, F', by omega, hbb, fun x' hx' => ?_, fun s' hs' => ?_, ?_⟩
  · rcases hwho x' hx' with ⟨h1, h2⟩ | ⟨h1, h2⟩
    · obtain ⟨s', g1, g2, g3⟩ := hown x' h1
      have hne : s' ≠ s := fun e1 => h2 (by rw [g1, e1])
      refine ⟨s', g1, by unfold upd; rw [if_neg hne]; exact g2, ?_⟩
      unfold upd; rw [if_neg hne]
      exact ((g3.kept hg2 (hofb g3)).kept hg3 (hv0.2 x' h1 h2)).kept hg4 (hofb g3)
    · refine ⟨s, h1, by unfold upd; rw [if_pos rfl]; exact hzs, ?_⟩
      unfold upd; rw [if_pos rfl, h2]
      exact ho3.kept hg4 (hofb ho3)
  · by_cases hs1 : s' = s
    · subst hs1; exact hthere
    · unfold upd at hs'; rw [if_neg hs1] at hs'
      obtain ⟨x, hx, hk⟩ := hhas s' hs'
      obtain ⟨x', h1, h2⟩ := hto x hx
      exact ⟨x', h1, h2.trans hk⟩
  · have hnew : ∀ x ∈ es.toList, x.key ≠ mk s → x.val.ownBlock = none ∨ x.val.ownBlock ≠ v'.ownBlock := fun x hx hne => by
      rcases hloc with hl | ⟨g, hl, hge⟩
      · rw [hl]; exact hv0.2 x hx hne
      · cases hx1 : x.val.ownBlock with
        | none => exact .inl rfl
        | some g' =>
          refine .inr fun e1 => ?_
          rw [hl] at e1
          cases e1
          obtain ⟨s', _, _, g3⟩ := hown x hx
          have := (g3.1.lt g hx1).2
          have hw2 : (setBlock w b (.map es1 clock1)).heap.size = w.heap.size := by simp [setBlock]
          omega
    intro x hx y hy hne
    rcases hwho x hx with ⟨h1, h2⟩ | ⟨h1, h2⟩
    · rcases hwho y hy with ⟨g1, g2⟩ | ⟨g1, g2⟩
      · exact hap x h1 y g1 hne
      · rw [g2]; exact hnew x h1 h2
    · rcases hwho y hy with ⟨g1, g2⟩ | ⟨g1, g2⟩
      · rw [h2]
        rcases hnew y g1 g2 with h | h
        · cases hv : v'.ownBlock with
          | none => exact .inl rfl
          | some g => exact .inr fun e1 => by rw [h] at e1; cases e1
        · exact .inr fun e1 => h e1.symm
      · exact absurd (h1.trans g1.symm) hne
end

/-- The key [1]string. -/
theorem keyArr {P : Program} {k e : TypeId} (A : WideMaps.ArrKey P k e 1) (he : P.underlying e = some .string) (hsz : ∃ m, P.types.size = m + 2) {s : ByteArray} (hs : s.size ≤ maxLen) : ∃ kl, keyOf P k (.agg #[.string s]) = some kl := by
  obtain ⟨m, hm⟩ := hsz
  have hkt := A.keyType ⟨m + 1, hm⟩
  have hf : (Value.agg #[.string s]).formed P k = true := by simp [Value.formed, A.hu, A.size]
  unfold keyOf
  rw [A.hu]
  simp only [hkt, hf, Bool.and_self, if_true]
  rw [hm]
  simp [Program.keyLits, A.hu, A.size, A.one, he, hs, Value.cells, List.range_succ]
end Go.Proofs.Ytchpgkojlhipgaa.GGr
