/- The texts that the law KeysFewer wants, part 3 of 4: what is kept of them. -/
import Derived.Maps.GroupsBeside
import Derived.WideKeyEntry
import Derived.DeepKeys4
import Derived.WideKeyArr
import Derived.WalkKit
import Derived.Maps.AppendAt
import Derived.Laws.AppendOwnNone
import Derived.OwnWalk
import Derived.WalkSpells
import Derived.WalkSmall
import Derived.OneCell
import Derived.Outline
import Derived.RangeFuncWrites
import Derived.RangeFuncLeaves
import Derived.RangeFuncCalls
import Derived.OrdersIn
import Derived.RangeFuncKeeps
import Derived.Stop.RegionWithIn
import Derived.LoopIn
import Derived.ChangeArms
import Derived.ChangeSame
import Derived.WideShapes
import Derived.ProofKit
import Derived.OpenShut
import Derived.Test.YtbcpaojciephmaaChecked
import Derived.KernelRfl
import Derived.Test.YtbcpaojciephmaaCKeysFewer2
section
namespace Go.Proofs.Ytbcpaojciephmaa.GGr
open Go.RowKit Go.Maps Go.WideElems Go.MapKept
open Go.WideMaps (KeyLaw)
open Go.ChangeMaps (setBlock heap_setBlock_same heap_setBlock_other)
abbrev R0 : Value → Option (DataW Unit × List MemPlace) := fun _ => some (.nil, [])
section
variable {P : Program} {t k e el : TypeId} {q : IntKind} {w : World} {b : Nat} {es : Array MapEntry} {clock : Nat}
/-- Who stands in the map behind a store: told by both ways. -/
theorem upd_es (K : KeyLaw P k) (ht : P.underlying t = some (.map k e)) (hb : w.heap[b]? = some (.map es clock)) (F : Fit P k R0 es clock) (hroom : es.size < maxLen)
    {key val : Value} {kl : Lit} (hkey : keyOf P k key = some kl) :
    ∃ es' clock', (Instr.mapUpdate t (.map (some b)) key val).run P w = .ok () (setBlock w b (.map es' clock')) ∧ Fit P k R0 es' clock' ∧ es'.size ≤ es.size + 1 ∧
      (∀ x' ∈ es'.toList, (x' ∈ es.toList ∧ x'.key ≠ key) ∨ (x'.key = key ∧ x'.val = val)) ∧ (∀ x ∈ es.toList, ∃ x' ∈ es'.toList, x'.key = x.key) ∧ ∃ x' ∈ es'.toList, x'.key = key := by
  obtain ⟨es', clock', hrun, F', _, _, _, hwho⟩ := Maps.fit_store (R' := R0) (val := val) (Keyed.of_law K) ht hb F hroom (fun _ _ _ _ h => h) hkey rfl
  rcases K.find w hkey es.toList F.keys with ⟨h1, h2⟩ | ⟨j, e0, h1, h2, h3⟩
  · have hr2 : (Instr.mapUpdate t (.map (some b)) key val).run P w = .ok () (setBlock w b (.map (es.push ⟨key, val, clock⟩) (clock + 1))) := by
      simp [Instr.mapUpdate, run_underlying ht, MapKept.run_getObj_map hb, K.check w false hkey, h1, MapKept.run_setObj_map _ hb, Result.andThen, setBlock]
    have hse : setBlock w b (.map es' clock') = setBlock w b (.map (es.push ⟨key, val, clock⟩) (clock + 1)) := by rw [hr2] at hrun; simpa using hrun.symm
    have hh := congrArg (fun u : World => u.heap[b]?) hse
    simp only [heap_setBlock_same hb] at hh
    obtain ⟨rfl, rfl⟩ : es' = es.push ⟨key, val, clock⟩ ∧ clock' = clock + 1 := by simpa using hh
    exact ⟨_, _, hrun, F', by simp, hwho, fun x hx => ⟨x, by simp at hx ⊢; exact .inl hx, rfl⟩, ⟨_, by simp; exact .inr rfl, rfl⟩⟩
  · have hj : es[j]? = some e0 := by simpa using h2
    have hr2 : (Instr.mapUpdate t (.map (some b)) key val).run P w = .ok () (setBlock w b (.map (es.modify j (fun e' => { e' with key := key, val := val })) clock)) := by
      simp [Instr.mapUpdate, run_underlying ht, MapKept.run_getObj_map hb, K.check w false hkey, h1, hj, h3, K.stays w hkey, MapKept.run_setObj_map _ hb, Result.andThen, setBlock]
    have hse : setBlock w b (.map es' clock') = setBlock w b (.map (es.modify j (fun e' => { e' with key := key, val := val })) clock) := by rw [hr2] at hrun; simpa using hrun.symm
    have hh := congrArg (fun u : World => u.heap[b]?) hse
    simp only [heap_setBlock_same hb] at hh
    obtain ⟨rfl, rfl⟩ : es' = es.modify j (fun e' => { e' with key := key, val := val }) ∧ clock' = clock := by simpa using hh
    have hks : (es.modify j (fun e' => { e' with key := key, val := val })).toList.map (·.key) = es.toList.map (·.key) := modify_keys j _ (fun e1 he => by rw [hj] at he; cases he; exact h3.symm)
    have hto : ∀ x ∈ es.toList, ∃ x' ∈ (es.modify j (fun e' => { e' with key := key, val := val })).toList, x'.key = x.key := fun x hx => by
      have : x.key ∈ (es.modify j (fun e' => { e' with key := key, val := val })).toList.map (·.key) := by rw [hks]; exact List.mem_map_of_mem hx
      obtain ⟨x', h, h'⟩ := List.mem_map.1 this
      exact ⟨x', h, h'⟩
    refine ⟨_, _, hrun, F', by simp, hwho, hto, ?_⟩
    obtain ⟨x', h, h'⟩ := hto e0 (List.mem_of_getElem? h2)
    exact ⟨x', h, h'.trans h3⟩
/-- BLOCK b IS A MAP OF AT MOST n ENTRIES FROM mk s TO ROWS OF THE CALL'S OWN, each its own, that hold f s; no entry: f s is empty. -/
def GM (P : Program) (k : TypeId) (mk : ByteArray → Value) (el : TypeId) (q : IntKind) (w : World) (base b n : Nat) (f : ByteArray → List Int) : Prop :=
  ∃ es clock, w.heap[b]? = some (.map es clock) ∧ Fit P k R0 es clock ∧ es.size ≤ n ∧ b < base ∧
    (∀ x ∈ es.toList, ∃ s, x.key = mk s ∧ f s ≠ [] ∧ w.ownsInts base el q x.val (f s)) ∧
    (∀ s, f s ≠ [] → ∃ x ∈ es.toList, x.key = mk s) ∧
    ∀ x ∈ es.toList, ∀ y ∈ es.toList, x.key ≠ y.key → x.val.ownBlock = none ∨ x.val.ownBlock ≠ y.val.ownBlock
variable {mk : ByteArray → Value} {base n : Nat} {f : ByteArray → List Int} {w' : World}
theorem GM.made (P : Program) (k : TypeId) (mk : ByteArray → Value) (el : TypeId) (q : IntKind) (w : World) : GM P k mk el q (w.alloc (.map #[] 0)) (w.heap.size + 1) w.heap.size 0 (fun _ => []) :=
  ⟨#[], 0, (MapKept.heap_alloc w _).1, ⟨by simp, stamped_empty 0, by simp⟩, Nat.le_refl _, Nat.lt_succ_self _, by simp, fun s h => absurd rfl h, by simp⟩
theorem GM.lt (h : GM P k mk el q w base b n f) : b < w.heap.size := by
  obtain ⟨es, clock, hb, _⟩ := h
  exact (Array.getElem?_eq_some_iff.1 hb).1
/-- Over what turns another block: not the map's, nor a group's row. -/
theorem GM.kept {row : Option Nat} (h : GM P k mk el q w base b n f) (hg : w.grownBy w' row) (hb' : some b ≠ row) (hs : ∀ j, row = some j → w.Shuns b (· = j)) : GM P k mk el q w' base b n f := by
  obtain ⟨es, clock, hb, F, hn, hbb, hown, hhas, hap⟩ := h
  refine ⟨es, clock, (hg.block b (Array.getElem?_eq_some_iff.1 hb).1 hb').trans hb, F, hn, hbb, fun x hx => ?_, hhas, hap⟩
  obtain ⟨s, h1, h2, h3⟩ := hown x hx
  refine ⟨s, h1, h2, h3.kept hg ?_⟩
  cases hv : x.val.ownBlock with
  | none => exact .inl rfl
  | some g => exact .inr fun e1 => hs g e1.symm es clock hb x hx g hv rfl
theorem GM.grown (h : GM P k mk el q w base b n f) (hg : w.grownBy w' none) : GM P k mk el q w' base b n f := h.kept hg (by simp) (fun j hj => by cases hj)
theorem GM.alloc (h : GM P k mk el q w base b n f) (o : Obj) : GM P k mk el q (w.alloc o) base b n f := h.grown (World.grownBy_alloc w o none)
/-- Its rows lie from 'base' on, and in the world. -/
theorem GM.shuns (h : GM P k mk el q w base b n f) {j : Nat} (hj : j < base ∨ w.heap.size ≤ j) : w.Shuns b (· = j) := by
  obtain ⟨es, clock, hb, F, hn, hbb, hown, hhas, hap⟩ := h
  intro es' clock' hb' x hx g hg e1
  obtain ⟨rfl, rfl⟩ : es' = es ∧ clock' = clock := by rw [hb] at hb'; simpa using hb'.symm
  obtain ⟨s, _, _, h3⟩ := hown x hx
  have := h3.1.lt g hg
  omega
/-- m[k] read. -/
theorem GM.look (h : GM P k mk el q w base b n f) (K : KeyLaw P k) (hmk : ∀ s s', mk s = mk s' → s = s') (ht : P.underlying t = some (.map k e)) (hz : (zeroValue e).run P w = .ok (.slice none 0 0) w) (s : ByteArray) {kl : Lit} (hkey : keyOf P k (mk s) = some kl) :
    ∃ v, (Instr.lookup t (.map (some b)) (mk s) false).run P w = .ok v w ∧ w.ownsInts base el q v (f s) ∧ (∀ g, v.ownBlock = some g → ∀ No : Nat → Prop, w.Shuns b No → ¬ No g) := by
  obtain ⟨es, clock, hb, F, hn, hbb, hown, hhas, hap⟩ := h
  rcases Maps.fit_look false (Keyed.of_law K) ht hz hb F hkey with ⟨hrun, hno, _⟩ | ⟨e0, y, hm0, hk0, hrun, _⟩
  · refine ⟨.slice none 0 0, by simpa using hrun, ?_, fun g hg => by cases hg⟩
    have : f s = [] := Classical.byContradiction fun hx => by
      obtain ⟨x, hx, hk⟩ := hhas s hx
      exact hno x hx hk
    rw [this]
    exact World.ownsInts_nil _ _ _ _
  · obtain ⟨s', h1, h2, h3⟩ := hown e0 hm0
    obtain rfl : s' = s := hmk _ _ (h1.symm.trans hk0)
    exact ⟨e0.val, by simpa using hrun, h3, fun g hg No hs => hs es clock hb e0 hm0 g hg⟩
def upd (f : ByteArray → List Int) (s : ByteArray) (l : List Int) : ByteArray → List Int := fun x => if x = s then l else f x
/-- THE WAY BACK. -/
def Back (P : Program) (t k : TypeId) (mk : ByteArray → Value) (el : TypeId) (q : IntKind) (base b n : Nat) (f : ByteArray → List Int) (s : ByteArray) (v0 : Value) (st : Nat) (w2 : World) : Prop :=
  ∀ (w3 : World) (v' : Value) (zs : List Int), w2.grownBy w3 v0.ownBlock → w3.ownsInts base el q v' zs → zs ≠ [] → (v'.ownBlock = v0.ownBlock ∨ ∃ g, v'.ownBlock = some g ∧ w2.heap.size ≤ g) →
    ∃ w4, (Instr.entryStore t (.map (some b)) (goInt st) v').run P w3 = .ok () w4 ∧ w3.grownBy w4 (some b) ∧ w4.heap.size = w3.heap.size ∧ GM P k mk el q w4 base b (n + 1) (upd f s zs)
/-- m[k] = append(m[k], ..): the entry. -/
theorem GM.entry (h : GM P k mk el q w base b n f) (hn : n < maxLen) (K : KeyLaw P k) (hmk : ∀ s s', mk s = mk s' → s = s') (ht : P.underlying t = some (.map k e)) (hz : ∀ u : World, (zeroValue e).run P u = .ok (.slice none 0 0) u) (s : ByteArray) {kl : Lit} (hkey : keyOf P k (mk s) = some kl) :
    ∃ (v0 : Value) (st : Nat) (w2 : World), (Instr.mapEntry t (.map (some b)) (mk s)).run P w = .ok (.tuple #[v0, goInt st]) w2 ∧ w.grownBy w2 (some b) ∧ w2.heap.size = w.heap.size ∧ w2.ownsInts base el q v0 (f s) ∧ Back P t k mk el q base b n f s v0 st w2 := by
  obtain ⟨es, clock, hb, F, hs, hbb, hown, hhas, hap⟩ := h
  obtain ⟨v0, st, es1, clock1, hrun, hwhich, hback⟩ := entry_then_store K ht hz hb F hkey
  have hg2 : w.grownBy (setBlock w b (.map es1 clock1)) (some b) := ⟨rfl, rfl, rfl, by simp [setBlock], fun i _ hi => heap_setBlock_other hb _ (fun e1 => hi (by rw [e1]))⟩
  have hofb : ∀ {u : Value} {zs : List Int} {W : World}, W.ownsInts base el q u zs → u.ownBlock = none ∨ u.ownBlock ≠ some b := fun {u zs W} ho => by
    cases hu : u.ownBlock with
    | none => exact .inl rfl
    | some g => exact .inr fun e1 => by cases e1; have := (ho.1.lt b hu).1; omega
  have hv0 : w.ownsInts base el q v0 (f s) ∧ ∀ x ∈ es.toList, x.key ≠ mk s → x.val.ownBlock = none ∨ x.val.ownBlock ≠ v0.ownBlock := by
    rcases hwhich with ⟨e0, hm0, hk0, rfl⟩ | ⟨hno, rfl⟩
    · obtain ⟨s', h1, h2, h3⟩ := hown e0 hm0
      obtain rfl : s' = s := hmk _ _ (h1.symm.trans hk0)
      exact ⟨h3, fun x hx hne => hap x hx e0 hm0 (by rw [hk0]; exact hne)⟩
    · have : f s = [] := Classical.byContradiction fun hx => by
        obtain ⟨x, hx, hk⟩ := hhas s hx
        exact hno x hx hk
      rw [this]
      refine ⟨World.ownsInts_nil _ _ _ _, fun x hx _ => ?_⟩
      cases hv : x.val.ownBlock with
      | none => exact .inl rfl
      | some g => exact .inr fun e1 => by cases e1
  refine ⟨v0, st, _, hrun, hg2, by simp [setBlock], hv0.1.kept hg2 (hofb hv0.1), ?_⟩
  intro w3 v' zs hg3 ho3 hzs hloc
  have hb2 : (setBlock w b (.map es1 clock1)).heap[b]? = some (.map es1 clock1) := heap_setBlock_same hb _
  have hblt : b < (setBlock w b (.map es1 clock1)).heap.size := (Array.getElem?_eq_some_iff.1 hb2).1
  have hb3 : w3.heap[b]? = some (.map es1 clock1) := (hg3.block b hblt (fun e1 => by
    rcases hofb hv0.1 with h | h
    · rw [h] at e1; cases e1
    · exact h e1.symm)).trans hb2
  obtain ⟨es', clock', hst, hup⟩ := hback w3 v' hb3
  obtain ⟨es'', clock'', hrun2, F', hsz, hwho, hto, hthere⟩ := upd_es (val := v') K ht hb F (by omega) hkey
  have hse : setBlock w b (.map es' clock') = setBlock w b (.map es'' clock'') := by rw [hrun2] at hup; simpa using hup.symm
  have hh := congrArg (fun u : World => u.heap[b]?) hse
  simp only [heap_setBlock_same hb] at hh
  obtain ⟨rfl, rfl⟩ : es' = es'' ∧ clock' = clock'' := by simpa using hh
  have hg4 : w3.grownBy (setBlock w3 b (.map es' clock')) (some b) := ⟨rfl, rfl, rfl, by simp [setBlock], fun i _ hi => heap_setBlock_other hb3 _ (fun e1 => hi (by rw [e1]))⟩
  refine ⟨_, hst, hg4, by simp [setBlock], es', clock', heap_setBlock_same hb3 _, F', by omega, hbb, fun x' hx' => ?_, fun s' hs' => ?_, ?_⟩
  · rcases hwho x' hx' with ⟨h1, h2⟩ | ⟨h1, h2⟩
    · obtain ⟨s', g1, g2, g3⟩ := hown x' h1
      have hne : s' ≠ s := fun e1 => h2 (by rw [g1, e1])
      refine ⟨s', g1, by unfold upd; rw [if_neg hne]; exact g2, ?_⟩
      unfold upd; rw [if_neg hne]
      exact ((g3.kept hg2 (hofb g3)).kept hg3 (hv0.2 x' h1 h2)).kept hg4 (hofb g3)
    · refine ⟨s, h1, by unfold upd; rw [if_pos rfl]; exact hzs, ?_⟩
      unfold upd; rw [if_pos rfl, h2]
      exact ho3.kept hg4 (hofb ho3)
  · by_cases hs1 : s' = s
    · subst hs1; exact hthere
    · unfold upd at hs'; rw [if_neg hs1] at hs'
      obtain ⟨x, hx, hk⟩ := hhas s' hs'
      obtain ⟨x', h1, h2⟩ := hto x hx
      exact ⟨x', h1, h2.trans hk⟩
  · have hnew : ∀ x ∈ es.toList, x.key ≠ mk s → x.val.ownBlock = none ∨ x.val.ownBlock ≠ v'.ownBlock := fun x hx hne => by
      rcases hloc with hl | ⟨g, hl, hge⟩
      · rw [hl]; exact hv0.2 x hx hne
      · cases hx1 : x.val.ownBlock with
        | none => exact .inl rfl
        | some g' =>
          refine .inr fun e1 => ?_
          rw [hl] at e1
          cases e1
          obtain ⟨s', _, _, g3⟩ := hown x hx
          have := (g3.1.lt g hx1).2
          have hw2 : (setBlock w b (.map es1 clock1)).heap.size = w.heap.size := by simp [setBlock]
          omega
    intro x hx y hy hne
    rcases hwho x hx with ⟨h1, h2⟩ | ⟨h1, h2⟩
    · rcases hwho y hy with ⟨g1, g2⟩ | ⟨g1, g2⟩
      · exact hap x h1 y g1 hne
      · rw [g2]; exact hnew x h1 h2
    · rcases hwho y hy with ⟨g1, g2⟩ | ⟨g1, g2⟩
      · rw [h2]
        rcases hnew y g1 g2 with h | h
        · cases hv : v'.ownBlock with
          | none => exact .inl rfl
          | some g => exact .inr fun e1 => by rw [h] at e1; cases e1
        · exact .inr fun e1 => h e1.symm
      · exact absurd (h1.trans g1.symm) hne
end
/-- The key [1]string. -/
theorem keyArr {P : Program} {k e : TypeId} (A : WideMaps.ArrKey P k e 1) (he : P.underlying e = some .string) (hsz : ∃ m, P.types.size = m + 2) {s : ByteArray} (hs : s.size ≤ maxLen) : ∃ kl, keyOf P k (.agg #[.string s]) = some kl := by
  obtain ⟨m, hm⟩ := hsz
  have hkt := A.keyType ⟨m + 1, hm⟩
  have hf : (Value.agg #[.string s]).formed P k = true := by simp [Value.formed, A.hu, A.size]
  unfold keyOf
  rw [A.hu]
  simp only [hkt, hf, Bool.and_self, if_true]
  rw [hm]
  simp [Program.keyLits, A.hu, A.size, A.one, he, hs, Value.cells, List.range_succ]
end Go.Proofs.Ytbcpaojciephmaa.GGr
end
section
namespace Go.Proofs.Ytbcpaojciephmaa.X
open Go.RowKit Go.Maps Go.Proofs.YtbcpaojciephmaaW.PrintWords Go.Proofs.YtbcpaojciephmaaW.PrintLast Go.Proofs.YtbcpaojciephmaaW.PrintMore Go.Proofs.Ytbcpaojciephmaa.GGr
set_option linter.unusedVariables false
theorem allR_snoc (n : Nat) : allR (n + 1) = allR n ++ [(n : Int)] := by unfold allR; rw [List.range_succ, List.map_append]; rfl
theorem allR_len (n : Nat) : (allR n).length = n := by unfold allR; simp
set_option maxRecDepth 100000 in
set_option maxHeartbeats 800000 in
theorem kall_calls (n : Nat) (hn : n ≤ 100000) (w : World) :
    Calls Try.prog 48 #[.int .i64 n] w fun e w' => ∃ v : Value, e = .returned v ∧ Kd.R (Kd.int .i64) 3 w' w.heap.size (fun _ => True) v (allR n) ∧ Below w.heap.size w w' := by
  go_enter Try.func48, Try.ntmps48
  go_wp2
  go_loopw [3, 6] (fun vo vi wr => ∃ t : Nat, vi = .int .i64 t ∧ t ≤ n ∧ Aside0 (Kd.R (Kd.int .i64) 3 wr w.heap.size (fun _ => True) vo (allR t)) ∧ Aside0 (Below w.heap.size w wr))
    (fun _ vi _ => n - (intOf vi).toNat)
  case atStart => exact ⟨0, rfl, Nat.zero_le _, ⟨Kd.R_nil _ _ _ _ _⟩, ⟨Below.refl _ _⟩⟩
  case round =>
    obtain ⟨t, rfl, ht, HO, HB⟩ := hrel
    by_cases hlt : t < n
    · have hltI : (t : Int) < (n : Int) := by omega
      have hsz := HB.out.size
      go_wp2_with (first | ((with_reducible refine gate_builtin (b := .append) (xs := #[.tmp 9, .tmp 11]) rfl ?_); at_builtin; refine Kd.R_append (Kd.int .i64) (w0 := w) w.heap.size rfl (.tmp 9) (.tmp 11) 26 3 (.int .i64 0) 8 rfl Try.underlying26 info3 rfl (by decide) (by omega) u3 (allR t) (t : Int) [.int .i64 t] (fun _ => True) (fun _ => False) rfl rfl ?aP (fun _ hk => hk.elim) (fun _ _ => trivial) HO.out HB.out hsz ?aL ?_; (case aP => exact rfl); (case aL => rw [allR_len]; omega); intro v1 w1 ho hb hg hat))
      go_roundw
      case rel => exact ⟨t + 1, by go_num, by omega, ⟨by rw [allR_snoc]; exact ho⟩, ⟨hb⟩⟩
      case measure => simp [intOf]; omega
    · obtain rfl : t = n := by omega
      go_wp2
      go_ret
      exact ⟨_, rfl, HO.out, HB.out⟩
abbrev KP := 80
def mkA (s : ByteArray) : Value := .agg #[.string s]
theorem mkA_inj (s s' : ByteArray) (h : mkA s = mkA s') : s = s' := by unfold mkA at h; simpa using h
theorem arrK : WideMaps.ArrKey Try.prog 80 9 1 := ⟨Try.underlying80, by kernel_rfl, by kernel_rfl, by kernel_rfl⟩
theorem lawK : WideMaps.KeyLaw Try.prog 80 := arrK.law
theorem keyK {s : ByteArray} (hs : s.size ≤ maxLen) : ∃ kl, keyOf Try.prog 80 (mkA s) = some kl :=
  keyArr arrK Try.underlying9 ⟨Try.prog.types.size - 2, by have : 2 ≤ Try.prog.types.size := of_decide_eq_true (by kernel_rfl); omega⟩ hs
theorem zeroSl (w : World) : (zeroValue 26).run Try.prog w = .ok (.slice none 0 0) w := by kernel_rfl
theorem entry_arm {P : Program} {ops : Array Oper} {rest : List Oper} {o : Oper} {a : Act} {Q : Exit → Act → World → Prop} (w : World) (hg : o.guard = none) (m x : Operand) (t : TypeId) (hop : o.op = Op.mapEntry t m x) (M X v : Value) (w2 : World) (hm : a.eval m = M) (hx : a.eval x = X)
    (hrun : (Instr.mapEntry t M X).run P w = .ok v w2) (hK : wpList P ops Q rest (a.put o.dst v) w2) : wpList P ops Q (o :: rest) a w := by
  refine wpList_plain hg fun K' hK' => ?_
  unfold Oper.wp
  simp [execOp, hop, hm, hx, hrun, Result.andThen]
  exact hK' _ _ hK
theorem estore_arm {P : Program} {ops : Array Oper} {rest : List Oper} {o : Oper} {a : Act} {Q : Exit → Act → World → Prop} (w : World) (hg : o.guard = none) (m s x : Operand) (t : TypeId) (hop : o.op = Op.entryStore t m s x) (M S X : Value) (w2 : World) (hm : a.eval m = M) (hs : a.eval s = S) (hx : a.eval x = X)
    (hrun : (Instr.entryStore t M S X).run P w = .ok () w2) (hK : wpList P ops Q rest (a.put o.dst undef) w2) : wpList P ops Q (o :: rest) a w := by
  refine wpList_plain hg fun K' hK' => ?_
  unfold Oper.wp
  simp [execOp, hop, hm, hs, hx, hrun, Result.andThen]
  exact hK' _ _ hK
theorem look_arm {P : Program} {ops : Array Oper} {rest : List Oper} {o : Oper} {a : Act} {Q : Exit → Act → World → Prop} (w : World) (hg : o.guard = none) (m x : Operand) (t : TypeId) (hop : o.op = Op.lookup t m x false) (M X v : Value) (hm : a.eval m = M) (hx : a.eval x = X)
    (hrun : (Instr.lookup t M X false).run P w = .ok v w) (hK : wpList P ops Q rest (a.put o.dst v) w) : wpList P ops Q (o :: rest) a w := by
  refine wpList_plain hg fun K' hK' => ?_
  unfold Oper.wp
  simp [execOp, hop, hm, hx, hrun, Result.andThen]
  exact hK' _ _ hK
theorem ints_below {w w' : World} {base : Nat} {e : TypeId} {q : IntKind} {v : Value} {zs : List Int} (h : w.ownsInts base e q v zs) (hb : Below w.heap.size w w') : w'.ownsInts base e q v zs := ⟨pw_own_below h.1 hb, h.2⟩
theorem GM_below {P : Program} {k : TypeId} {mk : ByteArray → Value} {el : TypeId} {q : IntKind} {w w' : World} {base b n : Nat} {f : ByteArray → List Int} (h : GM P k mk el q w base b n f) (hb : Below w.heap.size w w') : GM P k mk el q w' base b n f := by
  obtain ⟨es, clock, h1, F, hn, hbb, hown, r⟩ := h
  exact ⟨es, clock, (hb.block b (Array.getElem?_eq_some_iff.1 h1).1).trans h1, F, hn, hbb, fun x hx => by
    obtain ⟨s, h1, h2, h3⟩ := hown x hx
    exact ⟨s, h1, h2, ints_below h3 hb⟩, r⟩
theorem gAt {w : World} {A : Option Addr} {G : List (List Int)} (h : Kd.C (Kd.slice 3 (Kd.int .i64)) w A G.length G) {i : Nat} (hi : i < G.length) : ∃ (ad : Addr) (Ax : Option Addr) (cx : Nat), A = some ad ∧ w.cell? (ad.add i) = some (.slice Ax (G.getD i []).length cx) ∧ (G.getD i []).length ≤ cx ∧ Kd.C (Kd.int .i64) w Ax (G.getD i []).length (G.getD i []) := by
  obtain ⟨ad, e, hc⟩ := h.2.2 (by omega)
  obtain ⟨cs, hl, ⟨Ax, cx, rfl, h1, h2⟩, hu⟩ := hc i (G.getD i []) (by rw [List.getD_eq_getElem?_getD, List.getElem?_eq_getElem hi]; rfl)
  have := hu 0 _ rfl
  have e2 : i * (Kd.slice 3 (Kd.int .i64)).sz + 0 = i := by show i * 1 + 0 = i; omega
  rw [e2] at this
  exact ⟨ad, Ax, cx, e, this, h1, h2⟩
theorem intAt {w : World} {A : Option Addr} {l : List Int} (h : Kd.C (Kd.int .i64) w A l.length l) {t : Nat} (ht : t < l.length) : ∃ ad, A = some ad ∧ w.cell? (ad.add t) = some (.int .i64 (rd l (t : Int))) := by
  obtain ⟨ad, e, hx⟩ := Kd.at_int h (t : Int) (by omega) (by omega)
  exact ⟨ad, e, hx⟩
theorem take_rdI {l : List Int} {k : Nat} (h : k < l.length) : l.take (k + 1) = l.take k ++ [rd l (k : Int)] := by
  unfold rd
  rw [show ((k : Int)).toNat = k from rfl, List.take_succ_eq_append_getElem h, List.getD_eq_getElem?_getD, List.getElem?_eq_getElem h]; rfl
theorem rd_memI {l : List Int} {k : Nat} (h : k < l.length) : rd l (k : Int) ∈ l := by
  unfold rd
  rw [show ((k : Int)).toNat = k from rfl, List.getD_eq_getElem?_getD, List.getElem?_eq_getElem h]
  exact List.getElem_mem h
theorem cell_calls (A0 : Option Addr) (c0 : Nat) (hd : List ByteArray) (A1 : Option Addr) (c1 : Nat) (rows : List (List ByteArray)) (i c : Int) (w : World)
    (hr0 : Kd.C Kd.string w A0 hd.length hd) (hc0 : hd.length ≤ c0) (hr1 : Kd.C (Kd.slice 9 Kd.string) w A1 rows.length rows) (hc1 : rows.length ≤ c1) :
    Calls Try.prog 42 #[.agg #[.slice A0 hd.length c0, .slice A1 rows.length c1], .int .i64 i, .int .i64 c] w fun e w' => e = .returned (.string (cellR rows i c)) ∧ Below w.heap.size w w' :=
  table_Cell.calls A0 c0 hd A1 c1 rows i c (cellR rows i c) w hr0 hc0 hr1 hc1 (cell_some hd rows i c)
/-- The groups so far. -/
def grpF (cell : Int → Int → ByteArray) (c : Int) (l : List Int) : ByteArray → List Int := fun s => l.filter fun j => decide (cell j c = s)
theorem grpF_snoc (cell : Int → Int → ByteArray) (c : Int) (l : List Int) (i : Int) : grpF cell c (l ++ [i]) = upd (grpF cell c l) (cell i c) (grpF cell c l (cell i c) ++ [i]) := by
  funext s
  unfold grpF upd
  rw [List.filter_append]
  by_cases h : s = cell i c
  · subst h; simp
  · rw [if_neg h]; simp; exact fun e => h e.symm
theorem splitR_snoc (cell : Int → Int → ByteArray) (G : List (List Int)) (g : List Int) (c : Int) : splitR cell (G ++ [g]) c = splitR cell G c ++ partG cell g c := by unfold splitR; rw [List.flatMap_append]; simp
theorem one_after {w1 w2 : World} {b : Nat} {x : Value} {t : TypeId} {o : Obj} (hb : b < w1.heap.size) (hg : ((w1.alloc o).alloc (.cells #[x] t)).grownBy w2 (some b)) : ∀ j u, [x][j]? = some u → w2.cell? ((⟨w1.heap.size + 1, 0, none⟩ : Addr).add j) = some u := by
  intro j u hj
  have h := cell_one_new (w1.alloc o) x t j u hj
  have e : (w1.alloc o).heap.size = w1.heap.size + 1 := World.size_alloc _ _
  rw [e] at h
  exact hg.cell h (by
    have e2 : ((⟨w1.heap.size + 1, 0, none⟩ : Addr).add j).block = w1.heap.size + 1 := by unfold Addr.add; split <;> rfl
    rw [e2]; simp; omega)
theorem below_row {w wr w1 : World} {row : Option Nat} (hb : Below w.heap.size w wr) (hg : wr.grownBy w1 row) (h : ∀ j, row = some j → w.heap.size ≤ j) : Below w.heap.size w w1 := hb.grown hg hb.size h
theorem infoRow : (Try.prog.info? 26).map (fun i => (i.zero, i.size, i.bytes)) = some (some (.slice none 0 0), 1, 24) := by kernel_rfl
theorem shuns_below {w w' : World} {b : Nat} {No : Nat → Prop} (h : w.Shuns b No) (hlt : b < w.heap.size) (hb : Below w.heap.size w w') : w'.Shuns b No := fun es clock h1 => h es clock ((hb.block b hlt).symm.trans h1)
theorem own_head {W : World} {base : Nat} {v : Value} {z : Int} {zs : List Int} (ho : W.ownsInts base 3 .i64 v (z :: zs)) : ∃ g cap, v = .slice (some ⟨g, 0, none⟩) (zs.length + 1) cap ∧ W.cell? ⟨g, 0, none⟩ = some (.int .i64 z) := by
  rcases ho.1.2 with ⟨_, h0⟩ | ⟨g, cap, cur, hv, _, hh, _, _, _, ht⟩
  · cases h0
  · refine ⟨g, cap, hv, ?_⟩
    have := ho.1
    rw [hv] at this
    rw [this.cellAt 0 (by simp)]
    rfl
theorem splitR_pre {cell : Int → Int → ByteArray} {G : List (List Int)} {c : Int} {t k : Nat} {g : List Int} (ht : G.take (t + 1) = G.take t ++ [g]) : (splitR cell (G.take t) c ++ (g.take k).flatMap (partQ cell g c)).length ≤ (splitR cell G c).length := by
  have h1 : (splitR cell (G.take (t + 1)) c).length ≤ (splitR cell G c).length := by
    conv => rhs; rw [← List.take_append_drop (t + 1) G]
    unfold splitR
    rw [List.flatMap_append, List.length_append]; omega
  have h2 : ((g.take k).flatMap (partQ cell g c)).length ≤ (partG cell g c).length := by
    unfold partG
    conv => rhs; rw [← List.take_append_drop k g]
    rw [List.flatMap_append, List.length_append]
    rw [List.take_append_drop]; omega
  rw [ht, splitR_snoc, List.length_append] at h1
  rw [List.length_append]; omega
set_option maxRecDepth 100000 in
set_option maxHeartbeats 4000000 in
theorem split_calls (A0 : Option Addr) (c0 : Nat) (hd : List ByteArray) (A1 : Option Addr) (c1 : Nat) (rows : List (List ByteArray)) (Ag : Option Addr) (cg : Nat) (G : List (List Int)) (c : Int) (N : Nat) (w : World)
    (hr0 : Kd.C Kd.string w A0 hd.length hd) (hc0 : hd.length ≤ c0) (hr1 : Kd.C (Kd.slice 9 Kd.string) w A1 rows.length rows) (hc1 : rows.length ≤ c1) (hrG : Kd.C (Kd.slice 3 (Kd.int .i64)) w Ag G.length G)
    (hN : N ≤ 100000) (hG : ∀ g ∈ G, g.length ≤ N ∧ ∀ i ∈ g, 0 ≤ i ∧ i < (N : Int)) (hGl : G.length ≤ 100000) (hS : (splitR (cellR rows) G c).length ≤ 100000) (hsz : ∀ i j, (cellR rows i j).size ≤ maxLen) :
    Calls Try.prog 49 #[.agg #[.slice A0 hd.length c0, .slice A1 rows.length c1], .slice Ag G.length cg, .int .i64 c] w fun e w' => ∃ v : Value, e = .returned v ∧ Kd.R (Kd.slice 3 (Kd.int .i64)) 26 w' w.heap.size (fun _ => True) v (splitR (cellR rows) G c) ∧ Below w.heap.size w w' := by
  have hmm := @run_makeMap Try.prog
  obtain ⟨i0, hi0, hz0, hz1, hz2⟩ := info_parts info3
  obtain ⟨W0, hW0⟩ : ∃ W0, Aside0 (w.alloc (.cells #[.slice A0 hd.length c0, .slice A1 rows.length c1] 25 (0, 0)) = W0) := ⟨_, ⟨rfl⟩⟩
  have HB0 : Aside0 (Below w.heap.size w W0) := ⟨by rw [← hW0.out]; exact below_alloc (Below.refl _ _) _⟩
  have hT : W0.heap[w.heap.size]? = some (.cells #[.slice A0 hd.length c0, .slice A1 rows.length c1] 25 (0, 0)) := by rw [← hW0.out]; exact blk_new w _
  have HT := Aside0.mk hT
  have HR := Aside0.mk (And.intro (Kd.C_below hr0 HB0.out) (And.intro (Kd.C_below hr1 HB0.out) (Kd.C_below hrG HB0.out)))
  have HG := Aside0.mk hG
  have HS := Aside0.mk hS
  have HZ := Aside0.mk hsz
  clear hr0 hr1 hrG hG hS hsz hT
  go_enter Try.func49, Try.ntmps49
  go_wp2
  rw [hW0.out]
  go_loopw [7, 19] (fun vo vi wr => ∃ t : Nat, vi = .int .i64 t ∧ t ≤ G.length ∧ Aside0 (Kd.R (Kd.slice 3 (Kd.int .i64)) 26 wr W0.heap.size (fun _ => True) vo (splitR (cellR rows) (G.take t) c)) ∧ Aside0 (Below W0.heap.size W0 wr))
    (fun _ vi _ => G.length - (intOf vi).toNat)
  case atStart => exact ⟨0, rfl, Nat.zero_le _, ⟨Kd.R_nil _ _ _ _ _⟩, ⟨Below.refl _ _⟩⟩
  case round =>
    obtain ⟨t, rfl, ht, HO, HB⟩ := hrel
    obtain ⟨W1, hW1⟩ : ∃ W1, W1 = wr := ⟨_, rfl⟩
    subst hW1
    by_cases hlt : t < G.length
    · have hltI : (t : Int) < (G.length : Int) := by omega
      obtain ⟨ad, Ax, cx, eA, hx0, hcx, hCx⟩ := gAt HR.out.2.2 hlt
      cases eA
      have hx := pw_cell_below HB.out hx0
      clear hx0
      have HGt := Aside0.mk (HG.out (G.getD t []) (by rw [List.getD_eq_getElem?_getD, List.getElem?_eq_getElem hlt]; exact List.getElem_mem hlt))
      have Htk : Aside0 (G.take (t + 1) = G.take t ++ [G.getD t []]) := ⟨by rw [List.take_succ_eq_append_getElem hlt, List.getD_eq_getElem?_getD, List.getElem?_eq_getElem hlt]; rfl⟩
      generalize hg : G.getD t [] = g at *
      have HCx := Aside0.mk hCx
      clear hCx hg
      go_wp2
      obtain ⟨WM, hWM⟩ : ∃ WM, Aside0 (W1.alloc (.map #[] 0) = WM) := ⟨_, ⟨rfl⟩⟩
      have HM0 : Aside0 (GM Try.prog KP mkA 3 .i64 WM (W1.heap.size + 1) W1.heap.size 0 (grpF (cellR rows) c (g.take 0))) := ⟨by rw [← hWM.out]; exact  GM.made _ _ _ _ _ W1⟩
      have HBM : Aside0 (Below W1.heap.size W1 WM) := ⟨by rw [← hWM.out]; exact below_alloc (Below.refl _ _) _⟩
      rw [hWM.out]
      go_loopw [26] (fun vj wk => ∃ k : Nat, vj = .int .i64 k ∧ k ≤ g.length ∧ Aside0 (GM Try.prog KP mkA 3 .i64 wk (W1.heap.size + 1) W1.heap.size k (grpF (cellR rows) c (g.take k))) ∧ Aside0 (Below W1.heap.size W1 wk))
        (fun vj _ => g.length - (intOf vj).toNat)
      case atStart => exact ⟨0, rfl, Nat.zero_le _, HM0, HBM⟩
      case round =>
        obtain ⟨k, rfl, hk, HM, HBk⟩ := hrel
        by_cases hlk : k < g.length
        · have hlkI : (k : Int) < (g.length : Int) := by omega
          have HBk0 := Aside0.mk (below_step HB.out HBk.out)
          obtain ⟨ad, eA, hy⟩ := intAt (Kd.C_below HCx.out HBk0.out) hlk
          cases eA
          have hBMlt := Aside0.mk HM.out.lt
          have hT0 := blk_cell (blk_below HT.out HBk0.out) 0
          have hT1 := blk_cell (blk_below HT.out HBk0.out) 1
          have HGk := Aside0.mk (HGt.out.2 _ (rd_memI hlk))
          have Htj := Aside0.mk (take_rdI hlk)
          generalize rd g (k : Int) = j at *
          obtain ⟨s, hs⟩ : ∃ s, Aside0 (cellR rows j c = s) := ⟨_, ⟨rfl⟩⟩
          have HK := Aside0.mk (keyK (by rw [← hs.out]; exact HZ.out j c) : ∃ kl, keyOf Try.prog KP (mkA s) = some kl)
          have hfl : (grpF (cellR rows) c (g.take k) s).length ≤ k := by
            refine Nat.le_trans (List.length_filter_le _ _) ?_
            rw [List.length_take]; exact Nat.min_le_left _ _
          have HFL := Aside0.mk hfl
          generalize hF : grpF (cellR rows) c (g.take k) = F at *
          have HFF := Aside0.mk hF
          clear hF hfl
          have hgN := HGt.out.1
          have hwf : (Lit.int .i64 j).wf = true := WalkArith.wf_i64 (by have := HGk.out; omega)
          go_wp2_with (first
            | (go_at_call 42; refine (cell_calls A0 c0 hd A1 c1 rows j c _ (Kd.C_below HR.out.1 HBk0.out) hc0 (Kd.C_below HR.out.2.1 HBk0.out) hc1).mono ?_; rintro e w1 ⟨rfl, hb1⟩; rw [hs.out]; obtain ⟨kl, hkl⟩ := HK.out; obtain ⟨v0, st, w2, hrun, hg2, hz2', hoi, hback⟩ := GM.entry (((GM_below HM.out hb1).alloc (.cells #[.string s] 80)).alloc (.cells #[.int .i64 j] 3)) (by unfold maxLen; have := HGt.out.1; omega) lawK mkA_inj Try.underlying79 zeroSl s hkl)
            | (refine entry_arm _ rfl _ _ _ rfl _ _ _ _ rfl rfl hrun ?_)
            | (at_builtin; refine wpList_append_own_at _ rfl _ _ 26 rfl (W1.heap.size + 1) 3 i0 (.int .i64 0) 1 8 Try.underlying26 hi0 hz0 hz1 hz2 rfl (by decide) v0 _ _ rfl hoi.1 ⟨w1.heap.size + 1, 0, none⟩ 1 1 [.int .i64 j] rfl rfl (one_after (Nat.lt_of_lt_of_le hBMlt.out hb1.size) hg2) (ints_oneCell .i64 [j]) (by unfold maxLen; have := HFL.out; have := HGt.out.1; omega) (by have := HFL.out; have := HGt.out.1; omega) (by rw [hz2', World.size_alloc, World.size_alloc]; have := hb1.size; have := hBMlt.out; omega) ?_; intro v' w3 hown' hgrow hnil hloc; obtain ⟨w4, hrun4, hg4, hsz4, hGM⟩ := hback w3 v' (F s ++ [j]) hgrow (hoi.appended hown' hwf) (by simp) (hloc.imp id (fun h => ⟨_, h, Nat.le_refl _⟩)))
            | (refine estore_arm _ rfl _ _ _ _ rfl _ _ _ _ rfl rfl rfl hrun4 ?_))
          have hb4 : Below W1.heap.size W1 w4 := by
            have h1 := below_step HBk.out hb1
            have h2 := below_row (below_alloc (below_alloc h1 _) _) hg2 (fun q hq => by cases hq; exact Nat.le_refl _)
            have h3 := below_row h2 hgrow (fun q hq => by have := (hoi.1.lt q hq).1; omega)
            exact below_row h3 hg4 (fun q hq => by cases hq; exact Nat.le_refl _)
          have HGM : Aside0 (GM Try.prog KP mkA 3 .i64 w4 (W1.heap.size + 1) W1.heap.size (k + 1) (grpF (cellR rows) c (g.take (k + 1)))) := ⟨by rw [Htj.out, grpF_snoc, HFF.out, hs.out]; exact hGM⟩
          clear hGM hrun hrun4 hback hg2 hg4 hgrow hown'
          go_roundw
          case rel => exact ⟨k + 1, by go_num, by omega, HGM, ⟨hb4⟩⟩
          case measure => simp [intOf]; omega
        · obtain rfl : k = g.length := by omega
          obtain ⟨W2, hW2⟩ : ∃ W2, W2 = wr := ⟨_, rfl⟩
          subst hW2
          rw [List.take_length] at HM
          have hBW := Aside0.mk HB.out.size
          have HO2 := Aside0.mk (Kd.R_below HO.out HBk.out)
          have HB2 := Aside0.mk (below_step HB.out HBk.out)
          have hblk : ∀ q, u7.ownBlock = some q → q < W1.heap.size := fun q hq => by obtain ⟨inner, ho⟩ := Kd.R_own HO.out; exact (ho.lt q hq).2
          have HSh : Aside0 (∀ q, u7.ownBlock = some q → q ≠ W1.heap.size ∧ W2.Shuns W1.heap.size (· = q)) := ⟨fun q hq => ⟨by have := hblk q hq; omega, HM.out.shuns (.inl (by have := hblk q hq; omega))⟩⟩
          clear HO hblk
          have hgN := HGt.out.1
          go_wp2
          go_loopw [7, 46] (fun vo vj wk => ∃ k : Nat, vj = .int .i64 k ∧ k ≤ g.length ∧ Aside0 (Kd.R (Kd.slice 3 (Kd.int .i64)) 26 wk W0.heap.size (fun _ => True) vo (splitR (cellR rows) (G.take t) c ++ (g.take k).flatMap (partQ (cellR rows) g c))) ∧
              Aside0 (GM Try.prog KP mkA 3 .i64 wk (W1.heap.size + 1) W1.heap.size g.length (grpF (cellR rows) c g)) ∧ Aside0 (Below W0.heap.size W0 wk) ∧ Aside0 (∀ q, vo.ownBlock = some q → q ≠ W1.heap.size ∧ wk.Shuns W1.heap.size (· = q)))
            (fun _ vj _ => g.length - (intOf vj).toNat)
          case atStart => exact ⟨0, rfl, Nat.zero_le _, by simpa using HO2, HM, HB2, HSh⟩
          case round =>
            obtain ⟨k, rfl, hk, HO3, HM3, HB3, HSh3⟩ := hrel
            clear HO2 HM HB2 HSh HBk
            by_cases hlk : k < g.length
            · have hlkI : (k : Int) < (g.length : Int) := by omega
              obtain ⟨ad, eA, hy⟩ := intAt (Kd.C_below HCx.out HB3.out) hlk
              cases eA
              have hT0 := blk_cell (blk_below HT.out HB3.out) 0
              have hT1 := blk_cell (blk_below HT.out HB3.out) 1
              have HGk := Aside0.mk (HGt.out.2 _ (rd_memI hlk))
              have Htj := Aside0.mk (take_rdI hlk)
              have hjm := rd_memI hlk
              have hBMlt := Aside0.mk HM3.out.lt
              generalize rd g (k : Int) = j at *
              have hcl0 : j ∈ clsR (cellR rows) g c j := (mem_cls _).2 ⟨hjm, rfl⟩
              have hcln : (clsR (cellR rows) g c j).length ≤ g.length := List.length_filter_le _ _
              have hgrp : grpF (cellR rows) c g (cellR rows j c) = clsR (cellR rows) g c j := rfl
              have hfm : ∀ X : List (List Int), partQ (cellR rows) g c j = X → (g.take (k + 1)).flatMap (partQ (cellR rows) g c) = (g.take k).flatMap (partQ (cellR rows) g c) ++ X := fun X hX => by rw [Htj.out, List.flatMap_append, ← hX]; simp
              have hpq : partQ (cellR rows) g c j = if 1 < (clsR (cellR rows) g c j).length ∧ (clsR (cellR rows) g c j).head? = some j then [clsR (cellR rows) g c j] else [] := rfl
              generalize clsR (cellR rows) g c j = cl at *
              obtain ⟨z, zs, rfl⟩ : ∃ z zs, cl = z :: zs := by cases cl with
                | nil => cases hcl0
                | cons z zs => exact ⟨z, zs, rfl⟩
              obtain ⟨s, hs⟩ : ∃ s, Aside0 (cellR rows j c = s) := ⟨_, ⟨rfl⟩⟩
              have HK := Aside0.mk (keyK (by rw [← hs.out]; exact HZ.out j c) : ∃ kl, keyOf Try.prog KP (mkA s) = some kl)
              have HGR := Aside0.mk (show grpF (cellR rows) c g s = z :: zs by rw [← hs.out]; exact hgrp)
              have HPQ := Aside0.mk hpq
              have HFM := Aside0.mk hfm
              have hpre := splitR_pre (cell := cellR rows) (c := c) (k := k) Htk.out
              have HPR := Aside0.mk (Nat.le_trans hpre HS.out)
              clear hgrp hpq hfm hpre hcl0 hjm
              simp only [List.length_cons] at hcln
              by_cases hL : 0 < zs.length
              · by_cases hj : z = j
                · subst hj
                  go_wp2_with (first
                    | (go_at_call 42; refine (cell_calls A0 c0 hd A1 c1 rows z c _ (Kd.C_below HR.out.1 HB3.out) hc0 (Kd.C_below HR.out.2.1 HB3.out) hc1).mono ?_; rintro e w1 ⟨rfl, hb1⟩; rw [hs.out]; obtain ⟨kl, hkl⟩ := HK.out; obtain ⟨v, hrun, hov, hshv⟩ := (GM_below HM3.out hb1).look lawK mkA_inj Try.underlying79 (zeroSl _) s hkl; rw [HGR.out] at hov; obtain ⟨gq, cap, rfl, hq0⟩ := own_head hov)
                    | (refine look_arm _ rfl _ _ _ rfl _ _ _ rfl rfl hrun ?_)
                    | ((with_reducible refine gate_builtin (b := .append) (xs := #[.tmp 67, .tmp 69]) rfl ?_); at_builtin; refine Kd.R_append (Kd.slice 3 (Kd.int .i64)) (w0 := W0) W0.heap.size rfl (.tmp 67) (.tmp 69) 58 26 (.slice none 0 0) 24 rfl Try.underlying58 infoRow rfl (by decide) (by omega) u7 _ (z :: zs) [.slice (some ⟨gq, 0, none⟩) (zs.length + 1) cap] (fun _ => True) (fun q => (Value.slice (some ⟨gq, 0, none⟩) (zs.length + 1) cap).ownBlock = some q) rfl rfl ?aP ?aK (fun _ _ => trivial) (Kd.R_below HO3.out hb1) (below_step HB3.out hb1) (Nat.le_trans HB3.out.size hb1.size) ?aL ?_; (case aP => exact ⟨_, rfl, Kd.R_of_own (own_weaken hov.1 (by have := hBW.out; omega)) (fun _ h => h)⟩); (case aK => exact fun q hq => ⟨trivial, fun e => hshv q hq _ (shuns_below (HSh3.out q e.symm).2 hBMlt.out hb1) rfl⟩); (case aL => have := HPR.out; omega); intro v1 w5 ho5 hb5 hg5 hat5))
                  have hE : splitR (cellR rows) (G.take t) c ++ (g.take (k + 1)).flatMap (partQ (cellR rows) g c) = (splitR (cellR rows) (G.take t) c ++ (g.take k).flatMap (partQ (cellR rows) g c)) ++ [z :: zs] := by
                    rw [HFM.out [z :: zs] (by rw [HPQ.out, if_pos ⟨by simp only [List.length_cons]; omega, rfl⟩]), List.append_assoc]
                  have hGMw := (GM_below HM3.out hb1).alloc (.cells #[.slice (some ⟨gq, 0, none⟩) (zs.length + 1) cap] 26)
                  have hblt : W1.heap.size < w1.heap.size := Nat.lt_of_lt_of_le hBMlt.out hb1.size
                  have hsh1 : ∀ q, u7.ownBlock = some q → q ≠ W1.heap.size ∧ w1.Shuns W1.heap.size (· = q) := fun q hq => ⟨(HSh3.out q hq).1, shuns_below (HSh3.out q hq).2 hBMlt.out hb1⟩
                  have hGM5 : GM Try.prog KP mkA 3 .i64 w5 (W1.heap.size + 1) W1.heap.size g.length (grpF (cellR rows) c g) := (GM_below HM3.out hb1).kept hg5 (fun e => (hsh1 _ e.symm).1 rfl) (fun q hq => (hsh1 q hq).2)
                  have hsh5 : ∀ q, v1.ownBlock = some q → q ≠ W1.heap.size ∧ w5.Shuns W1.heap.size (· = q) := fun q hq => by
                    rcases hat5 with h | ⟨q', h, hge⟩
                    · rw [hq] at h
                      exact ⟨(hsh1 q h.symm).1, (hsh1 q h.symm).2.kept hg5 hblt (fun e => (hsh1 _ e.symm).1 rfl)⟩
                    · rw [hq] at h
                      cases h
                      exact ⟨by omega, ((GM_below HM3.out hb1).shuns (.inr hge)).kept hg5 hblt (fun e => (hsh1 _ e.symm).1 rfl)⟩
                  clear hGMw hrun hshv hg5 hat5
                  go_roundw
                  case rel => exact ⟨k + 1, by go_num, by omega, ⟨by rw [hE]; exact ho5⟩, ⟨hGM5⟩, ⟨hb5⟩, ⟨hsh5⟩⟩
                  case measure => simp [intOf]; omega
                · have hzj : (z == j) = false := by simp; exact hj
                  go_wp2_with (first
                    | (go_at_call 42; refine (cell_calls A0 c0 hd A1 c1 rows j c _ (Kd.C_below HR.out.1 HB3.out) hc0 (Kd.C_below HR.out.2.1 HB3.out) hc1).mono ?_; rintro e w1 ⟨rfl, hb1⟩; rw [hs.out]; obtain ⟨kl, hkl⟩ := HK.out; obtain ⟨v, hrun, hov, hshv⟩ := (GM_below HM3.out hb1).look lawK mkA_inj Try.underlying79 (zeroSl _) s hkl; rw [HGR.out] at hov; obtain ⟨gq, cap, rfl, hq0⟩ := own_head hov)
                    | (refine look_arm _ rfl _ _ _ rfl _ _ _ rfl rfl hrun ?_))
                  have hE : splitR (cellR rows) (G.take t) c ++ (g.take (k + 1)).flatMap (partQ (cellR rows) g c) = splitR (cellR rows) (G.take t) c ++ (g.take k).flatMap (partQ (cellR rows) g c) := by
                    rw [HFM.out [] (by rw [HPQ.out, if_neg (fun e => hj (by simpa using e.2))]), List.append_nil]
                  have hsh1 : ∀ q, u7.ownBlock = some q → q ≠ W1.heap.size ∧ w1.Shuns W1.heap.size (· = q) := fun q hq => ⟨(HSh3.out q hq).1, shuns_below (HSh3.out q hq).2 hBMlt.out hb1⟩
                  clear hrun hshv
                  go_roundw
                  case rel => exact ⟨k + 1, by go_num, by omega, ⟨by rw [hE]; exact Kd.R_below HO3.out hb1⟩, ⟨GM_below HM3.out hb1⟩, ⟨below_step HB3.out hb1⟩, ⟨hsh1⟩⟩
                  case measure => simp [intOf]; omega
              · have hl0 : zs.length = 0 := by omega
                have hl1 : ¬ ((zs.length + 1 : Nat) : Int) > 1 := by omega
                go_wp2_with (first
                  | (go_at_call 42; refine (cell_calls A0 c0 hd A1 c1 rows j c _ (Kd.C_below HR.out.1 HB3.out) hc0 (Kd.C_below HR.out.2.1 HB3.out) hc1).mono ?_; rintro e w1 ⟨rfl, hb1⟩; rw [hs.out]; obtain ⟨kl, hkl⟩ := HK.out; obtain ⟨v, hrun, hov, hshv⟩ := (GM_below HM3.out hb1).look lawK mkA_inj Try.underlying79 (zeroSl _) s hkl; rw [HGR.out] at hov; obtain ⟨gq, cap, rfl, hq0⟩ := own_head hov)
                  | (refine look_arm _ rfl _ _ _ rfl _ _ _ rfl rfl hrun ?_))
                have hE : splitR (cellR rows) (G.take t) c ++ (g.take (k + 1)).flatMap (partQ (cellR rows) g c) = splitR (cellR rows) (G.take t) c ++ (g.take k).flatMap (partQ (cellR rows) g c) := by
                  rw [HFM.out [] (by rw [HPQ.out, if_neg (fun e => hL (by have := e.1; simp only [List.length_cons] at this; omega))]), List.append_nil]
                have hsh1 : ∀ q, u7.ownBlock = some q → q ≠ W1.heap.size ∧ w1.Shuns W1.heap.size (· = q) := fun q hq => ⟨(HSh3.out q hq).1, shuns_below (HSh3.out q hq).2 hBMlt.out hb1⟩
                clear hrun hshv
                go_roundw
                case rel => exact ⟨k + 1, by go_num, by omega, ⟨by rw [hE]; exact Kd.R_below HO3.out hb1⟩, ⟨GM_below HM3.out hb1⟩, ⟨below_step HB3.out hb1⟩, ⟨hsh1⟩⟩
                case measure => simp [intOf]; omega
            · obtain rfl : k = g.length := by omega
              have hE : splitR (cellR rows) (G.take (t + 1)) c = splitR (cellR rows) (G.take t) c ++ (g.take g.length).flatMap (partQ (cellR rows) g c) := by rw [Htk.out, splitR_snoc, List.take_length]; rfl
              have HO4 : Aside0 (Kd.R (Kd.slice 3 (Kd.int .i64)) 26 wr W0.heap.size (fun _ => True) u7 (splitR (cellR rows) (G.take (t + 1)) c)) := ⟨by rw [hE]; exact HO3.out⟩
              clear HO3 hE HM3 HSh3
              go_wp2
              go_roundw
              case rel => exact ⟨t + 1, by go_num, by omega, HO4, HB3⟩
              case measure => simp [intOf]; omega
    · obtain rfl : t = G.length := by omega
      rw [List.take_length] at HO
      go_wp2
      go_ret
      exact ⟨_, rfl, Kd.R_lower HO.out HB0.out.size, below_step HB0.out HB.out⟩
end Go.Proofs.Ytbcpaojciephmaa.X
end
section
namespace Go.Proofs.Ytbcpaojciephmaa.X
open Go.RowKit Go.Maps Go.Proofs.YtbcpaojciephmaaW.PrintWords Go.Proofs.YtbcpaojciephmaaW.PrintLast Go.Proofs.YtbcpaojciephmaaW.PrintMore Go.Proofs.Ytbcpaojciephmaa.GGr
set_option linter.unusedVariables false
def inHd (hd : List ByteArray) (cols : List Int) : Bool := cols.all fun c => decide (0 ≤ c) && decide (c < (hd.length : Int))
def uniqR (hd : List ByteArray) (rows : List (List ByteArray)) (cols : List Int) : Bool := inHd hd cols && decide (0 < cols.length) && decide ((groupsR (cellR rows) rows.length cols).length = 0)
theorem inHd_no {hd : List ByteArray} {cols : List Int} {k : Nat} (h : k < cols.length) (hb : rd cols (k : Int) < 0 ∨ rd cols (k : Int) ≥ (hd.length : Int)) : inHd hd cols = false := by
  unfold inHd
  rw [List.all_eq_false]
  refine ⟨_, rd_memI h, ?_⟩
  simp
  intro h0
  omega
theorem inHd_yes {hd : List ByteArray} {cols : List Int} (h : ∀ k : Nat, k < cols.length → 0 ≤ rd cols (k : Int) ∧ rd cols (k : Int) < (hd.length : Int)) : inHd hd cols = true := by
  unfold inHd
  rw [List.all_eq_true]
  intro c hc
  obtain ⟨i, hi, rfl⟩ := List.getElem_of_mem hc
  have := h i hi
  unfold rd at this
  rw [show ((i : Int)).toNat = i from rfl, List.getD_eq_getElem?_getD, List.getElem?_eq_getElem hi] at this
  simp only [Option.getD_some] at this
  simp [this]
theorem C_one (W : World) (A : Option Addr) (c : Nat) (l : List Int) (h : Kd.C (Kd.int .i64) W A l.length l) (hc : l.length ≤ c) :
    Kd.C (Kd.slice 3 (Kd.int .i64)) (W.alloc (.cells #[.slice A l.length c] 26)) (some ⟨W.heap.size, 0, none⟩) [l].length [l] := by
  refine ⟨rfl, by simp, fun _ => ⟨_, rfl, fun j p hj => ?_⟩⟩
  match j, hj with
  | 0, hj =>
    simp at hj; subst hj
    refine ⟨[.slice A l.length c], rfl, ⟨A, c, rfl, hc, Kd.C_alloc h _⟩, fun i u hu => ?_⟩
    match i, hu with
    | 0, hu => simp at hu; subst hu; exact blk_cell (blk_new W (.cells #[.slice A l.length c] 26)) 0
    | i + 1, hu => simp at hu
  | j + 1, hj => simp at hj
set_option maxRecDepth 100000 in
set_option maxHeartbeats 4000000 in
theorem unique_calls (A0 : Option Addr) (c0 : Nat) (hd : List ByteArray) (A1 : Option Addr) (c1 : Nat) (rows : List (List ByteArray)) (A2 : Option Addr) (c2 : Nat) (cols : List Int) (w : World)
    (hr0 : Kd.C Kd.string w A0 hd.length hd) (hc0 : hd.length ≤ c0) (hr1 : Kd.C (Kd.slice 9 Kd.string) w A1 rows.length rows) (hc1 : rows.length ≤ c1) (hr2 : Kd.C (Kd.int .i64) w A2 cols.length cols)
    (hl : rows.length ≤ 50000) (hcl : cols.length ≤ 100000) (hsz : ∀ i j, (cellR rows i j).size ≤ maxLen) :
    Calls Try.prog 19 #[.agg #[.slice A0 hd.length c0, .slice A1 rows.length c1], .slice A2 cols.length c2] w fun e w' => e = .returned (.bool (uniqR hd rows cols)) ∧ Below w.heap.size w w' := by
  obtain ⟨r, hr⟩ : ∃ r, Aside0 (uniqR hd rows cols = r) := ⟨_, ⟨rfl⟩⟩
  rw [hr.out]
  obtain ⟨W0, hW0⟩ : ∃ W0, Aside0 (w.alloc (.cells #[.slice A0 hd.length c0, .slice A1 rows.length c1] 25 (0, 0)) = W0) := ⟨_, ⟨rfl⟩⟩
  have HB0 : Aside0 (Below w.heap.size w W0) := ⟨by rw [← hW0.out]; exact below_alloc (Below.refl _ _) _⟩
  have hT : W0.heap[w.heap.size]? = some (.cells #[.slice A0 hd.length c0, .slice A1 rows.length c1] 25 (0, 0)) := by rw [← hW0.out]; exact blk_new w _
  have HT := Aside0.mk hT
  have HR := Aside0.mk (And.intro (Kd.C_below hr0 HB0.out) (And.intro (Kd.C_below hr1 HB0.out) (Kd.C_below hr2 HB0.out)))
  have HZ := Aside0.mk hsz
  have hhl := hr0.2.1
  clear hr0 hr1 hr2 hsz hT
  go_enter Try.func19, Try.ntmps19
  go_wp2
  rw [hW0.out]
  go_loopw [12] (fun vi wr => ∃ t : Nat, vi = .int .i64 t ∧ t ≤ cols.length ∧ Aside0 (∀ k : Nat, k < t → 0 ≤ rd cols (k : Int) ∧ rd cols (k : Int) < (hd.length : Int)) ∧ wr = W0)
    (fun vi _ => cols.length - (intOf vi).toNat)
  case atStart => exact ⟨0, rfl, Nat.zero_le _, ⟨fun k hk => by omega⟩, rfl⟩
  case round =>
    obtain ⟨t, rfl, ht, HI, rfl⟩ := hrel
    have hT0 := blk_cell HT.out 0
    have hT1 := blk_cell HT.out 1
    by_cases hlt : t < cols.length
    · have hltI : (t : Int) < (cols.length : Int) := by omega
      obtain ⟨ad, eA, hy⟩ := intAt HR.out.2.2 hlt
      cases eA
      have HNO : Aside0 (rd cols (t : Int) < 0 ∨ rd cols (t : Int) ≥ (hd.length : Int) → inHd hd cols = false) := ⟨inHd_no hlt⟩
      have HYES : Aside0 (0 ≤ rd cols (t : Int) ∧ rd cols (t : Int) < (hd.length : Int) → ∀ k : Nat, k < t + 1 → 0 ≤ rd cols (k : Int) ∧ rd cols (k : Int) < (hd.length : Int)) := ⟨fun h k hk => by
        rcases Nat.lt_or_ge k t with h' | h'
        · exact HI.out k h'
        · obtain rfl : k = t := by omega
          exact h⟩
      generalize rd cols (t : Int) = x at *
      by_cases h1 : x < 0
      · have hR := HNO.out (.inl h1)
        clear HNO HYES
        go_wp2
        go_ret
        exact ⟨by rw [← hr.out]; unfold uniqR; rw [hR]; rfl, HB0.out⟩
      · by_cases h2 : x ≥ (hd.length : Int)
        · have hR := HNO.out (.inr h2)
          clear HNO HYES
          go_wp2
          go_ret
          exact ⟨by rw [← hr.out]; unfold uniqR; rw [hR]; rfl, HB0.out⟩
        · have HI2 := Aside0.mk (HYES.out ⟨by omega, by omega⟩)
          clear HNO HYES
          go_wp2
          go_roundw
          case rel => exact ⟨t + 1, by go_num, by omega, HI2, trivial⟩
          case measure => simp [intOf]; omega
    · obtain rfl : t = cols.length := by omega
      have HIN := Aside0.mk (inHd_yes HI.out)
      clear HI
      obtain ⟨W0, hW0'⟩ : ∃ W0, W0 = wr := ⟨_, rfl⟩
      subst hW0'
      go_wp2_with (first
        | (go_at_call 48; refine (kall_calls rows.length (by omega) _).mono ?_; rintro e w1 ⟨v, rfl, ho, hb1⟩; obtain ⟨Aa, ca, rfl, hca, hCa⟩ := Kd.R_reads ho))
      have HC1 := Aside0.mk (C_one w1 Aa ca (allR rows.length) hCa hca)
      have HB1 := Aside0.mk (below_alloc hb1 (.cells #[.slice Aa (allR rows.length).length ca] 26))
      clear hca hCa ho hb1 hT0 hT1
      go_loopw [7, 33] (fun vo vi wk => ∃ (t : Nat) (A : Option Addr) (cc : Nat), vi = .int .i64 t ∧ t ≤ cols.length ∧ vo = .slice A (groupsR (cellR rows) rows.length (cols.take t)).length cc ∧
          Aside0 (Kd.C (Kd.slice 3 (Kd.int .i64)) wk A (groupsR (cellR rows) rows.length (cols.take t)).length (groupsR (cellR rows) rows.length (cols.take t))) ∧ Aside0 (Below W0.heap.size W0 wk))
        (fun _ vi _ => cols.length - (intOf vi).toNat)
      case atStart => exact ⟨0, _, _, rfl, Nat.zero_le _, rfl, HC1, HB1⟩
      case round =>
        obtain ⟨t, A, cc, rfl, ht, rfl, HC, HB⟩ := hrel
        clear HC1 HB1
        have hgl := groups_len (cellR rows) rows.length (cols.take t)
        by_cases hlt : t < cols.length
        · have hltI : (t : Int) < (cols.length : Int) := by omega
          have hT0 := blk_cell (blk_below HT.out HB.out) 0
          have hT1 := blk_cell (blk_below HT.out HB.out) 1
          obtain ⟨ad, eA, hy⟩ := intAt (Kd.C_below HR.out.2.2 HB.out) hlt
          cases eA
          have htk := take_rdI hlt
          generalize rd cols (t : Int) = c at *
          have hgl2 := groups_len (cellR rows) rows.length (cols.take (t + 1))
          have HE := Aside0.mk (show groupsR (cellR rows) rows.length (cols.take (t + 1)) = splitR (cellR rows) (groupsR (cellR rows) rows.length (cols.take t)) c by rw [htk, groups_snoc])
          rw [HE.out] at hgl2
          have HM := Aside0.mk (groups_mem (cellR rows) rows.length (cols.take t))
          generalize groupsR (cellR rows) rows.length (cols.take t) = L at *
          clear htk
          go_wp2_with (first
            | (go_at_call 49; refine (split_calls A0 c0 hd A1 c1 rows A cc L c rows.length _ (Kd.C_below HR.out.1 HB.out) hc0 (Kd.C_below HR.out.2.1 HB.out) hc1 HC.out (by omega) HM.out (by omega) (by omega) HZ.out).mono ?_; rintro e w2 ⟨v, rfl, ho, hb2⟩; obtain ⟨A', c', rfl, hc', hC'⟩ := Kd.R_reads ho))
          have HC2 := Aside0.mk hC'
          have HB2 := Aside0.mk (below_step HB.out hb2)
          clear ho hC' hb2 HM hgl hgl2 HC
          go_roundw
          case rel => exact ⟨t + 1, _, _, by go_num, by omega, by rw [HE.out], by rw [HE.out]; exact HC2, HB2⟩
          case measure => simp [intOf]; omega
        · obtain rfl : t = cols.length := by omega
          rw [List.take_length] at *
          have hu : uniqR hd rows cols = (decide (0 < cols.length) && decide ((groupsR (cellR rows) rows.length cols).length = 0)) := by unfold uniqR; rw [HIN.out]; rfl
          rw [hu] at hr
          have HB3 := Aside0.mk (below_step HB0.out HB.out)
          clear hu HC
          generalize (groupsR (cellR rows) rows.length cols).length = n at *
          by_cases h1 : 0 < cols.length
          · have h1I : (cols.length : Int) > 0 := by omega
            by_cases h2 : n = 0
            · subst h2
              go_wp2
              go_ret
              exact ⟨by rw [← hr.out]; simp [h1], HB3.out⟩
            · have h2I : ((n : Int) == 0) = false := by simp; omega
              have h2J : ¬ (n : Int) = 0 := by omega
              go_wp2
              go_ret
              exact ⟨by rw [← hr.out]; simp [h2], HB3.out⟩
          · have h1I : ¬ (cols.length : Int) > 0 := by omega
            go_wp2
            go_ret
            exact ⟨by rw [← hr.out]; simp [h1], HB3.out⟩
/-- Are tables such as a proof holds for? -/
def okU (rows : List (List ByteArray)) (cols : List Int) : Bool := decide (rows.length ≤ 50000) && decide (cols.length ≤ 100000) && rows.all fun r => r.all fun s => decide (s.size ≤ maxLen)
theorem okU_cell {rows : List (List ByteArray)} {cols : List Int} (h : okU rows cols = true) : rows.length ≤ 50000 ∧ cols.length ≤ 100000 ∧ ∀ i j, (cellR rows i j).size ≤ maxLen := by
  unfold okU at h
  rw [Bool.and_eq_true, Bool.and_eq_true, decide_eq_true_eq, decide_eq_true_eq, List.all_eq_true] at h
  refine ⟨h.1.1, h.1.2, fun i j => ?_⟩
  unfold cellR
  split
  · rename_i hc
    have h1 : i.toNat < rows.length := by omega
    have e1 : rows.getD i.toNat [] = rows[i.toNat] := by rw [List.getD_eq_getElem?_getD, List.getElem?_eq_getElem h1]; rfl
    have h2 := h.2 _ (List.getElem_mem h1)
    rw [List.all_eq_true] at h2
    rw [e1] at hc ⊢
    have h3 : j.toNat < rows[i.toNat].length := by omega
    have e2 : rows[i.toNat].getD j.toNat ByteArray.empty = rows[i.toNat][j.toNat] := by rw [List.getD_eq_getElem?_getD, List.getElem?_eq_getElem h3]; rfl
    rw [e2]
    simpa using h2 _ (List.getElem_mem h3)
  · simp [maxLen]
def keys_Unique.f (l0_0 : List ByteArray) (l0_1 : List (List ByteArray)) (l1 : List Int) : Option Bool := if okU l0_1 l1 = true then some (uniqR l0_0 l0_1 l1) else none
theorem keys_Unique.calls (A0_0 : Option Addr) (c0_0 : Nat) (l0_0 : List ByteArray) (A0_1 : Option Addr) (c0_1 : Nat) (l0_1 : List (List ByteArray)) (A1 : Option Addr) (c1 : Nat) (l1 : List Int) (r : Bool) (w : World) (hr0_0 : Kd.C Kd.string w A0_0 l0_0.length l0_0) (hc0_0 : l0_0.length ≤ c0_0) (hr0_1 : Kd.C (Kd.slice 9 Kd.string) w A0_1 l0_1.length l0_1) (hc0_1 : l0_1.length ≤ c0_1) (hr1 : Kd.C (Kd.int .i64) w A1 l1.length l1) (hc1 : l1.length ≤ c1) (h : keys_Unique.f l0_0 l0_1 l1 = some r) :
    Calls Try.prog 19 #[.agg #[.slice A0_0 l0_0.length c0_0, .slice A0_1 l0_1.length c0_1], .slice A1 l1.length c1] w fun e w' => e = .returned (.bool r) ∧ Below w.heap.size w w' := by
  unfold keys_Unique.f at h
  split at h
  · rename_i hok
    obtain ⟨h1, h2, h3⟩ := okU_cell hok
    rw [← Option.some.inj h]
    exact unique_calls A0_0 c0_0 l0_0 A0_1 c0_1 l0_1 A1 c1 l1 w hr0_0 hc0_0 hr0_1 hc0_1 hr1 h1 h2 h3
  · exact nomatch h
end Go.Proofs.Ytbcpaojciephmaa.X
end
section
namespace Go.Proofs.Ytbcpaojciephmaa.X
open Go.RowKit Go.Maps Go.Proofs.YtbcpaojciephmaaW.PrintWords Go.Proofs.YtbcpaojciephmaaW.PrintLast Go.Proofs.YtbcpaojciephmaaW.PrintMore
set_option linter.unusedVariables false
def inB (l : List ByteArray) (x : ByteArray) : Bool := decide (0 ≤ findI l x)
set_option maxRecDepth 100000 in
theorem contains_calls (A : Option Addr) (c : Nat) (l : List ByteArray) (x : ByteArray) (w : World) (hr : Kd.C Kd.string w A l.length l) (hc : l.length ≤ c) (hl : l.length ≤ 1000000) :
    Calls Try.prog 51 #[.slice A l.length c, .string x] w fun e w' => e = .returned (.bool (inB l x)) ∧ Drawn0 w w' := by
  have HR := Aside0.mk hr
  have HF := Aside0.mk (index_some l x hl (k := 1000001) (by decide))
  unfold inB
  generalize findI l x = r at *
  clear hr
  go_enter Try.func51, Try.ntmps51
  go_wp2_with (go_at_call 71; refine (slices_Index_string_string.calls 1000001 A c l x r _ HR.out hc HF.out).mono ?_; rintro e w1 ⟨rfl, hd⟩; have HD := Aside0.mk hd; clear hd)
  go_ret
  exact ⟨rfl, HD.out⟩
abbrev TS := S25
def okT1 (T : TS) : Bool := decide (T.f0.length ≤ 1000000) && decide (T.f1.length ≤ 50000) && T.f1.all fun r => r.all fun s => decide (s.size ≤ maxLen)
def usable1 (T : TS) (names : List ByteArray) : Bool := (placesR T.f0 names).2 && uniqR T.f0 T.f1 (placesR T.f0 names).1
theorem okT1_U {T : TS} {names : List ByteArray} (h : okT1 T = true) (hn : names.length ≤ 100000) : okU T.f1 (placesR T.f0 names).1 = true := by
  unfold okT1 at h
  rw [Bool.and_eq_true, Bool.and_eq_true] at h
  have := placesR_len T.f0 names
  unfold okU
  rw [h.1.2, h.2, decide_eq_true (show (placesR T.f0 names).1.length ≤ 100000 by omega)]; rfl
theorem okT1_h {T : TS} (h : okT1 T = true) : T.f0.length ≤ 1000000 := by
  unfold okT1 at h
  rw [Bool.and_eq_true, Bool.and_eq_true] at h
  simpa using h.1.1
set_option maxRecDepth 100000 in
set_option maxHeartbeats 800000 in
theorem u1_calls (T : TS) (A0 : Option Addr) (c0 : Nat) (A1 : Option Addr) (c1 : Nat) (An : Option Addr) (cn : Nat) (names : List ByteArray) (B : Nat) (W : World) (hB : W.heap[B]? = some (.cells #[.slice An names.length cn] 22 (0, 0)))
    (hr0 : Kd.C Kd.string W A0 T.f0.length T.f0) (hc0 : T.f0.length ≤ c0) (hr1 : Kd.C (Kd.slice 9 Kd.string) W A1 T.f1.length T.f1) (hc1 : T.f1.length ≤ c1) (hrn : Kd.C Kd.string W An names.length names) (hcn : names.length ≤ cn) (hok : okT1 T = true) (hn : names.length ≤ 100000) :
    Calls Try.prog 57 #[.agg #[.slice A0 T.f0.length c0, .slice A1 T.f1.length c1], .pointer (some ⟨B, 0, none⟩)] W fun e w' => e = .returned (.bool (!usable1 T names)) ∧ Below W.heap.size W w' := by
  obtain ⟨q, hq⟩ : ∃ q, Aside0 ((!usable1 T names) = q) := ⟨_, ⟨rfl⟩⟩
  rw [hq.out]
  have HPL := Aside0.mk (places_some T.f0 T.f1 names (okT1_h hok) (by omega) (k := 2000003) (by decide))
  have HU := Aside0.mk (okT1_U (names := names) hok hn)
  have HQ : Aside0 ((!((placesR T.f0 names).2 && uniqR T.f0 T.f1 (placesR T.f0 names).1)) = q) := ⟨hq.out⟩
  clear hq
  obtain ⟨cols, ok, hp⟩ : ∃ cols ok, placesR T.f0 names = (cols, ok) := ⟨_, _, rfl⟩
  rw [hp] at HPL HU HQ
  obtain ⟨W0, hW0⟩ : ∃ W0, Aside0 (W.alloc (.cells #[.slice A0 T.f0.length c0, .slice A1 T.f1.length c1] 25 (0, 0)) = W0) := ⟨_, ⟨rfl⟩⟩
  have HB0 : Aside0 (Below W.heap.size W W0) := ⟨by rw [← hW0.out]; exact below_alloc (Below.refl _ _) _⟩
  have hT : W0.heap[W.heap.size]? = some (.cells #[.slice A0 T.f0.length c0, .slice A1 T.f1.length c1] 25 (0, 0)) := by rw [← hW0.out]; exact blk_new W _
  have HT := Aside0.mk hT
  have HBN := Aside0.mk (blk_below hB HB0.out)
  have HR := Aside0.mk (And.intro (Kd.C_below hr0 HB0.out) (And.intro (Kd.C_below hr1 HB0.out) (Kd.C_below hrn HB0.out)))
  have hT0 := blk_cell HT.out 0
  have hT1 := blk_cell HT.out 1
  have hN0 := blk_cell HBN.out 0
  have fN0 := blk_frozen HBN.out 0
  rw [← hW0.out] at hT0 hT1 hN0 fN0
  clear hr0 hr1 hrn hB hp hT
  have hqq : (!(ok && uniqR T.f0 T.f1 cols)) = q := HQ.out
  have HU2 : Aside0 (okU T.f1 cols = true) := ⟨HU.out⟩
  cases ok with
  | true =>
    have HK : Aside0 (∃ u, uniqR T.f0 T.f1 cols = u ∧ (!u) = q) := ⟨⟨_, rfl, by simpa using hqq⟩⟩
    clear hqq
    go_enter Try.func57, Try.ntmps57
    go_wp2_with (first
      | (go_at_call 16; rw [hW0.out]; refine (keys_Places.calls 2000003 A0 c0 T.f0 A1 c1 T.f1 An cn names cols true W0 HR.out.1 hc0 HR.out.2.1 hc1 HR.out.2.2 hcn HPL.out).mono ?_; rintro e w1 ⟨v, rfl, ho, hb⟩; obtain ⟨Av, cv, rfl, hcv, hCv⟩ := Kd.R_reads ho; have hU0 := blk_cell (blk_below HT.out hb) 0; have hU1 := blk_cell (blk_below HT.out hb) 1)
      | (go_at_call 19; refine (keys_Unique.calls A0 c0 T.f0 A1 c1 T.f1 Av cv cols _ _ (Kd.C_below HR.out.1 hb) hc0 (Kd.C_below HR.out.2.1 hb) hc1 hCv hcv (if_pos HU2.out)).mono ?_; rintro e w2 ⟨rfl, hb2⟩; obtain ⟨u, hu, huq⟩ := HK.out; rw [hu]; have HB2 := Aside0.mk (below_step (below_step HB0.out hb) hb2); clear hb2))
    go_ret
    exact ⟨by rw [← huq]; rfl, HB2.out⟩
  | false =>
    have HK : Aside0 (q = true) := ⟨by rw [← hqq]; rfl⟩
    clear hqq
    go_enter Try.func57, Try.ntmps57
    go_wp2_with (first
      | (go_at_call 16; rw [hW0.out]; refine (keys_Places.calls 2000003 A0 c0 T.f0 A1 c1 T.f1 An cn names cols false W0 HR.out.1 hc0 HR.out.2.1 hc1 HR.out.2.2 hcn HPL.out).mono ?_; rintro e w1 ⟨v, rfl, ho, hb⟩; have hU0 := blk_cell (blk_below HT.out hb) 0; have hU1 := blk_cell (blk_below HT.out hb) 1))
    go_ret
    exact ⟨by rw [HK.out]; rfl, below_step HB0.out hb⟩
theorem tabAt_use {w : World} {A : Option Addr} {l : List TS} (h : Kd.C k25 w A l.length l) {t : Nat} (ht : t < l.length) : ∃ ad A0 c0 A1 c1, A = some ad ∧ w.cell? (ad.add (t * 2)) = some (.slice A0 (rd_T25 l (t : Int)).f0.length c0) ∧ w.cell? ⟨(ad.add (t * 2)).block, (ad.add (t * 2)).off + 1, none⟩ = some (.slice A1 (rd_T25 l (t : Int)).f1.length c1) ∧
    (rd_T25 l (t : Int)).f0.length ≤ c0 ∧ Kd.C Kd.string w A0 (rd_T25 l (t : Int)).f0.length (rd_T25 l (t : Int)).f0 ∧ (rd_T25 l (t : Int)).f1.length ≤ c1 ∧ Kd.C (Kd.slice 9 Kd.string) w A1 (rd_T25 l (t : Int)).f1.length (rd_T25 l (t : Int)).f1 := by
  obtain ⟨ad, A0, c0, A1, c1, e, h0, h1, r⟩ := at_T25 h (t : Int) (by omega) (by omega)
  exact ⟨ad, A0, c0, A1, c1, e, h0, h1, r⟩
set_option maxRecDepth 100000 in
set_option maxHeartbeats 800000 in
theorem idx_use (Al : Option Addr) (cl : Nat) (l : List TS) (An : Option Addr) (cn : Nat) (names : List ByteArray) (B : Nat) (W : World) (hB : W.heap[B]? = some (.cells #[.slice An names.length cn] 22 (0, 0))) (hrn : Kd.C Kd.string W An names.length names) (hcn : names.length ≤ cn) (hn : names.length ≤ 100000) (hrl : Kd.C k25 W Al l.length l) (hll : l.length ≤ 100000) (hok : ∀ T ∈ l, okT1 T = true) :
    Calls Try.prog 72 #[.slice Al l.length cl, .func (.func 57) #[] #[.pointer (some ⟨B, 0, none⟩)]] W fun e w' => (∃ i : Int, e = .returned (.int .i64 i) ∧ decide (0 ≤ i) = l.any fun T => !usable1 T names) ∧ Below W.heap.size W w' := by
  have HR := Aside0.mk (And.intro hrl (And.intro hB hrn))
  have HOK := Aside0.mk hok
  clear hrl hB hrn hok
  go_enter Try.func72, Try.ntmps72
  go_wp2
  go_loopw [8] (fun vi wr => ∃ i : Nat, vi = .int .i64 i ∧ i ≤ l.length ∧ Aside0 ((l.take i).any (fun T => !usable1 T names) = false) ∧ Aside0 (Below W.heap.size W wr))
    (fun vi _ => l.length - (intOf vi).toNat)
  case atStart => exact ⟨0, rfl, Nat.zero_le _, ⟨by simp⟩, ⟨Below.refl _ _⟩⟩
  case round =>
    obtain ⟨i, rfl, hi, HN, HB⟩ := hrel
    by_cases hlt : i < l.length
    · obtain ⟨ad, A0, c0, A1, c1, eA, hx0, hx1, hc0, hC0, hc1, hC1⟩ := tabAt_use (Kd.C_below HR.out.1 HB.out) hlt
      cases eA
      have hltI : (i : Int) < (l.length : Int) := by omega
      have hm : rd_T25 l (i : Int) ∈ l := by
        unfold rd_T25
        rw [show ((i : Int)).toNat = i from rfl, List.getD_eq_getElem?_getD, List.getElem?_eq_getElem hlt]; exact List.getElem_mem hlt
      have Htk : Aside0 ((l.take (i + 1)).any (fun T => !usable1 T names) = ((l.take i).any (fun T => !usable1 T names) || (fun T => !usable1 T names) (rd_T25 l (i : Int)))) := ⟨by
        unfold rd_T25
        rw [show ((i : Int)).toNat = i from rfl, List.take_succ_eq_append_getElem hlt, List.getD_eq_getElem?_getD, List.getElem?_eq_getElem hlt, List.any_append]; simp⟩
      have HYes : Aside0 ((fun T => !usable1 T names) (rd_T25 l (i : Int)) = true → l.any (fun T => !usable1 T names) = true) := ⟨fun h => List.any_eq_true.2 ⟨_, hm, h⟩⟩
      have hokT := HOK.out _ hm
      generalize rd_T25 l (i : Int) = T at *
      have HK := Aside0.mk (u1_calls T A0 c0 A1 c1 An cn names B wr (blk_below HR.out.2.1 HB.out) hC0 hc0 hC1 hc1 (Kd.C_below HR.out.2.2 HB.out) hcn hokT hn)
      clear hm hC0 hC1
      obtain ⟨p, hp⟩ : ∃ p : Bool, Aside0 ((!usable1 T names) = p) := ⟨_, ⟨rfl⟩⟩
      rw [hp.out] at HK
      cases p with
      | true =>
        have HY := Aside0.mk (HYes.out hp.out)
        go_wp2_with (go_at_call 57; refine HK.out.mono ?_; rintro e w1 ⟨rfl, hd⟩; have HD1 := Aside0.mk hd; clear hd)
        go_ret
        exact ⟨⟨(i : Int), rfl, by rw [HY.out]; simp⟩, below_step HB.out HD1.out⟩
      | false =>
        have HN2 : Aside0 ((l.take (i + 1)).any (fun T => !usable1 T names) = false) := ⟨by rw [Htk.out, HN.out]; exact hp.out⟩
        go_wp2_with (go_at_call 57; refine HK.out.mono ?_; rintro e w1 ⟨rfl, hd⟩; have HD1 := Aside0.mk hd; clear hd)
        go_roundw
        case rel => exact ⟨i + 1, by go_num, by omega, HN2, ⟨below_step HB.out HD1.out⟩⟩
        case measure => simp [intOf]; omega
    · obtain rfl : i = l.length := by omega
      rw [List.take_length] at HN
      go_wp2
      go_ret
      exact ⟨⟨-1, rfl, by rw [HN.out]; rfl⟩, HB.out⟩
set_option maxRecDepth 100000 in
theorem any_use (Al : Option Addr) (cl : Nat) (l : List TS) (An : Option Addr) (cn : Nat) (names : List ByteArray) (B : Nat) (W : World) (hB : W.heap[B]? = some (.cells #[.slice An names.length cn] 22 (0, 0))) (hrn : Kd.C Kd.string W An names.length names) (hcn : names.length ≤ cn) (hn : names.length ≤ 100000) (hrl : Kd.C k25 W Al l.length l) (hll : l.length ≤ 100000) (hok : ∀ T ∈ l, okT1 T = true) :
    Calls Try.prog 52 #[.slice Al l.length cl, .func (.func 57) #[] #[.pointer (some ⟨B, 0, none⟩)]] W fun e w' => e = .returned (.bool (l.any fun T => !usable1 T names)) ∧ Below W.heap.size W w' := by
  have HI := Aside0.mk (idx_use Al cl l An cn names B W hB hrn hcn hn hrl hll hok)
  clear hrl hB hrn hok
  generalize (l.any fun T => !usable1 T names) = q at *
  go_enter Try.func52, Try.ntmps52
  go_wp2_with (go_at_call 72; refine HI.out.mono ?_; rintro e w1 ⟨⟨i, rfl, hq⟩, hd⟩; have HD := Aside0.mk hd; have HQ := Aside0.mk hq; clear hd hq)
  go_ret
  exact ⟨by rw [← HQ.out]; rfl, HD.out⟩
/-- No name stands twice. -/
def distB (names : List ByteArray) : Bool := (List.range names.length).all fun i => !inB (names.take i) (rdOf ByteArray.empty names (i : Int))
def usableR (l : List TS) (names : List ByteArray) : Bool := distB names && decide (0 < names.length) && l.all fun T => usable1 T names
theorem dist_no {names : List ByteArray} {i : Nat} (h : i < names.length) (hb : inB (names.take i) (rdOf ByteArray.empty names (i : Int)) = true) : distB names = false := by
  unfold distB
  rw [List.all_eq_false]
  exact ⟨i, List.mem_range.2 h, by simp [hb]⟩
theorem dist_yes {names : List ByteArray} (h : ∀ i : Nat, i < names.length → inB (names.take i) (rdOf ByteArray.empty names (i : Int)) = false) : distB names = true := by
  unfold distB
  rw [List.all_eq_true]
  intro i hi
  rw [h i (List.mem_range.1 hi)]; rfl
theorem any_not (l : List TS) (p : TS → Bool) : (l.any fun T => !p T) = !(l.all p) := by
  induction l with
  | nil => rfl
  | cons a r ih => simp [List.any_cons, List.all_cons, ih, Bool.not_and]
set_option maxRecDepth 100000 in
set_option maxHeartbeats 1600000 in
theorem usable_calls (Al : Option Addr) (cl : Nat) (l : List TS) (An : Option Addr) (cn : Nat) (names : List ByteArray) (w : World) (hrl : Kd.C k25 w Al l.length l) (hrn : Kd.C Kd.string w An names.length names) (hcn : names.length ≤ cn)
    (hll : l.length ≤ 100000) (hn : names.length ≤ 100000) (hok : ∀ T ∈ l, okT1 T = true) :
    Calls Try.prog 25 #[.slice Al l.length cl, .slice An names.length cn] w fun e w' => e = .returned (.bool (usableR l names)) ∧ Below w.heap.size w w' := by
  obtain ⟨q, hq⟩ : ∃ q, Aside0 (usableR l names = q) := ⟨_, ⟨rfl⟩⟩
  rw [hq.out]
  obtain ⟨W0, hW0⟩ : ∃ W0, Aside0 (w.alloc (.cells #[.slice An names.length cn] 22 (0, 0)) = W0) := ⟨_, ⟨rfl⟩⟩
  have HB0 : Aside0 (Below w.heap.size w W0) := ⟨by rw [← hW0.out]; exact below_alloc (Below.refl _ _) _⟩
  have HT : Aside0 (W0.heap[w.heap.size]? = some (.cells #[.slice An names.length cn] 22 (0, 0))) := ⟨by rw [← hW0.out]; exact blk_new w _⟩
  have HR := Aside0.mk (And.intro (Kd.C_below hrl HB0.out) (Kd.C_below hrn HB0.out))
  have HOK := Aside0.mk hok
  have hT0 := blk_cell HT.out 0
  rw [← hW0.out] at hT0
  clear hrl hrn hok
  go_enter Try.func25, Try.ntmps25
  go_wp2
  rw [hW0.out] at hT0 ⊢
  go_loopw [9] (fun vi wr => ∃ i : Nat, vi = .int .i64 i ∧ i ≤ names.length ∧ Aside0 (∀ j : Nat, j < i → inB (names.take j) (rdOf ByteArray.empty names (j : Int)) = false) ∧ Aside0 (Below W0.heap.size W0 wr))
    (fun vi _ => names.length - (intOf vi).toNat)
  case atStart => exact ⟨0, rfl, Nat.zero_le _, ⟨fun j hj => by omega⟩, ⟨Below.refl _ _⟩⟩
  case round =>
    obtain ⟨i, rfl, hi, HN, HB⟩ := hrel
    have hT0 := blk_cell (blk_below HT.out HB.out) 0
    by_cases hlt : i < names.length
    · have hltI : (i : Int) < (names.length : Int) := by omega
      obtain ⟨ad, eA, hx⟩ := Kd.at_string (Kd.C_below HR.out.2 HB.out) (i : Int) (by omega) (by omega)
      cases eA
      rw [show ((i : Int)).toNat = i from rfl] at hx
      have HNO : Aside0 (inB (names.take i) (rdOf ByteArray.empty names (i : Int)) = true → distB names = false) := ⟨dist_no hlt⟩
      have HYES : Aside0 (inB (names.take i) (rdOf ByteArray.empty names (i : Int)) = false → ∀ j : Nat, j < i + 1 → inB (names.take j) (rdOf ByteArray.empty names (j : Int)) = false) := ⟨fun h j hj => by
        rcases Nat.lt_or_ge j i with h' | h'
        · exact HN.out j h'
        · obtain rfl : j = i := by omega
          exact h⟩
      generalize rdOf ByteArray.empty names (i : Int) = x at *
      have hct := Kd.C_take (Kd.C_below HR.out.2 HB.out) hi
      have htl : (names.take i).length = i := by rw [List.length_take]; omega
      have HK := Aside0.mk (contains_calls (some ad) cn (names.take i) x wr hct (by omega) (by omega))
      rw [htl] at HK
      clear hct htl
      cases hb : inB (names.take i) x with
      | true =>
        rw [hb] at HK HNO
        have HD := Aside0.mk (HNO.out rfl)
        clear HNO HYES hb
        go_wp2_with (go_at_call 51; refine HK.out.mono ?_; rintro e w1 ⟨rfl, hd⟩; have HD1 := Aside0.mk hd; clear hd)
        go_ret
        exact ⟨by rw [← hq.out]; unfold usableR; rw [HD.out]; rfl, below_step HB0.out (below_step HB.out HD1.out.below)⟩
      | false =>
        rw [hb] at HK HYES
        have HN2 := Aside0.mk (HYES.out rfl)
        clear HNO HYES hb
        go_wp2_with (go_at_call 51; refine HK.out.mono ?_; rintro e w1 ⟨rfl, hd⟩; have HD1 := Aside0.mk hd; clear hd)
        go_roundw
        case rel => exact ⟨i + 1, by go_num, by omega, HN2, ⟨below_step HB.out HD1.out.below⟩⟩
        case measure => simp [intOf]; omega
    · obtain rfl : i = names.length := by omega
      have hD := dist_yes HN.out
      have hu : usableR l names = (decide (0 < names.length) && l.all fun T => usable1 T names) := by unfold usableR; rw [hD]; rfl
      rw [hu] at hq
      have HA := Aside0.mk (any_not l (fun T => usable1 T names))
      have HK := Aside0.mk (any_use Al cl l An cn names w.heap.size wr (blk_below HT.out HB.out) (Kd.C_below HR.out.2 HB.out) hcn hn (Kd.C_below HR.out.1 HB.out) hll HOK.out)
      rw [HA.out] at HK
      clear hD hu
      by_cases h1 : 0 < names.length
      · have h1I : (names.length : Int) > 0 := by omega
        have HQ : Aside0 ((l.all fun T => usable1 T names) = q) := ⟨by rw [← hq.out]; simp [h1]⟩
        rw [HQ.out] at HK
        clear h1
        go_wp2_with (go_at_call 52; refine HK.out.mono ?_; rintro e w1 ⟨rfl, hd⟩; have HD1 := Aside0.mk hd; clear hd)
        go_ret
        exact ⟨by simp, below_step HB0.out (below_step HB.out HD1.out)⟩
      · have h1I : ¬ (names.length : Int) > 0 := by omega
        have HQ : Aside0 (q = false) := ⟨by rw [← hq.out]; simp [h1]⟩
        clear h1
        go_wp2
        go_ret
        exact ⟨by rw [HQ.out]; rfl, below_step HB0.out HB.out⟩
end Go.Proofs.Ytbcpaojciephmaa.X
end
section
namespace Go.Proofs.Ytbcpaojciephmaa.X
open Go.RowKit Go.Maps Go.Proofs.YtbcpaojciephmaaW.PrintWords
set_option linter.unusedVariables false
set_option maxRecDepth 100000 in
set_option maxHeartbeats 1600000 in
theorem clone_calls (A : Option Addr) (c : Nat) (l : List ByteArray) (w : World) (hr : Kd.C Kd.string w A l.length l) (hc : l.length ≤ c) (hl : l.length ≤ 1000000) :
    Calls Try.prog 56 #[.slice A l.length c] w fun e w' => ∃ v : Value, e = .returned v ∧ Kd.R Kd.string 9 w' w.heap.size (fun _ => True) v l ∧ Below w.heap.size w w' := by
  rcases A with _ | ad
  · have h0 : l.length = 0 := by
      rcases Nat.eq_zero_or_pos l.length with h | h
      · exact h
      · obtain ⟨ad, e, _⟩ := hr.2.2 h; cases e
    obtain rfl := List.eq_nil_of_length_eq_zero h0
    clear hr
    have hq : ∀ W, Sem.run Try.prog (binOp .eql 22 (.slice none 0 c) (.slice none 0 0)) W = .ok (.bool true) W := fun W => Lib.run_eql_slice_nil W 22 9 none 0 c 0 0 Try.underlying22
    go_enter Try.func56, Try.ntmps56
    go_wp2
    go_ret
    exact ⟨_, rfl, Kd.R_nil _ _ _ _ _, Below.refl _ _⟩
  · have HR := Aside0.mk hr
    clear hr
    have hq : ∀ W, Sem.run Try.prog (binOp .eql 22 (.slice (some ad) l.length c) (.slice none 0 0)) W = .ok (.bool false) W := fun W => Lib.run_eql_slice_nil W 22 9 (some ad) l.length c 0 0 Try.underlying22
    go_enter Try.func56, Try.ntmps56
    go_wp2_with (first
      | ((with_reducible refine gate_dst (N := 5) rfl ?_); refine Kd.R_lit Kd.string _ 9 ?hg (N := 5) ?hd (xs := ([] : List ByteArray)) (inner := []) (ok := fun _ => True) (okp := fun _ => True) ?hr ?hp (fun _ hk => hk) trivial (Below.refl _ _) (Nat.le_refl _) (by simp) ?_; (case hd => rfl); (case hg => rfl); (case hr => first | (go_simp; done) | (go_simp; rfl)); (case hp => exact (Reps.none _ _)); intro v5 w5 ho hb hg_ hnew_; have HO := Aside0.mk ho; have HB := Aside0.mk hb; clear hg_ hnew_ ho hb)
      | (at_builtin; refine Kd.R_append_rows Kd.string (w0 := w) w.heap.size rfl (.tmp 5) (.tmp 6) 22 9 (.string ⟨#[]⟩) 16 rfl Try.underlying22 info9 rfl (by decide) (by omega) v5 [] l (some ad) l.length c (fun _ => True) (fun _ => False) rfl rfl HO.out (Kd.C_below HR.out HB.out) (fun _ _ h => h) (fun _ h => h.elim) (fun _ _ => trivial) HB.out HB.out.size (by simp; omega) ?_; intro v7 w7 ho7 hb7 hg7 hat7))
    go_ret
    exact ⟨_, rfl, ho7, hb7⟩
end Go.Proofs.Ytbcpaojciephmaa.X
end
section
namespace Go.Proofs.Ytbcpaojciephmaa.X
open Go.RowKit
set_option linter.unusedVariables false
section
variable {F : Fence} {n : Nat} {P : Program} {α : Type}
/-- What an iterator pays: it may count on nothing but that each round is good for a value that is readable there. -/
def SeqRd (F : Fence) (n : Nat) (P : Program) (g : Nat) (lb : Array Value) (encs : α → Array Value) (Rd : α → World → Prop) (Kp : World → World → Prop) (S Sp : List α → Prop) (N : Nat) (w : World) : Prop :=
  ∀ (l : Nat) (J Jx : List α → World → Prop) (W : World), Below w.heap.size w W → OwnFrom W.heap.size J → OwnFrom W.heap.size Jx →
    (∀ (pre : List α) (x : α) (V : World), J pre V → Rd x V → pre.length < N → YieldAt F (n - 1) P l (encs x) V fun e V' => KeepsFrom W.heap.size V V' ∧ ((e = .returned (.bool true) ∧ J (pre ++ [x]) V' ∧ Kp V V') ∨ (e = .returned (.bool false) ∧ Jx (pre ++ [x]) V'))) →
    J [] W → CallsIn F n P g (#[.func (.yield l) #[] #[]] ++ lb) W fun e W' => (∃ v, e = .returned v) ∧ ((∃ xs, S xs ∧ J xs W') ∨ ∃ pre, Sp pre ∧ Jx pre W')
/-- The record of a loop, and the mark for what its rounds defer. -/
structure LoopAt (fn : FuncId) (tmps : Array Value) (ps : Array Tmp) (assign body : Code) (D : Nat) (st : LoopState) (pe : Option Code) (W : World) : Prop where
  rec_ : W.heap[D + 1]? = some (.loop { state := st, pending := pe, fn, tmps, params := ps, assign, body, defers := D })
  mark : W.heap[D]? = some (.deferred (some []))
variable {fn : FuncId} {tmps : Array Value} {ps : Array Tmp} {assign body : Code} {D : Nat} {st : LoopState} {pe : Option Code} {W W' : World}
theorem LoopAt.lt (h : LoopAt fn tmps ps assign body D st pe W) : D + 1 < W.heap.size := (Array.getElem?_eq_some_iff.1 h.rec_).1
theorem LoopAt.keep {B : Nat} (h : LoopAt fn tmps ps assign body D st pe W) (hB : B ≤ D) (hk : KeepsFrom B W W') : LoopAt fn tmps ps assign body D st pe W' :=
  ⟨hk.same _ _ (by omega) h.rec_ rfl, hk.same _ _ hB h.mark rfl⟩
theorem LoopAt.off {row : Option Nat} (h : LoopAt fn tmps ps assign body D st pe W) (hg : W.grownBy W' row) (hr : ∀ r, row = some r → D + 1 < r) : LoopAt fn tmps ps assign body D st pe W' := by
  have hl := h.lt
  exact ⟨(hg.block _ hl (fun e => by have := hr _ e.symm; omega)).trans h.rec_, (hg.block _ (by omega) (fun e => by have := hr _ e.symm; omega)).trans h.mark⟩
theorem LoopAt.put (h : LoopAt fn tmps ps assign body D st pe W) (st' : LoopState) (pe' : Option Code) : LoopAt fn tmps ps assign body D st' pe' (W.putObj (D + 1) (.loop { state := st', pending := pe', fn, tmps, params := ps, assign, body, defers := D })) :=
  ⟨World.putObj_heap_same h.lt, (World.putObj_heap_other (by omega)).trans h.mark⟩
theorem LoopAt.laid (w : World) : LoopAt fn tmps ps assign body w.heap.size .ready none ((w.alloc (.deferred (some []))).alloc (.loop { state := .ready, pending := none, fn, tmps, params := ps, assign, body, defers := w.heap.size })) := by
  refine ⟨?_, (Below.heap_alloc _ _ _ (by simp)).trans (World.alloc_heap_new w _)⟩
  have h := World.alloc_heap_new (w.alloc (.deferred (some []))) (.loop { state := .ready, pending := none, fn, tmps, params := ps, assign, body, defers := w.heap.size })
  rwa [World.size_alloc] at h
/-- A RANGE OVER SUCH A FUNCTION, in an activation of its own. -/
theorem range_rd {g : Operand} {Q : Exit → Act → World → Prop} {a : Act} {w : World}
    (hro : F.round = none) (hn1 : 1 ≤ n) {gf : Nat} {lb : Array Value} (hg : a.eval g = .func (.func gf) #[] lb) (hFg : F.fn gf) (eg : ∀ args w, (callFunc gf args).run P w = .ok (.enter gf args) w)
    {encs : α → Array Value} {Rd : α → World → Prop} {Kp : World → World → Prop} {S Sp : List α → Prop} {N : Nat} {w0 : World} (hseq : SeqRd F (n - 1) P gf lb encs Rd Kp S Sp N w0)
    (hKt : ∀ {A B C : World}, Kp A B → Kp B C → Kp A C) (hKb : ∀ (W : World) (l : Nat) (o o' : Obj), w.heap.size ≤ l → W.heap[l]? = some o → o.isCells = false → o.isWalk = false → Kp W (W.putObj l o')) (hb0 : Below w0.heap.size w0 w) (hps : ∀ x, (encs x).size = ps.size)
    (I : List α → World → Prop) (Ix : Code → List α → World → Prop) (hI : OwnFrom w.heap.size I) (hIx : ∀ c, OwnFrom w.heap.size (Ix c)) (hRd : OwnFrom w.heap.size Rd) (h0 : I [] w) (a₁ : α → Act)
    (hassign : ∀ (l : Nat) (x : α) (V : World) (K : Act → World → Prop), K (a₁ x) V → assign.wpIn (F.inRound l) (n - 1 - 1) P (Exit.then K (fun _ _ _ => False)) { tmps := (ps.zip (encs x)).foldl (fun t (p, v) => t.setIfInBounds p v) a.tmps, defers := [] } V)
    (hbody : ∀ (l : Nat) (pre : List α) (x : α) (V : World), I pre V → Rd x V → pre.length < N → body.wpIn (F.inRound l) (n - 1 - 1) P (ownPostG w.heap.size Kp I Ix (pre ++ [x]) V) (a₁ x) V)
    (hdone : ∀ (D : Nat) (xs : List α) (V : World), w.heap.size ≤ D → S xs → I xs V → V.heap[D]? = some (.deferred (some [])) → Q .normal { a with defers := { target := .collected D, args := #[] } :: a.defers } V)
    (hstop : ∀ (D : Nat) (c : Code) (pre : List α) (V : World), w.heap.size ≤ D → Sp pre → Ix c pre V → V.heap[D]? = some (.deferred (some [])) → c.wpIn F n P Q { a with defers := { target := .collected D, args := #[] } :: a.defers } V) :
    (Code.rangeFunc g ps assign body).wpIn F n P Q a w := by
  refine wpIn_rangeFunc fun fn hfn => ?_
  rw [hro]
  obtain ⟨W1, hL, hI1, hb1, henter⟩ : ∃ W1, LoopAt fn a.tmps ps assign body w.heap.size .ready none W1 ∧ I [] W1 ∧ Below w0.heap.size w0 W1 ∧ (Instr.enterLoop fn a.tmps ps assign body none).run P w = .ok (w.heap.size + 1, [{ target := .collected w.heap.size, args := #[] }]) W1 :=
    ⟨_, LoopAt.laid w, hI.alloc _ (hI.alloc _ h0), hb0.trans ((((Below.refl _ w).alloc (Nat.le_refl _) _).alloc (by simp) _).mono hb0.size), run_enterLoop_outer fn a.tmps ps assign body⟩
  have hsz := hL.lt
  have hoff : ∀ {A : World} {row : Option Nat}, (∀ r, row = some r → W1.heap.size ≤ r ∧ ∃ o : Obj, A.heap[r]? = some o ∧ o.isCells = false) → ∀ r, row = some r → w.heap.size ≤ r ∧ ∃ o : Obj, A.heap[r]? = some o ∧ o.isCells = false :=
    fun h r e => by obtain ⟨h1, h2⟩ := h r e; exact ⟨by omega, h2⟩
  -- one round
  have hround : ∀ (pre : List α) (x : α) (V : World), (I pre V ∧ LoopAt fn a.tmps ps assign body w.heap.size .ready none V) → Rd x V → pre.length < N → YieldAt F (n - 1 - 1) P (w.heap.size + 1) (encs x) V fun e V' => KeepsFrom W1.heap.size V V' ∧
      ((e = .returned (.bool true) ∧ (I (pre ++ [x]) V' ∧ LoopAt fn a.tmps ps assign body w.heap.size .ready none V') ∧ Kp V V') ∨ (e = .returned (.bool false) ∧ ∃ c, Ix c (pre ++ [x]) V' ∧ LoopAt fn a.tmps ps assign body w.heap.size .done (some c) V')) := by
    rintro pre x V ⟨hi, hl⟩ hrd hlen
    refine ⟨fn, _, assign, body, run_yield hl.rec_ (hps x), roundIn_of_wpIn hfn (hassign _ x V _ ⟨_, run_beginRound hl.rec_ rfl, ?_⟩)⟩
    have hbusy := hl.put .busy none
    have hkb : Kp V (V.putObj (w.heap.size + 1) (.loop { state := .busy, pending := none, fn, tmps := a.tmps, params := ps, assign, body, defers := w.heap.size })) := hKb _ _ _ _ (by omega) hl.rec_ rfl rfl
    refine wpIn_mono (hbody _ pre x _ (hI.putObj _ hi (by omega) hl.rec_ rfl) (hRd.putObj _ hrd (by omega) hl.rec_ rfl) hlen) fun e b V3 hp => ?_
    have kput : ∀ (V : World) (o' : Obj), KeepsFrom W1.heap.size V (V.putObj (w.heap.size + 1) o') := fun V o' => KeepsFrom.of_grownBy (grownBy_putObj' _ _ _) (fun j hj => by cases hj; exact hsz)
    have kall : ∀ {V3 : World} (o' : Obj), KeepsFrom w.heap.size (V.putObj (w.heap.size + 1) (.loop { state := .busy, pending := none, fn, tmps := a.tmps, params := ps, assign, body, defers := w.heap.size })) V3 → KeepsFrom W1.heap.size V (V3.putObj (w.heap.size + 1) o') := fun o' hk =>
      ((kput _ _).trans ⟨hk.size, fun k o hB h1 h2 => hk.same k o (by omega) h1 h2⟩).trans (kput _ _)
    have jump : ∀ c, KeepsFrom w.heap.size (V.putObj (w.heap.size + 1) (.loop { state := .busy, pending := none, fn, tmps := a.tmps, params := ps, assign, body, defers := w.heap.size })) V3 → Ix c (pre ++ [x]) V3 →
        ∃ V4, (Instr.endRound (w.heap.size + 1) (some c)).run P V3 = .ok (.bool false) V4 ∧ KeepsFrom W1.heap.size V V4 ∧ Ix c (pre ++ [x]) V4 ∧ LoopAt fn a.tmps ps assign body w.heap.size .done (some c) V4 := fun c hk hx => by
      have h3 := hbusy.keep (Nat.le_refl _) hk
      exact ⟨_, run_endRound (some c) h3.rec_, kall _ hk, (hIx c).putObj _ hx (by omega) h3.rec_ rfl, h3.put .done (some c)⟩
    cases e with
    | normal =>
      obtain ⟨hk, hkp, hx⟩ := hp
      have h3 := hbusy.keep (Nat.le_refl _) hk
      exact ⟨_, _, run_endRound none h3.rec_, kall _ hk, .inl ⟨rfl, ⟨hI.putObj _ hx (by omega) h3.rec_ rfl, h3.put .ready none⟩, hKt (hKt hkb hkp) (hKb _ _ _ _ (by omega) h3.rec_ rfl rfl)⟩⟩
    | ret => obtain ⟨V4, h1, h0, h2, h3⟩ := jump .ret hp.1 hp.2; exact ⟨_, _, h1, h0, .inr ⟨rfl, .ret, h2, h3⟩⟩
    | exit id => obtain ⟨V4, h1, h0, h2, h3⟩ := jump (.exit id) hp.1 hp.2; exact ⟨_, _, h1, h0, .inr ⟨rfl, .exit id, h2, h3⟩⟩
    | goto t => obtain ⟨V4, h1, h0, h2, h3⟩ := jump (.goto t) hp.1 hp.2; exact ⟨_, _, h1, h0, .inr ⟨rfl, .goto t, h2, h3⟩⟩
    | panic ch => exact hp.elim
    | outgrown => exact hp.elim
  have ha1 : OwnFrom W1.heap.size (fun (pre : List α) V => I pre V ∧ LoopAt fn a.tmps ps assign body w.heap.size .ready none V) := by
    intro s A B row hs hgr hr
    exact ⟨hI s A B row hs.1 hgr (hoff hr), hs.2.off hgr (fun r e => by have := (hr r e).1; omega)⟩
  have ha2 : OwnFrom W1.heap.size (fun (pre : List α) V => ∃ c, Ix c pre V ∧ LoopAt fn a.tmps ps assign body w.heap.size .done (some c) V) := by
    intro s A B row hs hgr hr
    obtain ⟨c, h1, h2⟩ := hs
    exact ⟨c, hIx c s A B row h1 hgr (hoff hr), h2.off hgr (fun r e => by have := (hr r e).1; omega)⟩
  have hcall := hseq (w.heap.size + 1) _ _ W1 hb1 ha1 ha2 hround ⟨hI1, hL⟩
  refine ⟨w.heap.size + 1, [{ target := .collected w.heap.size, args := #[] }], W1, { target := .fn (.func gf) lb, args := #[.func (.yield (w.heap.size + 1)) #[] #[]] }, W1, gf, #[.func (.yield (w.heap.size + 1)) #[] #[]] ++ lb, W1, henter, ?_, ?_, ?_, fun _ => hn1, ?_⟩
  · simp only [resolve, hg]
    simp [go_sem]
  · intro f' hf'
    simp [Target.leads] at hf'
    subst hf'
    exact hFg
  · simp [invoke, go_sem, eg]
  · refine CallsIn.mono hcall ?_
    rintro e V ⟨⟨v, rfl⟩, (⟨xs, hS, hi, hl⟩ | ⟨pre, hSp, c, hi, hl⟩)⟩
    · exact ⟨none, _, run_endLoop hl.rec_ (by simp), hdone _ xs _ (Nat.le_refl _) hS (hI.putObj _ hi (by omega) hl.rec_ rfl) (hl.put .exhausted none).mark⟩
    · exact ⟨some c, _, run_endLoop hl.rec_ (by simp), hstop _ c pre _ (Nat.le_refl _) hSp ((hIx c).putObj _ hi (by omega) hl.rec_ rfl) (hl.put .exhausted (some c)).mark⟩
end
end Go.Proofs.Ytbcpaojciephmaa.X
end
section
namespace Go.Proofs.Ytbcpaojciephmaa.X
open Go.RowKit Go.Maps Go.Proofs.YtbcpaojciephmaaW.PrintWords Go.Proofs.YtbcpaojciephmaaW.PrintLast Go.Proofs.YtbcpaojciephmaaW.PrintMore
set_option linter.unusedVariables false
theorem lt_of_blockC {W : World} {k : Nat} {o : Obj} (h : W.heap[k]? = some o) : k < W.heap.size := (Array.getElem?_eq_some_iff.1 h).1
theorem grown_belowC {W W' : World} (hb : Below W.heap.size W W') : W.grownBy W' none := ⟨hb.os, hb.tape, hb.output, hb.size, fun k hk _ => hb.block k hk⟩
/-- What a round keeps: what lay before, and every row but one. -/
def CK (n₀ Bn : Nat) (A B : World) : Prop := Below n₀ A B ∧ ∀ (k : Nat) (cs : Array Value) (t : TypeId) (fr : Nat × Nat), k ≠ Bn → A.heap[k]? = some (.cells cs t fr) → B.heap[k]? = some (.cells cs t fr)
theorem CK.trans {n₀ Bn : Nat} {A B C : World} (h : CK n₀ Bn A B) (k : CK n₀ Bn B C) : CK n₀ Bn A C := ⟨h.1.trans k.1, fun j cs t fr hj hc => k.2 j cs t fr hj (h.2 j cs t fr hj hc)⟩
theorem CK.below {n₀ Bn : Nat} {A B : World} (hb : Below A.heap.size A B) (hn : n₀ ≤ A.heap.size) : CK n₀ Bn A B := ⟨hb.mono hn, fun k cs t fr _ hc => (hb.block k (lt_of_blockC hc)).trans hc⟩
theorem CK.grown {n₀ Bn B : Nat} {W W' : World} {row : Option Nat} (hn : n₀ ≤ B) (hB : n₀ ≤ W.heap.size) (hg : W.grownBy W' row) (hr : ∀ r, row = some r → B ≤ r ∧ ∃ o : Obj, W.heap[r]? = some o ∧ o.isCells = false) : CK n₀ Bn W W' := by
  refine ⟨(Below.refl n₀ W).grown hg hB (fun k e => by have := (hr k e).1; omega), fun k cs t fr _ hc => ?_⟩
  rw [hg.block k (lt_of_blockC hc) (fun e => ?_), hc]
  obtain ⟨_, o, ho, hcl⟩ := hr k e.symm
  rw [hc] at ho
  injection ho with ho
  subst ho
  cases hcl
theorem CK.put {n₀ Bn : Nat} {w : World} (hn : n₀ ≤ w.heap.size) (W : World) (l : Nat) (o o' : Obj) (hl : w.heap.size ≤ l) (h : W.heap[l]? = some o) (ho : o.isCells = false) (hw : o.isWalk = false) : CK n₀ Bn W (W.putObj l o') :=
  CK.grown (B := w.heap.size) hn (by have := lt_of_blockC h; omega) (grownBy_putObj' W l o') (fun r e => by cases e; exact ⟨hl, o, h, ho⟩)
theorem cell_obj {W : World} {a : Addr} {v : Value} (h : W.cell? a = some v) : ∃ cs t fr, W.heap[a.block]? = some (.cells cs t fr) := by
  unfold World.cell? at h
  cases ho : W.heap[a.block]? with
  | none => simp [ho] at h
  | some o => cases o <;> first | exact ⟨_, _, _, rfl⟩ | (simp [ho] at h)
theorem CK.cell {n₀ Bn : Nat} {A B : World} (h : CK n₀ Bn A B) {a : Addr} {v : Value} (hne : a.block ≠ Bn) (hc : A.cell? a = some v) : B.cell? a = some v := by
  obtain ⟨cs, t, fr, ho⟩ := cell_obj hc
  rw [World.cell?_of_block ((h.2 _ cs t fr hne ho).trans ho.symm), hc]
/-- A row of texts, not in that one block. -/
def StR (Bn : Nat) (W : World) (A : Option Addr) (l : List ByteArray) : Prop := Kd.C Kd.string W A l.length l ∧ ∀ ad, 0 < l.length → A = some ad → ad.block ≠ Bn
theorem StR.ck {n₀ Bn : Nat} {W W' : World} {A : Option Addr} {l : List ByteArray} (h : StR Bn W A l) (hk : CK n₀ Bn W W') : StR Bn W' A l := by
  refine ⟨⟨h.1.1, h.1.2.1, fun h0 => ?_⟩, h.2⟩
  obtain ⟨ad, e, hp⟩ := h.1.2.2 h0
  refine ⟨ad, e, fun j p hj => ?_⟩
  obtain ⟨c, h1, h2, h3⟩ := hp j p hj
  exact ⟨c, h1, h2, fun i u hi => hk.cell (by have := h.2 ad h0 e; unfold Addr.add; split <;> exact this) (h3 i u hi)⟩
/-- A row of texts that came out of a call. -/
def RdS (n₀ Bn : Nat) (x : List ByteArray × Value) (W : World) : Prop := W.ownsRow n₀ 9 1 x.2 x.1.length (encs Value.string x.1) ∧ (∀ k, x.2.ownBlock = some k → k ≠ Bn) ∧ x.1.length ≤ 1000
theorem RdS.ck {n₀ Bn : Nat} {W W' : World} {x : List ByteArray × Value} (h : RdS n₀ Bn x W) (hk : CK n₀ Bn W W') : RdS n₀ Bn x W' := by
  refine ⟨own_move h.1 (fun k hv => ?_), h.2⟩
  obtain ⟨cs, hcs⟩ := own_typed h.1 k hv
  rw [hk.2 k cs _ _ (h.2.1 k hv) hcs, hcs]
theorem RdS.own {n₀ Bn B : Nat} (hB : n₀ ≤ B) : OwnFrom B (RdS n₀ Bn) := fun s W W' row hs hg hr => by
  by_cases hn : n₀ ≤ W.heap.size
  · exact hs.ck (CK.grown hB hn hg hr)
  · refine ⟨own_move hs.1 (fun k hv => ?_), hs.2⟩
    have h1 := own_base hs.1 k hv
    have h2 := own_lt hs.1 k hv
    omega
theorem RdS.new {n₀ Bn : Nat} {W W' : World} {l : List ByteArray} {v : Value} (h : Kd.R Kd.string 9 W' W.heap.size (fun _ => True) v l) (hn : n₀ ≤ W.heap.size) (hB : Bn < W.heap.size) (hl : l.length ≤ 1000) : RdS n₀ Bn (l, v) W' := by
  have hown := Kd.own_of_R h
  refine ⟨own_weaken hown hn, fun k hk => ?_, hl⟩
  have := own_base hown k hk
  omega
/-- What lies for the iterator. -/
structure ChS (Bn Bi Bh Br : Nat) (k : Int) (Ah : Option Addr) (ch : Nat) (head : List ByteArray) (Ar : Option Addr) (cr : Nat) (rest : List ByteArray) (W : World) : Prop where
  i : W.heap[Bi]? = some (.cells #[.int .i64 k] 3 (0, 0))
  h : W.heap[Bh]? = some (.cells #[.slice Ah head.length ch] 22 (0, 0))
  r : W.heap[Br]? = some (.cells #[.slice Ar rest.length cr] 22 (0, 0))
  ne : Bi ≠ Bn ∧ Bh ≠ Bn ∧ Br ≠ Bn
  hc : head.length ≤ ch
  rc : rest.length ≤ cr
  H : StR Bn W Ah head
  R : StR Bn W Ar rest
section
variable {n₀ Bn Bi Bh Br : Nat} {k : Int} {Ah : Option Addr} {ch : Nat} {head : List ByteArray} {Ar : Option Addr} {cr : Nat} {rest : List ByteArray} {W W' : World}
theorem ChS.ck (h : ChS Bn Bi Bh Br k Ah ch head Ar cr rest W) (hk : CK n₀ Bn W W') : ChS Bn Bi Bh Br k Ah ch head Ar cr rest W' :=
  ⟨hk.2 _ _ _ _ h.ne.1 h.i, hk.2 _ _ _ _ h.ne.2.1 h.h, hk.2 _ _ _ _ h.ne.2.2 h.r, h.ne, h.hc, h.rc, h.H.ck hk, h.R.ck hk⟩
theorem ChS.below (h : ChS Bn Bi Bh Br k Ah ch head Ar cr rest W) (hb : Below W.heap.size W W') : ChS Bn Bi Bh Br k Ah ch head Ar cr rest W' := h.ck (CK.below (n₀ := W.heap.size) hb (Nat.le_refl _))
end
set_option maxRecDepth 100000 in
theorem choices_calls (Ah : Option Addr) (ch nh : Nat) (Ar : Option Addr) (cr nr : Nat) (k : Int) (w : World) :
    Calls Try.prog 53 #[.slice Ah nh ch, .slice Ar nr cr, .int .i64 k] w fun e w' => ∃ Bi Bh Br, e = .returned (.func (.func 73) #[] #[.pointer (some ⟨Bi, 0, none⟩), .pointer (some ⟨Bh, 0, none⟩), .pointer (some ⟨Br, 0, none⟩)]) ∧
      w'.heap[Bi]? = some (.cells #[.int .i64 k] 3 (0, 0)) ∧ w'.heap[Bh]? = some (.cells #[.slice Ah nh ch] 22 (0, 0)) ∧ w'.heap[Br]? = some (.cells #[.slice Ar nr cr] 22 (0, 0)) ∧ (w.heap.size ≤ Bi ∧ w.heap.size ≤ Bh ∧ w.heap.size ≤ Br) ∧ Below w.heap.size w w' := by
  go_enter Try.func53, Try.ntmps53
  go_wp2
  go_ret
  have h1 := blk_new w (.cells #[.slice Ah nh ch] 22)
  have h2 := blk_new (w.alloc (.cells #[.slice Ah nh ch] 22)) (.cells #[.slice Ar nr cr] 22)
  have h3 := blk_new ((w.alloc (.cells #[.slice Ah nh ch] 22)).alloc (.cells #[.slice Ar nr cr] 22)) (.cells #[.int .i64 k] 3)
  rw [World.size_alloc] at h2
  rw [World.size_alloc, World.size_alloc] at h3
  exact ⟨_, _, _, rfl, h3, blk_alloc (blk_alloc h1 _) _, blk_alloc h2 _, ⟨by omega, Nat.le_refl _, by omega⟩, below_alloc (below_alloc (below_alloc (Below.refl _ _) _) _) _⟩
/-- It ends as it should, or not at all. -/
def OnlyNormal (Q : Exit → Act → World → Prop) : Exit → Act → World → Prop
  | .normal, a, w => Q .normal a w
  | _, _, _ => False
theorem only_normal {Q : Exit → Act → World → Prop} {e : Exit} {a : Act} {w : World} (h : OnlyNormal Q e a w) : Q e a w := by cases e <;> first | exact h | exact h.elim
theorem only_mk {Q : Exit → Act → World → Prop} {a : Act} {w : World} (h : Q .normal a w) : OnlyNormal Q .normal a w := h
theorem codeIn_mono {P : Program} {F : Fence} {n : Nat} {c : Code} {Q Q' : Exit → Act → World → Prop} {a : Act} {w : World} (hQ : ∀ e a w, Q e a w → Q' e a w) (h : c.wpIn F n P Q a w) : c.wpIn F n P Q' a w :=
  fun b k cs h1 h2 h3 => let ⟨e, a', w', q, s⟩ := h b k cs h1 h2 h3; ⟨e, a', w', hQ _ _ _ q, s⟩
theorem roundIn_any {n m l l' : Nat} {P : Program} {f : FuncId} {tmps : Array Value} {a b : Code} {w : World} {R : Ending → World → Prop} (h : RoundIn Fence.wide n P l f tmps a b w R) : RoundIn (Fence.wide.inRound l') m P l f tmps a b w R := ⟨h.1, fun c cs _ => h.2 c cs (room_wide _)⟩
theorem yieldAt_wide {n m l : Nat} {P : Program} {args : Array Value} {W : World} {R : Ending → World → Prop} (h : YieldAt Fence.wide n P l args W R) : YieldAt Fence.wide m P l args W R := by
  obtain ⟨fn, tmps, a, b, hy, hR⟩ := h
  exact ⟨fn, tmps, a, b, hy, hR.1, fun c cs _ => hR.2 c cs (room_wide _)⟩
/-- What a round is asked for. -/
def YOk (n₀ Bn base : Nat) (l : Nat) (N : Nat) (J Jx : List (List ByteArray × Value) → World → Prop) : Prop :=
  ∀ (pre : List (List ByteArray × Value)) (x : List ByteArray × Value) (V : World), J pre V → RdS n₀ Bn x V → pre.length < N → YieldAt Fence.wide 0 Try.prog l #[x.2] V fun e V' => KeepsFrom base V V' ∧ ((e = .returned (.bool true) ∧ J (pre ++ [x]) V' ∧ CK n₀ Bn V V') ∨ (e = .returned (.bool false) ∧ Jx (pre ++ [x]) V'))
/-- How it ends. -/
def ChE (full : List (List ByteArray)) (J Jx : List (List ByteArray × Value) → World → Prop) (e : Ending) (W' : World) : Prop := (∃ v, e = .returned v) ∧ ((∃ xs : List (List ByteArray × Value), xs.map Prod.fst = full ∧ J xs W') ∨ ∃ pre : List (List ByteArray × Value), pre.map Prod.fst <+: full ∧ Jx pre W')
set_option maxRecDepth 100000 in
set_option maxHeartbeats 4000000 in
theorem choose0_calls (n₀ Bn Bi Bh Br : Nat) (Ah : Option Addr) (ch : Nat) (head : List ByteArray) (Ar : Option Addr) (cr : Nat) (rest : List ByteArray) (l : Nat) (J Jx : List (List ByteArray × Value) → World → Prop) (W : World) (hn : n₀ ≤ W.heap.size) (hBn : Bn < W.heap.size)
    (hhl : head.length ≤ 1000) (hS : ChS Bn Bi Bh Br 0 Ah ch head Ar cr rest W) (hJ : OwnFrom W.heap.size J) (hY : YOk n₀ Bn W.heap.size l 1 J Jx) (h0 : J [] W) :
    Calls Try.prog 73 #[.func (.yield l) #[] #[], .pointer (some ⟨Bi, 0, none⟩), .pointer (some ⟨Bh, 0, none⟩), .pointer (some ⟨Br, 0, none⟩)] W (ChE [head] J Jx) := by
  obtain ⟨W0, hW0⟩ : ∃ W0, Aside0 (W.alloc (.cells #[.func (.yield l) #[] #[]] 69 (0, 0)) = W0) := ⟨_, ⟨rfl⟩⟩
  have HB0 : Aside0 (Below W.heap.size W W0) := ⟨by rw [← hW0.out]; exact below_alloc (Below.refl _ _) _⟩
  have HX : Aside0 (W0.heap[W.heap.size]? = some (.cells #[.func (.yield l) #[] #[]] 69 (0, 0))) := ⟨by rw [← hW0.out]; exact blk_new W _⟩
  have HS0 := Aside0.mk (hS.below HB0.out)
  have HY := Aside0.mk hY
  have HJ := Aside0.mk hJ
  have H0 := Aside0.mk h0
  have hi0 := blk_cell HS0.out.i 0
  have hh0 := blk_cell HS0.out.h 0
  have hx0 := blk_cell HX.out 0
  rw [← hW0.out] at hi0 hh0 hx0
  clear hS hJ hY h0
  go_enter Try.func73, Try.ntmps73
  refine (wpIn_wide (n := 10)).1 ?_
  gi_wp2
  rw [hW0.out] at hi0 hh0 hx0 ⊢
  gi_region_with (first
    | (refine ⟨trivial, CallsIn.mono (callsIn_wide.2 (clone_calls Ah ch head W0.drew (Kd.C_drew HS0.out.H.1) HS0.out.hc (by omega))) ?_⟩; rintro e w1 ⟨v, rfl, ho, hb⟩; have hB1 : Below W.heap.size W w1 := below_step (below_drew1 HB0.out) hb; have hj : J [] w1 := HJ.out _ _ _ none H0.out (grown_belowC hB1) (by simp); have hx1 := blk_cell (blk_below (blk_drew HX.out) hb) 0; obtain ⟨fn, tmps, assign, body, hy, hR⟩ := yieldAt_wide (m := 10 - 1) (HY.out [] (head, v) w1 hj (RdS.new ho (Nat.le_trans hn HB0.out.size) (Nat.lt_of_lt_of_le hBn HB0.out.size) hhl) Nat.one_pos); clear ho hb hj)
    | (refine RoundIn.mono hR ?_; rintro e W3 ⟨hk, hp⟩; have hp2 : ∃ b, e = .returned (.bool b) ∧ (J [(head, v)] W3 ∨ Jx [(head, v)] W3) := (by rcases hp with ⟨he, hp, _⟩ | ⟨he, hp⟩ <;> first | exact ⟨_, he, .inl hp⟩ | exact ⟨_, he, .inr hp⟩); clear hp; obtain ⟨b, rfl, hp⟩ := hp2; have HP := Aside0.mk hp; clear hp))
  all_goals
    gi_wp2
    refine bodyPost_ret (results_none rfl _ _ _) rfl ?_
    exact ⟨⟨_, rfl⟩, HP.out.imp (fun h => ⟨[(head, v)], rfl, h⟩) (fun h => ⟨[(head, v)], List.prefix_refl _, h⟩)⟩
end Go.Proofs.Ytbcpaojciephmaa.X
end
section
namespace Go.Proofs.Ytbcpaojciephmaa.X
open Go.RowKit Go.Maps Go.Proofs.YtbcpaojciephmaaW.PrintWords Go.Proofs.YtbcpaojciephmaaW.PrintLast Go.Proofs.YtbcpaojciephmaaW.PrintMore
set_option linter.unusedVariables false
attribute [local go_sem] Oper.semAt_some
abbrev mkD (D : Nat) : Deferred := { target := .collected D, args := #[] }
/-- Marks that loops have left. -/
def MarksAt (B T : Nat) (ds : List Deferred) (V : World) : Prop := ∃ Ds : List Nat, ds = Ds.map mkD ∧ Ds.Nodup ∧ ∀ D ∈ Ds, B ≤ D ∧ D < T ∧ V.heap[D]? = some (.deferred (some []))
theorem MarksAt.nil (B T : Nat) (V : World) : MarksAt B T [] V := ⟨[], rfl, List.nodup_nil, fun D h => by cases h⟩
theorem MarksAt.keep {B T : Nat} {ds : List Deferred} {V V' : World} (h : MarksAt B T ds V) (hk : KeepsFrom B V V') : MarksAt B T ds V' := by
  obtain ⟨Ds, h1, h2, h3⟩ := h
  exact ⟨Ds, h1, h2, fun D hD => ⟨(h3 D hD).1, (h3 D hD).2.1, hk.same D _ (h3 D hD).1 (h3 D hD).2.2 rfl⟩⟩
theorem MarksAt.grown {B T : Nat} {ds : List Deferred} {V V' : World} {row : Option Nat} (h : MarksAt B T ds V) (hg : V.grownBy V' row) (hr : ∀ r, row = some r → T ≤ r) : MarksAt B T ds V' := by
  obtain ⟨Ds, h1, h2, h3⟩ := h
  refine ⟨Ds, h1, h2, fun D hD => ⟨(h3 D hD).1, (h3 D hD).2.1, ?_⟩⟩
  rw [hg.block D (lt_of_blockC (h3 D hD).2.2) (fun e => by have := hr D e.symm; have := (h3 D hD).2.1; omega)]
  exact (h3 D hD).2.2
theorem MarksAt.up {B T T' : Nat} {ds : List Deferred} {V : World} (h : MarksAt B T ds V) (hT : T ≤ T') : MarksAt B T' ds V := by
  obtain ⟨Ds, h1, h2, h3⟩ := h
  exact ⟨Ds, h1, h2, fun D hD => ⟨(h3 D hD).1, by have := (h3 D hD).2.1; omega, (h3 D hD).2.2⟩⟩
theorem MarksAt.more {B T : Nat} {ds : List Deferred} {V : World} {D : Nat} (h : MarksAt B T ds V) (hB : B ≤ T) (hT : T ≤ D) (hD : V.heap[D]? = some (.deferred (some []))) : MarksAt B V.heap.size (mkD D :: ds) V := by
  obtain ⟨Ds, h1, h2, h3⟩ := h
  have hlt := lt_of_blockC hD
  refine ⟨D :: Ds, by rw [h1]; rfl, List.nodup_cons.2 ⟨fun hm => by have := (h3 D hm).2.1; omega, h2⟩, fun D' hD' => ?_⟩
  rcases List.mem_cons.1 hD' with rfl | hm
  · exact ⟨by omega, hlt, hD⟩
  · exact ⟨(h3 D' hm).1, by have := (h3 D' hm).2.1; omega, (h3 D' hm).2.2⟩
/-- A function that leaves with such marks. -/
theorem marks_leave {n : Nat} {P : Program} {fn : Func} {tmps : Array Value} {R : Ending → World → Prop} {B : Nat} {v : Value} (hres : ∀ V, (results fn tmps).run P V = .ok v V) (Jp : Unit → World → Prop) (hJ : OwnFrom B Jp) (hR : ∀ V, Jp () V → R (.returned v) V) :
    ∀ (Ds : List Nat) (V : World), Ds.Nodup → (∀ D ∈ Ds, B ≤ D ∧ V.heap[D]? = some (.deferred (some []))) → Jp () V → LeavesInM Fence.wide n P fn tmps R (Ds.map mkD) .returning V
  | [], V, _, _, h => ⟨_, hres V, hR _ h⟩
  | D :: Ds, V, hn, hd, h => by
    obtain ⟨hB, hD⟩ := hd D List.mem_cons_self
    refine ⟨by simp, .inl ⟨D, _, rfl, run_takeDeferred hD, ?_⟩⟩
    refine marks_leave hres Jp hJ hR Ds _ (List.nodup_cons.1 hn).2 (fun D' hm => ?_) (hJ.putObj _ h hB hD rfl)
    refine ⟨(hd D' (List.mem_cons_of_mem _ hm)).1, (World.putObj_heap_other ?_).trans (hd D' (List.mem_cons_of_mem _ hm)).2⟩
    rintro rfl
    exact (List.nodup_cons.1 hn).1 hm
theorem MarksAt.leave {n : Nat} {P : Program} {fn : Func} {tmps : Array Value} {R : Ending → World → Prop} {B T : Nat} {ds : List Deferred} {V : World} (h : MarksAt B T ds V) {v : Value} (hres : ∀ V, (results fn tmps).run P V = .ok v V) (Jp : Unit → World → Prop) (hJ : OwnFrom B Jp) (hR : ∀ V, Jp () V → R (.returned v) V) (hj : Jp () V) :
    LeavesInM Fence.wide n P fn tmps R ds .returning V := by
  obtain ⟨Ds, rfl, h2, h3⟩ := h
  exact marks_leave hres Jp hJ hR Ds V h2 (fun D hD => ⟨(h3 D hD).1, (h3 D hD).2.2⟩) hj
/-- What is left of a row of texts. -/
theorem cut_str (Bn : Nat) (A : Option Addr) (c : Nat) (xs : List ByteArray) (m : Nat) (hm : m ≤ xs.length) (hc : xs.length ≤ c) : ∃ A' : Option Addr, (∀ W : World, (Instr.slice 22 (.slice A xs.length c) (some (.int .i64 (m : Int))) none none).run Try.prog W = .ok (.slice A' (xs.drop m).length (c - m)) W) ∧
    (∀ w : World, StR Bn w A xs → StR Bn w A' (xs.drop m)) ∧ (xs.drop m).length ≤ c - m := by
  obtain ⟨i0, hi0, _, hsz, _⟩ := info_parts info9
  refine ⟨if c = m then A else A.map (·.add m), fun W => ?_, fun w h => ⟨?_, fun ad h0 e => ?_⟩, by rw [List.length_drop]; omega⟩
  · have ht : Try.prog.underlying 22 = some (.slice 9) := Try.underlying22
    have hel : Try.prog.elem 22 = 9 := by simp [Program.elem, ht]
    have hu : Try.prog.underlying 22 = some (.slice (Try.prog.elem 22)) := by rw [hel]; exact ht
    rw [run_slice_l W 22 A xs.length c hu .i64 (m : Int) (Int.natCast_nonneg _) (by omega), hel]
    simp [sizeOf, typeInfo, hi0, hsz, sliced, Result.andThen]
  · have h1 := Kd.reads_of_C (d := (ByteArray.empty : ByteArray)) h.1
    have h2 := Kd.C_of_reads (h1 := fun _ => rfl) (h1.drop_ m hm hc)
    rw [List.length_drop]
    exact h2
  · rw [List.length_drop] at h0
    split at e
    · exact h.2 ad (by omega) e
    · cases A with
      | none => cases e
      | some a =>
        have e2 : a.add m = ad := by simpa using e
        have h3 := h.2 a (by omega) rfl
        rw [← e2]
        unfold Addr.add
        split <;> exact h3
theorem SeqRd.of {n₀ Bn : Nat} {fd : Nat} {Bi Bh Br : Nat} {full : List (List ByteArray)} {N : Nat} {w : World}
    (h : ∀ (l : Nat) (J Jx : List (List ByteArray × Value) → World → Prop) (W : World), Below w.heap.size w W → OwnFrom W.heap.size J → OwnFrom W.heap.size Jx → YOk n₀ Bn W.heap.size l N J Jx → J [] W →
      Calls Try.prog 73 #[.func (.yield l) #[] #[], .pointer (some ⟨Bi, 0, none⟩), .pointer (some ⟨Bh, 0, none⟩), .pointer (some ⟨Br, 0, none⟩)] W (ChE full J Jx)) :
    SeqRd Fence.wide fd Try.prog 73 #[.pointer (some ⟨Bi, 0, none⟩), .pointer (some ⟨Bh, 0, none⟩), .pointer (some ⟨Br, 0, none⟩)] (fun x : List ByteArray × Value => #[x.2]) (RdS n₀ Bn) (CK n₀ Bn) (fun xs => xs.map Prod.fst = full) (fun pre => pre.map Prod.fst <+: full) N w := by
  intro l J Jx W hW hJ hJx hY h0
  exact callsIn_wide.2 (h l J Jx W hW hJ hJx (fun pre x V hj hr hl => yieldAt_wide (hY pre x V hj hr hl)) h0)
/-- What is still to come. -/
theorem cho_next (k : Nat) (head rest : List ByteArray) (i : Nat) (h : i < rest.length) : (cho (k + 1) (rest.drop i)).map (head ++ ·) = (cho k (rest.drop (i + 1))).map ((head ++ [rdOf ByteArray.empty rest (i : Int)]) ++ ·) ++ (cho (k + 1) (rest.drop (i + 1))).map (head ++ ·) := by
  have e : rdOf ByteArray.empty rest (i : Int) = rest[i] := by
    unfold rdOf
    rw [show ((i : Int)).toNat = i from rfl, List.getD_eq_getElem?_getD, List.getElem?_eq_getElem h]; rfl
  rw [cho_drop k rest h, List.map_append, List.map_map, e]
  congr 1
  refine List.map_congr_left fun s _ => ?_
  simp
set_option maxRecDepth 100000 in
set_option maxHeartbeats 8000000 in
theorem choose_calls (n₀ Bn : Nat) : ∀ (k : Nat) (Bi Bh Br : Nat) (Ah : Option Addr) (ch : Nat) (head : List ByteArray) (Ar : Option Addr) (cr : Nat) (rest : List ByteArray) (l : Nat) (J Jx : List (List ByteArray × Value) → World → Prop) (W : World), n₀ ≤ W.heap.size → Bn < W.heap.size → head.length + k ≤ 1000 → rest.length ≤ 1000 →
    ChS Bn Bi Bh Br (k : Int) Ah ch head Ar cr rest W → OwnFrom W.heap.size J → OwnFrom W.heap.size Jx → YOk n₀ Bn W.heap.size l (cho k rest).length J Jx → J [] W →
    Calls Try.prog 73 #[.func (.yield l) #[] #[], .pointer (some ⟨Bi, 0, none⟩), .pointer (some ⟨Bh, 0, none⟩), .pointer (some ⟨Br, 0, none⟩)] W (ChE ((cho k rest).map (head ++ ·)) J Jx)
  | 0, Bi, Bh, Br, Ah, ch, head, Ar, cr, rest, l, J, Jx, W, hn, hBn, hh, hrl, hS, hJ, hJx, hY, h0 => by
    have e : (cho 0 rest).map (head ++ ·) = [head] := by rw [cho]; simp
    rw [e]
    rw [cho] at hY
    exact choose0_calls n₀ Bn Bi Bh Br Ah ch head Ar cr rest l J Jx W hn hBn (by omega) hS hJ hY h0
  | k + 1, Bi, Bh, Br, Ah, ch, head, Ar, cr, rest, l, J, Jx, W, hn, hBn, hh, hrl, hS, hJ, hJx, hY, h0 => by
    have IH := Aside0.mk (choose_calls n₀ Bn k)
    obtain ⟨kI, hkI⟩ : ∃ kI : Int, Aside0 (kI = ((k + 1 : Nat) : Int)) := ⟨_, ⟨rfl⟩⟩
    rw [← hkI.out] at hS
    have hk0 : (kI = 0) = False := by rw [hkI.out]; simp; omega
    have hk1 : 1 ≤ kI := by rw [hkI.out]; omega
    have hk2 : kI ≤ 1000 := by rw [hkI.out]; omega
    obtain ⟨full, hfull⟩ : ∃ full, Aside0 ((cho (k + 1) rest).map (head ++ ·) = full) := ⟨_, ⟨rfl⟩⟩
    have hlen : (cho (k + 1) rest).length = full.length := by rw [← hfull.out, List.length_map]
    rw [hfull.out]
    rw [hlen] at hY
    clear hlen
    obtain ⟨W0, hW0⟩ : ∃ W0, Aside0 (W.alloc (.cells #[.func (.yield l) #[] #[]] 69 (0, 0)) = W0) := ⟨_, ⟨rfl⟩⟩
    have HB0 : Aside0 (Below W.heap.size W W0) := ⟨by rw [← hW0.out]; exact below_alloc (Below.refl _ _) _⟩
    have HX : Aside0 (W0.heap[W.heap.size]? = some (.cells #[.func (.yield l) #[] #[]] 69 (0, 0))) := ⟨by rw [← hW0.out]; exact blk_new W _⟩
    have HS0 := Aside0.mk (hS.below HB0.out)
    have HY := Aside0.mk hY
    have HJ := Aside0.mk hJ
    have HJX := Aside0.mk hJx
    have HJ0 : Aside0 (J [] W0) := ⟨hJ _ _ _ none h0 (grown_belowC HB0.out) (by simp)⟩
    have hi0 := blk_cell HS0.out.i 0
    have hr0 := blk_cell HS0.out.r 0
    rw [← hW0.out] at hi0 hr0
    clear hS hJ hJx hY h0
    refine (callsIn_wide (n := 10)).1 ?_
    refine callsIn_of_wp_marks Try.func73 rfl trivial ?_ rfl
    simp only [Try.ntmps73, List.size_toArray, List.length_cons, List.length_nil, Nat.reduceAdd, Nat.reduceSub, Array.replicate_succ, Array.replicate_zero, List.push_toArray, List.append_toArray, List.nil_append, List.cons_append]
    gi_wp2
    rw [hW0.out] at hi0 hr0 ⊢
    refine wpIn_loop (fun a' V => ∃ (i : Nat) (u5 u6 u16 u17 u18 u19 u20 u21 u22 u23 u24 u25 u26 u27 u28 u29 u30 u31 u32 u38 : Value) (ds : List Deferred) (acc : List (List ByteArray × Value)), (i ≤ rest.length ∧ u16 = .int .i64 (i : Int) ∧ Aside0 (J acc V) ∧ Aside0 (ChS Bn Bi Bh Br kI Ah ch head Ar cr rest V) ∧ Aside0 (V.heap[W.heap.size]? = some (.cells #[.func (.yield l) #[] #[]] 69 (0, 0))) ∧ Aside0 (MarksAt W.heap.size V.heap.size ds V) ∧ Aside0 (acc.map Prod.fst ++ (cho (k + 1) (rest.drop i)).map (head ++ ·) = full) ∧ W.heap.size ≤ V.heap.size) ∧ a' = { tmps := #[Value.func (Fn.yield l) #[] #[], Value.pointer (some ⟨Bi, 0, none⟩), Value.pointer (some ⟨Bh, 0, none⟩), Value.pointer (some ⟨Br, 0, none⟩), Value.pointer (some ⟨W.heap.size, 0, none⟩), u5, u6, undef, Value.int IntKind.i64 kI, Value.bool false, undef, undef, undef, undef, Value.slice Ar rest.length cr, Value.int IntKind.i64 (rest.length : Int), u16, u17, u18, u19, u20, u21, u22, u23, u24, u25, u26, u27, u28, u29, u30, u31, u32, undef, undef, undef, undef, undef, u38], defers := ds }) (fun a' _ => rest.length - (intOf (a'.tmps.getD 16 undef)).toNat) ?start ?round
    case start => exact ⟨0, undef, undef, .int .i64 0, undef, undef, undef, undef, undef, undef, undef, undef, undef, undef, undef, undef, undef, undef, undef, undef, undef, [], [], ⟨Nat.zero_le _, rfl, HJ0, HS0, HX, ⟨MarksAt.nil _ _ _⟩, ⟨by rw [List.drop_zero]; exact hfull.out⟩, HB0.out.size⟩, rfl⟩
    case round =>
      clear HJ0 HS0 HX hi0 hr0
      rintro _ wr ⟨i, u5, u6, u16, u17, u18, u19, u20, u21, u22, u23, u24, u25, u26, u27, u28, u29, u30, u31, u32, u38, ds, acc, ⟨hi, hvi, HJi, HSi, HXi, HMi, HAi, hsz⟩, rfl⟩
      subst hvi
      have hBnr : Bn < wr.heap.size := Nat.lt_of_lt_of_le hBn hsz
      have hnr : n₀ ≤ wr.heap.size := Nat.le_trans hn hsz
      by_cases hlt : i < rest.length
      · have hltI : (i : Int) < (rest.length : Int) := by omega
        obtain ⟨ad, eA, hx⟩ := Kd.at_string HSi.out.R.1 (i : Int) (by omega) (by omega)
        cases eA
        obtain ⟨name, hname⟩ : ∃ name, Aside0 (rdOf ByteArray.empty rest (i : Int) = name) := ⟨_, ⟨rfl⟩⟩
        rw [hname.out] at hx
        obtain ⟨A2, hcut, hstr, hlc⟩ := cut_str Bn (some ad) cr rest (i + 1) hlt HSi.out.rc
        have HN := Aside0.mk (cho_next k head rest i hlt)
        rw [hname.out] at HN
        obtain ⟨tail, htail⟩ : ∃ tail, Aside0 (rest.drop (i + 1) = tail) := ⟨_, ⟨rfl⟩⟩
        have htl : tail.length ≤ 1000 := by rw [← htail.out, List.length_drop]; omega
        obtain ⟨c2, hc2⟩ : ∃ c2, Aside0 (cr - (i + 1) = c2) := ⟨_, ⟨rfl⟩⟩
        rw [htail.out] at hstr hlc HN
        rw [hc2.out] at hlc
        replace hcut : ∀ W : World, (Instr.slice 22 (.slice (some ad) rest.length cr) (some (.int .i64 ((i : Int) + 1))) none none).run Try.prog W = .ok (.slice A2 tail.length c2) W := by
          intro W; have := hcut W; rw [htail.out, hc2.out] at this; exact this
        have hLC := Aside0.mk hlc
        have hST := Aside0.mk hstr
        have HH := Aside0.mk (And.intro (blk_cell HSi.out.h 0) (And.intro (blk_cell HSi.out.r 0) (blk_cell HSi.out.i 0)))
        have hw : (Int.toNat (i : Int)) = i := rfl
        have hw28 : IntKind.i64.wrap ((i : Int) + 1) = (i : Int) + 1 := (i64_w _).trans (by unfold wrap64; omega)
        have hw31 : IntKind.i64.wrap (kI - 1) = kI - 1 := (i64_w _).trans (by unfold wrap64; omega)
        rw [hw] at hx
        clear hw hlc hstr
        gi_wp2
        refine codeIn_mono (fun e a w q => only_normal q) (wpIn_wide.2 ?_)
        refine start_ (n := 12) (S := fun w' => w'.cell? ⟨Bh, 0, none⟩ = some (.slice Ah head.length ch) ∧ w'.cell? ⟨Br, 0, none⟩ = some (.slice (some ad) rest.length cr) ∧ w'.cell? ⟨Bi, 0, none⟩ = some (.int .i64 kI)) (ds := []) #[false, false, false, false, false, false, false, false, false, false, false, false] (by kernel_rfl) rfl rfl HH.out (fun hHeld => ?_)
        have HB : Aside0 (Below wr.heap.size wr wr.drew) := ⟨below_drew1 (Below.refl _ _)⟩
        generalize wr.drew = W3 at HB hHeld ⊢
        refine pure_ (i := 2) (N := some 23) (v := ?_) (a' := ?_) #[false, false, true, false, false, false, false, false, false, false, false, false] rfl rfl (by kernel_rfl) (fun _ _ _ h => h) (Or.inl ⟨by rfl, ?_⟩) ?_ ?_
        rotate_left
        · intro w'
          go_simp
          with_reducible rfl
        rotate_left
        · simp only [Act.put, List.setIfInBounds_toArray, List.set_cons_zero, List.set_cons_succ]
          rfl
        refine pure_ (i := 6) (N := some 27) (v := ?_) (a' := ?_) #[false, false, true, false, false, false, true, false, false, false, false, false] rfl rfl (by kernel_rfl) (fun _ _ _ h => h) (Or.inl ⟨by rfl, ?_⟩) ?_ ?_
        rotate_left
        · intro w'
          go_simp
          with_reducible rfl
        rotate_left
        · simp only [Act.put, List.setIfInBounds_toArray, List.set_cons_zero, List.set_cons_succ]
          rfl
        refine pure_ (i := 7) (N := some 28) (v := ?_) (a' := ?_) #[false, false, true, false, false, false, true, true, false, false, false, false] rfl rfl (by kernel_rfl) (fun _ _ _ h => h) (Or.inl ⟨by rfl, ?_⟩) ?_ ?_
        rotate_left
        · intro w'
          go_simp
          with_reducible rfl
        rotate_left
        · simp only [Act.put, List.setIfInBounds_toArray, List.set_cons_zero, List.set_cons_succ]
          rfl
        refine take_ (i := 0) (N := some 21) (v := ?_) (a' := ?_) #[true, false, true, false, false, false, true, true, false, false, false, false] rfl rfl (by kernel_rfl) (fun _ _ _ h => h) (Or.inl ⟨by rfl, ?_⟩) hHeld ?_ ?_
        rotate_left
        · rintro w' ⟨s0, s1, s2⟩
          go_simp
          with_reducible rfl
        rotate_left
        · simp only [Act.put, List.setIfInBounds_toArray, List.set_cons_zero, List.set_cons_succ]
          rfl
        refine take_ (i := 5) (N := some 26) (v := ?_) (a' := ?_) #[true, false, true, false, false, true, true, true, false, false, false, false] rfl rfl (by kernel_rfl) (fun _ _ _ h => h) (Or.inl ⟨by rfl, ?_⟩) hHeld ?_ ?_
        rotate_left
        · rintro w' ⟨s0, s1, s2⟩
          go_simp
          with_reducible rfl
        rotate_left
        · simp only [Act.put, List.setIfInBounds_toArray, List.set_cons_zero, List.set_cons_succ]
          rfl
        refine take_ (i := 9) (N := some 30) (v := ?_) (a' := ?_) #[true, false, true, false, false, true, true, true, false, true, false, false] rfl rfl (by kernel_rfl) (fun _ _ _ h => h) (Or.inl ⟨by rfl, ?_⟩) hHeld ?_ ?_
        rotate_left
        · rintro w' ⟨s0, s1, s2⟩
          go_simp
          with_reducible rfl
        rotate_left
        · simp only [Act.put, List.setIfInBounds_toArray, List.set_cons_zero, List.set_cons_succ]
          rfl
        refine pure_ (i := 8) (N := some 29) (v := ?_) (a' := ?_) #[true, false, true, false, false, true, true, true, true, true, false, false] rfl rfl (by kernel_rfl) (fun _ _ _ h => h) (Or.inl ⟨by rfl, ?_⟩) ?_ ?_
        rotate_left
        · intro w'
          go_simp
          with_reducible rfl
        rotate_left
        · simp only [Act.put, List.setIfInBounds_toArray, List.set_cons_zero, List.set_cons_succ]
          rfl
        refine pure_ (i := 10) (N := some 31) (v := ?_) (a' := ?_) #[true, false, true, false, false, true, true, true, true, true, true, false] rfl rfl (by kernel_rfl) (fun _ _ _ h => h) (Or.inl ⟨by rfl, ?_⟩) ?_ ?_
        rotate_left
        · intro w'
          go_simp
          with_reducible rfl
        rotate_left
        · simp only [Act.put, List.setIfInBounds_toArray, List.set_cons_zero, List.set_cons_succ]
          rfl
        refine join_ (σ := Value × Value) 2 #[true, true, true, true, false, true, true, true, true, true, true, false] (fun s_ => [(22, s_.1), (24, s_.2)]) (fun s_ w' => (w'.cell? ⟨Bh, 0, none⟩ = some (.slice Ah head.length ch) ∧ w'.cell? ⟨Br, 0, none⟩ = some (.slice (some ad) rest.length cr) ∧ w'.cell? ⟨Bi, 0, none⟩ = some (.int .i64 kI)) ∧ w'.ownsRow wr.heap.size 9 1 s_.1 head.length (encs Value.string head) ∧ w'.ownsRow wr.heap.size 9 1 s_.2 [name].length (encs Value.string [name]) ∧ Below wr.heap.size wr w') ?_ ?_
        rotate_left
        · intro hCont
          refine two_ (i := 1) (j := 3) (Ni := some 22) (Nj := some 24) #[true, true, true, false, false, true, true, true, true, true, true, false] #[true, false, true, true, false, true, true, true, true, true, true, false] rfl rfl rfl rfl (by kernel_rfl) (by decide) (by decide) (fun K hK => ?_) (fun K hK => ?_)
          · refine goes_ Try.func56 (by kernel_rfl) rfl #[.slice Ah head.length ch] (by rfl) rfl rfl (by (try simp only [List.map_toArray, List.map_cons, List.map_nil]); first | done | rfl) ?_
            with_reducible refine (clone_calls Ah ch head _ ?side1 ?side2 ?side3).mono ?_
            (case side1 => exact Kd.C_below HSi.out.H.1 HB.out)
            (case side2 => exact HSi.out.hc)
            (case side3 => omega)
            rintro e w4 ⟨v22, rfl, ho, hb⟩
            refine ⟨_, rfl, ?_⟩
            have HO22 := Aside0.mk (own_weaken (Kd.own_of_R ho) HB.out.size)
            have HB4 := Aside0.mk (below_step HB.out hb)
            clear ho hb
            refine hK.out _ _ ⟨(HB4.out.cell (World.block_lt_of_cell? _ _ HH.out.1)).trans HH.out.1, (HB4.out.cell (World.block_lt_of_cell? _ _ HH.out.2.1)).trans HH.out.2.1, (HB4.out.cell (World.block_lt_of_cell? _ _ HH.out.2.2)).trans HH.out.2.2⟩ (fun hHeld => ?_)
            clear hK K
            refine norm_ (a' := ?_) ?_ ?_
            rotate_left
            · show Act.put _ (some 22) _ = _
              simp only [Act.put, List.setIfInBounds_toArray, List.set_cons_zero, List.set_cons_succ]
              rfl
            refine one_ (i := 3) (N := some 24) #[true, true, true, true, false, true, true, true, true, true, true, false] rfl rfl (by kernel_rfl) (by decide) (fun K hK => ?_)
            refine Kd.R_lit_step Kd.string (w0 := wr) wr.heap.size 9 ?hg (N := 24) ?hd (xs := ([name] : List ByteArray)) (inner := [.string name]) (ok := fun _ => True) (okp := fun _ => False) ?hr ?hp (fun _ hk => hk.elim) trivial HB4.out HB4.out.size (by simp) ?_; (case hd => rfl); (case hg => rfl); (case hr => first | (go_simp; done) | (go_simp; rfl)); (case hp => exact (Reps.one (show Kd.M Kd.string _ _ _ name [.string name] from rfl) (Reps.none _ _)))
            intro v24 w5 ho5 hb5 hg5 hnew5
            have HO24 := Aside0.mk (Kd.own_of_R ho5)
            have HO22' := Aside0.mk (own_move HO22.out (fun k hk => hg5.block k (own_lt HO22.out k hk) (by simp)))
            clear ho5 hg5 hnew5
            refine hK.out _ _ ⟨(hb5.cell (World.block_lt_of_cell? _ _ HH.out.1)).trans HH.out.1, (hb5.cell (World.block_lt_of_cell? _ _ HH.out.2.1)).trans HH.out.2.1, (hb5.cell (World.block_lt_of_cell? _ _ HH.out.2.2)).trans HH.out.2.2⟩ (fun hHeld => ?_)
            clear hK K
            refine norm_ (a' := ?_) ?_ ?_
            rotate_left
            · show Act.put _ (some 24) _ = _
              simp only [Act.put, List.setIfInBounds_toArray, List.set_cons_zero, List.set_cons_succ]
              rfl
            exact norm_ (by simp only [putAll, Act.put, List.setIfInBounds_toArray, List.set_cons_zero, List.set_cons_succ]) (hCont (v22, v24) _ ⟨hHeld, HO22'.out, HO24.out, hb5⟩)
          · refine Kd.R_lit_step Kd.string (w0 := wr) wr.heap.size 9 ?hg (N := 24) ?hd (xs := ([name] : List ByteArray)) (inner := [.string name]) (ok := fun _ => True) (okp := fun _ => False) ?hr ?hp (fun _ hk => hk.elim) trivial HB.out HB.out.size (by simp) ?_; (case hd => rfl); (case hg => rfl); (case hr => first | (go_simp; done) | (go_simp; rfl)); (case hp => exact (Reps.one (show Kd.M Kd.string _ _ _ name [.string name] from rfl) (Reps.none _ _)))
            intro v24 w4 ho4 hb4 hg4 hnew4
            have HO24 := Aside0.mk (Kd.own_of_R ho4)
            have HB4 := Aside0.mk hb4
            clear ho4 hg4 hnew4 hb4
            refine hK.out _ _ ⟨(HB4.out.cell (World.block_lt_of_cell? _ _ HH.out.1)).trans HH.out.1, (HB4.out.cell (World.block_lt_of_cell? _ _ HH.out.2.1)).trans HH.out.2.1, (HB4.out.cell (World.block_lt_of_cell? _ _ HH.out.2.2)).trans HH.out.2.2⟩ (fun hHeld => ?_)
            clear hK K
            refine norm_ (a' := ?_) ?_ ?_
            rotate_left
            · show Act.put _ (some 24) _ = _
              simp only [Act.put, List.setIfInBounds_toArray, List.set_cons_zero, List.set_cons_succ]
              rfl
            refine one_ (i := 1) (N := some 22) #[true, true, true, true, false, true, true, true, true, true, true, false] rfl rfl (by kernel_rfl) (by decide) (fun K hK => ?_)
            refine goes_ Try.func56 (by kernel_rfl) rfl #[.slice Ah head.length ch] (by rfl) rfl rfl (by (try simp only [List.map_toArray, List.map_cons, List.map_nil]); first | done | rfl) ?_
            with_reducible refine (clone_calls Ah ch head _ ?side1 ?side2 ?side3).mono ?_
            (case side1 => exact Kd.C_below HSi.out.H.1 HB4.out)
            (case side2 => exact HSi.out.hc)
            (case side3 => omega)
            rintro e w5 ⟨v22, rfl, ho, hb⟩
            refine ⟨_, rfl, ?_⟩
            have HO22 := Aside0.mk (own_weaken (Kd.own_of_R ho) HB4.out.size)
            have hb5 := below_step HB4.out hb
            have HO24' := Aside0.mk (own_move HO24.out (fun k hk => hb.block k (own_lt HO24.out k hk)))
            clear ho hb
            refine hK.out _ _ ⟨(hb5.cell (World.block_lt_of_cell? _ _ HH.out.1)).trans HH.out.1, (hb5.cell (World.block_lt_of_cell? _ _ HH.out.2.1)).trans HH.out.2.1, (hb5.cell (World.block_lt_of_cell? _ _ HH.out.2.2)).trans HH.out.2.2⟩ (fun hHeld => ?_)
            clear hK K
            refine norm_ (a' := ?_) ?_ ?_
            rotate_left
            · show Act.put _ (some 22) _ = _
              simp only [Act.put, List.setIfInBounds_toArray, List.set_cons_zero, List.set_cons_succ]
              rfl
            exact norm_ (by simp only [putAll, Act.put, List.setIfInBounds_toArray, List.set_cons_zero, List.set_cons_succ]) (hCont (v22, v24) _ ⟨hHeld, HO22.out, HO24'.out, hb5⟩)
        rintro ⟨v22, v24⟩ w6 ⟨hHeld, ho22, ho24, hb6⟩
        clear HB
        obtain ⟨A24, c24, e24, hc24, hC24⟩ := Kd.R_reads (Kd.R_of_own (ok := fun _ => True) (h1 := fun _ => rfl) ho24 (fun _ _ => trivial))
        dsimp only at e24 ho22 hC24
        subst e24
        have HO22 := Aside0.mk ho22
        have HC24 := Aside0.mk hC24
        have HB := Aside0.mk hb6
        clear ho22 ho24 hb6 hC24
        refine norm_ (a' := ?_) ?_ ?_
        rotate_left
        · simp only [putAll, Act.put, List.setIfInBounds_toArray, List.set_cons_zero, List.set_cons_succ]
          rfl
        refine one_ (i := 4) (N := some 25) #[true, true, true, true, true, true, true, true, true, true, true, false] rfl rfl (by kernel_rfl) (by decide) (fun K hK => ?_)
        refine Kd.R_append_rows_step Kd.string (w0 := wr) wr.heap.size (by rfl) (.tmp 22) (.tmp 24) 22 9 (.string ⟨#[]⟩) 16 rfl Try.underlying22 info9 rfl (by decide) (by omega) v22 head [name] _ _ _ (fun _ => True) (fun _ => False) rfl rfl ?aO ?aR (fun _ _ h => h) (fun _ h => h.elim) (fun _ _ => trivial) HB.out HB.out.size ?aL ?_
        (case aO => exact Kd.R_of_own (h1 := fun _ => rfl) HO22.out (fun _ _ => trivial))
        (case aR => exact HC24.out)
        (case aL => simp only [List.length_singleton]; omega)
        intro v25 w7 ho7 hb7 hg7 hat7
        clear HB HO22 HC24 hg7 hat7
        have HB := Aside0.mk hb7
        obtain ⟨head2, hh2⟩ : ∃ head2, Aside0 (head ++ [name] = head2) := ⟨_, ⟨rfl⟩⟩
        rw [hh2.out] at ho7
        have hl2 : head2.length + k ≤ 1000 := by rw [← hh2.out, List.length_append, List.length_singleton]; omega
        have hown7 := Kd.own_of_R ho7
        obtain ⟨A25, c25, e25, hc25, hC25⟩ := Kd.R_reads ho7
        subst e25
        have HSt : Aside0 (StR Bn w7 A25 head2) := ⟨⟨hC25, fun ad' h0 e' => by
          have h9 := own_base hown7 ad'.block (by
            obtain ⟨g, cap, h8, _⟩ := hown7.form h0
            injection h8 with h8
            rw [h8] at e'
            cases e'
            rw [h8]; rfl)
          omega⟩⟩
        clear hb7 hown7 hC25 ho7
        refine hK.out _ _ ⟨(HB.out.cell (World.block_lt_of_cell? _ _ HH.out.1)).trans HH.out.1, (HB.out.cell (World.block_lt_of_cell? _ _ HH.out.2.1)).trans HH.out.2.1, (HB.out.cell (World.block_lt_of_cell? _ _ HH.out.2.2)).trans HH.out.2.2⟩ (fun hHeld => ?_)
        clear hK K
        refine norm_ (a' := ?_) ?_ ?_
        rotate_left
        · show Act.put _ (some 25) _ = _
          simp only [Act.put, List.setIfInBounds_toArray, List.set_cons_zero, List.set_cons_succ]
          rfl
        refine one_ (i := 11) (N := some 32) #[true, true, true, true, true, true, true, true, true, true, true, true] rfl rfl (by kernel_rfl) (by decide) (fun K hK => ?_)
        refine goes_ Try.func53 (by kernel_rfl) rfl #[.slice A25 head2.length c25, .slice A2 tail.length c2, .int .i64 (kI - 1)] (by rfl) rfl rfl (by (try simp only [List.map_toArray, List.map_cons, List.map_nil]); first | done | rfl) ?_
        with_reducible refine (choices_calls A25 c25 head2.length A2 c2 tail.length (kI - 1) _).mono ?_
        rintro e w8 ⟨Bi2, Bh2, Br2, rfl, h1, h2, h3, hlo, hb8⟩
        refine ⟨_, rfl, ?_⟩
        have HB8 := Aside0.mk (below_step HB.out hb8)
        have e1 : kI - 1 = (k : Int) := by rw [hkI.out]; omega
        rw [e1] at h1
        have hsz7 := HB.out.size
        have HS8 : Aside0 (ChS Bn Bi2 Bh2 Br2 (k : Int) A25 c25 head2 A2 c2 tail w8) := ⟨⟨h1, h2, h3, ⟨by omega, by omega, by omega⟩, hc25, hLC.out, HSt.out.ck (CK.below (n₀ := w7.heap.size) hb8 (Nat.le_refl _)), (hST.out _ HSi.out.R).ck (CK.below (n₀ := wr.heap.size) HB8.out (Nat.le_refl _))⟩⟩
        clear h1 h2 h3 hlo hb8 e1 hsz7 HB HSt
        refine hK.out _ _ ⟨(HB8.out.cell (World.block_lt_of_cell? _ _ HH.out.1)).trans HH.out.1, (HB8.out.cell (World.block_lt_of_cell? _ _ HH.out.2.1)).trans HH.out.2.1, (HB8.out.cell (World.block_lt_of_cell? _ _ HH.out.2.2)).trans HH.out.2.2⟩ (fun hHeld => ?_)
        clear hK K
        refine norm_ (a' := ?_) ?_ ?_
        rotate_left
        · show Act.put _ (some 32) _ = _
          simp only [Act.put, List.setIfInBounds_toArray, List.set_cons_zero, List.set_cons_succ]
          rfl
        refine done_ (by kernel_rfl) ?_
        have hsz8 := HB8.out.size
        have HJ8 : Aside0 (J acc w8) := ⟨HJ.out _ _ _ none HJi.out (grown_belowC HB8.out) (by simp)⟩
        have HI8 := Aside0.mk (HSi.out.below HB8.out)
        have HX8 := Aside0.mk (blk_below HXi.out HB8.out)
        have HM8 : Aside0 (MarksAt W.heap.size w8.heap.size ds w8) := ⟨(HMi.out.grown (grown_belowC HB8.out) (by simp)).up hsz8⟩
        clear HH HJi HSi HXi HMi HB8 hHeld hx hcut hLC hST
        have hn8 : n₀ ≤ w8.heap.size := by omega
        have hB8 : Bn < w8.heap.size := by omega
        have hw8 : W.heap.size ≤ w8.heap.size := by omega
        clear hsz8
        clear hw28 hw31 hk0
        refine only_mk ?_
        gi_wp2
        have hseq := SeqRd.of (n₀ := n₀) (Bn := Bn) (fd := 9) (Bi := Bi2) (Bh := Bh2) (Br := Br2) (full := (cho k tail).map (head2 ++ ·)) (N := (cho k tail).length) (w := w8) (fun l2 J2 Jx2 W2 hW2 hJ2 hJx2 hY2 h02 => IH.out Bi2 Bh2 Br2 A25 c25 head2 A2 c2 tail l2 J2 Jx2 W2 (Nat.le_trans hn8 hW2.size) (Nat.lt_of_lt_of_le hB8 hW2.size) hl2 htl (HS8.out.below hW2) hJ2 hJx2 hY2 h02)
        have HSQ := Aside0.mk hseq
        rw [hh2.out] at HN
        have HF : Aside0 (acc.map Prod.fst ++ ((cho k tail).map (head2 ++ ·) ++ (cho (k + 1) tail).map (head ++ ·)) = full) := ⟨by rw [← HN.out]; exact HAi.out⟩
        have hfl : acc.length + (cho k tail).length ≤ full.length := by
          rw [← HF.out, List.length_append, List.length_map, List.length_append, List.length_map]; omega
        clear hseq HN HAi IH HS8
        refine range_rd (F := Fence.wide) (n := 10) rfl (by decide) (gf := 73) (lb := #[.pointer (some ⟨Bi2, 0, none⟩), .pointer (some ⟨Bh2, 0, none⟩), .pointer (some ⟨Br2, 0, none⟩)]) rfl trivial (fun args w => enters_ Try.func73 (by kernel_rfl) rfl args w) HSQ.out CK.trans (fun W l o o' => CK.put (w := w8) hn8 W l o o') (Below.refl _ _) (fun _ => rfl)
          (fun pre V => J (acc ++ pre) V ∧ ChS Bn Bi Bh Br kI Ah ch head (some ad) cr rest V ∧ V.heap[W.heap.size]? = some (.cells #[.func (.yield l) #[] #[]] 69 (0, 0)) ∧ MarksAt W.heap.size w8.heap.size ds V ∧ w8.heap.size ≤ V.heap.size)
          (fun c pre V => c = .ret ∧ Jx (acc ++ pre) V ∧ MarksAt W.heap.size w8.heap.size ds V)
          ?hI ?hIx (RdS.own hn8) ⟨by rw [List.append_nil]; exact HJ8.out, HI8.out, HX8.out, HM8.out, Nat.le_refl _⟩
          (fun x => { tmps := #[Value.func (Fn.yield l) #[] #[], Value.pointer (some ⟨Bi, 0, none⟩), Value.pointer (some ⟨Bh, 0, none⟩), Value.pointer (some ⟨Br, 0, none⟩), Value.pointer (some ⟨W.heap.size, 0, none⟩), Value.int IntKind.i64 i, Value.string name, x.2, Value.int IntKind.i64 kI, Value.bool false, undef, undef, undef, undef, Value.slice (some ad) rest.length cr, Value.int IntKind.i64 (rest.length : Int), Value.int IntKind.i64 i, Value.bool true, Value.int IntKind.i64 i, Value.pointer (some (ad.add i)), Value.string name, Value.slice Ah head.length ch, v22, Value.string name, Value.slice A24 [name].length c24, Value.slice A25 head2.length c25, Value.slice (some ad) rest.length cr, Value.int IntKind.i64 i, Value.int IntKind.i64 ((i : Int) + 1), Value.slice A2 tail.length c2, Value.int IntKind.i64 kI, Value.int IntKind.i64 (kI - 1), Value.func (Fn.func 73) #[] #[Value.pointer (some ⟨Bi2, 0, none⟩), Value.pointer (some ⟨Bh2, 0, none⟩), Value.pointer (some ⟨Br2, 0, none⟩)], x.2, undef, undef, undef, undef, u38], defers := [] }) ?assign ?body ?done ?stop
        case hI =>
          rintro s A B row ⟨g1, g2, g3, g4, g5⟩ hg hr
          have hck := CK.grown (n₀ := n₀) (Bn := Bn) hn8 (by omega) hg hr
          refine ⟨HJ.out _ _ _ row g1 hg (fun r e => ⟨Nat.le_trans hw8 (hr r e).1, (hr r e).2⟩), g2.ck hck, hck.2 _ _ _ _ (by omega) g3, g4.grown hg (fun r e => (hr r e).1), Nat.le_trans g5 hg.size⟩
        case hIx =>
          rintro c s A B row ⟨g1, g2, g3⟩ hg hr
          exact ⟨g1, HJX.out _ _ _ row g2 hg (fun r e => ⟨Nat.le_trans hw8 (hr r e).1, (hr r e).2⟩), g3.grown hg (fun r e => (hr r e).1)⟩
        case assign =>
          intro l2 x V K hK
          gi_wp2
          exact hK
        case body =>
          rintro l2 pre x V ⟨g1, g2, g3, g4, g5⟩ hrd hpl
          have hx0 := blk_cell g3 0
          obtain ⟨fn, tmps, assign, body, hy, hR⟩ := HY.out (acc ++ pre) x V g1 hrd (by rw [List.length_append]; omega)
          have HG := Aside0.mk (And.intro g2 (And.intro g3 (And.intro g4 g5)))
          clear g1 g2 g3 g4 hrd
          gi_wp2
          refine RoundIn.mono (roundIn_any hR) ?_
          rintro e W3 ⟨hk, hor⟩
          have hk8 : KeepsFrom w8.heap.size V W3 := ⟨hk.size, fun k o hB h1 h2 => hk.same k o (Nat.le_trans hw8 hB) h1 h2⟩
          have HK := Aside0.mk (And.intro hk8 hk)
          clear hk hk8
          rcases hor with ⟨rfl, hj3, hck⟩ | ⟨rfl, hx3⟩
          · have HJ3 := Aside0.mk hj3
            have HCK := Aside0.mk hck
            clear hj3 hck
            gi_wp2
            exact ⟨HK.out.1, HCK.out, by rw [← List.append_assoc]; exact HJ3.out, HG.out.1.ck HCK.out, HCK.out.2 _ _ _ _ (by omega) HG.out.2.1, HG.out.2.2.1.keep HK.out.2, Nat.le_trans HG.out.2.2.2 HK.out.2.size⟩
          · have HX3 := Aside0.mk hx3
            clear hx3
            gi_wp2
            exact ⟨HK.out.1, rfl, by rw [← List.append_assoc]; exact HX3.out, HG.out.2.2.1.keep HK.out.2⟩
        case done =>
          rintro D xs V hD hSx ⟨g1, g2, g3, g4, g5⟩ hmark
          have HG := Aside0.mk (And.intro g1 (And.intro g2 (And.intro g3 (g4.more hw8 hD hmark))))
          have HSX := Aside0.mk hSx
          clear g1 g2 g3 g4 hmark hSx
          gi_wp2
          refine ⟨⟨i + 1, _, _, _, _, _, _, _, _, _, _, _, _, _, _, _, _, _, _, _, _, mkD D :: ds, acc ++ xs, ⟨hlt, by go_num, ⟨HG.out.1⟩, ⟨HG.out.2.1⟩, ⟨HG.out.2.2.1⟩, ⟨HG.out.2.2.2⟩, ⟨by rw [List.map_append, HSX.out, htail.out, List.append_assoc]; exact HF.out⟩, Nat.le_trans hw8 g5⟩, rfl⟩, ?_⟩
          simp [intOf]; omega
        case stop =>
          rintro D c pre V hD hSp ⟨rfl, g1, g2⟩ hmark
          have HM := Aside0.mk (g2.more hw8 hD hmark)
          have HPx := Aside0.mk hSp
          have HX3 := Aside0.mk g1
          clear g1 g2 hSp hmark
          gi_wp2
          exact HM.out.leave (fun V => results_none rfl _ _ V) (fun _ V => Jx (acc ++ pre) V) (fun s A B row hs hg hr => HJX.out _ _ _ row hs hg hr) (fun V hj => ⟨⟨_, rfl⟩, .inr ⟨acc ++ pre, by rw [← HF.out, List.map_append]; exact (List.prefix_append_right_inj _).2 (HPx.out.trans (List.prefix_append _ _)), hj⟩⟩) HX3.out
      · obtain rfl : i = rest.length := by omega
        have HE : Aside0 (acc.map Prod.fst = full) := ⟨by have := HAi.out; rw [List.drop_length, cho, List.map_nil, List.append_nil] at this; exact this⟩
        clear HAi
        gi_wp2
        exact HMi.out.leave (fun V => results_none rfl _ _ V) (fun _ V => J acc V) (fun s A B row hs hg hr => HJ.out _ _ _ row hs hg hr) (fun V hj => ⟨⟨_, rfl⟩, .inl ⟨acc, HE.out, hj⟩⟩) HJi.out
end Go.Proofs.Ytbcpaojciephmaa.X
end
section
namespace Go.Proofs.Ytbcpaojciephmaa.X
open Go.RowKit Go.Proofs.YtbcpaojciephmaaW.PrintWords
set_option linter.unusedVariables false
theorem addr_off (g j : Nat) : (⟨g, 0, none⟩ : Addr).add j = ⟨g, j, none⟩ := by
  unfold Addr.add
  split
  · rename_i h; rw [h]
  · simp
theorem C_cells {W : World} {g : Nat} (l : List ByteArray) (hl : l.length ≤ 1000) (h : ∀ (j : Nat) (s : ByteArray), l[j]? = some s → W.cell? ⟨g, j, none⟩ = some (.string s)) : Kd.C Kd.string W (some ⟨g, 0, none⟩) l.length l := by
  refine ⟨rfl, by omega, fun _ => ⟨_, rfl, fun j p hj => ⟨[.string p], rfl, rfl, fun i u hu => ?_⟩⟩⟩
  have hi : i = 0 := by
    rcases i with _ | i
    · rfl
    · simp at hu
  subst hi
  simp at hu
  subst hu
  rw [show j * Kd.string.sz + 0 = j from Nat.mul_one j, addr_off]
  exact h j p hj
theorem C_rows {W : World} {g : Nat} (rows : List (List ByteArray)) (hl : rows.length ≤ 1000) (h : ∀ (j : Nat) (r : List ByteArray), rows[j]? = some r → ∃ A c, W.cell? ⟨g, j, none⟩ = some (.slice A r.length c) ∧ r.length ≤ c ∧ Kd.C Kd.string W A r.length r) : Kd.C (Kd.slice 9 Kd.string) W (some ⟨g, 0, none⟩) rows.length rows := by
  refine ⟨rfl, by omega, fun _ => ⟨_, rfl, fun j p hj => ?_⟩⟩
  obtain ⟨A, c, h1, h2, h3⟩ := h j p hj
  refine ⟨[.slice A p.length c], rfl, ⟨A, c, rfl, h2, h3⟩, fun i u hu => ?_⟩
  have hi : i = 0 := by
    rcases i with _ | i
    · rfl
    · simp at hu
  subst hi
  simp at hu
  subst hu
  rw [show j * (Kd.slice 9 Kd.string).sz + 0 = j from Nat.mul_one j, addr_off]
  exact h1
/-- A table is read. -/
structure TabC (W : World) (A0 : Option Addr) (c0 : Nat) (A1 : Option Addr) (c1 : Nat) (T : S25) : Prop where
  l0 : T.f0.length ≤ c0
  C0 : Kd.C Kd.string W A0 T.f0.length T.f0
  l1 : T.f1.length ≤ c1
  C1 : Kd.C (Kd.slice 9 Kd.string) W A1 T.f1.length T.f1
theorem TabC.below {W W' : World} {A0 : Option Addr} {c0 : Nat} {A1 : Option Addr} {c1 : Nat} {T : S25} (h : TabC W A0 c0 A1 c1 T) (hb : Below W.heap.size W W') : TabC W' A0 c0 A1 c1 T := ⟨h.l0, Kd.C_below h.C0 hb, h.l1, Kd.C_below h.C1 hb⟩
theorem TabC.one {W : World} {A0 : Option Addr} {c0 : Nat} {A1 : Option Addr} {c1 : Nat} {T : S25} (h : TabC W A0 c0 A1 c1 T) {g : Nat} (h0 : W.cell? ⟨g, 0, none⟩ = some (.slice A0 T.f0.length c0)) (h1 : W.cell? ⟨g, 1, none⟩ = some (.slice A1 T.f1.length c1)) : Kd.C k25 W (some ⟨g, 0, none⟩) 1 [T] := by
  refine ⟨rfl, by decide, fun _ => ⟨_, rfl, fun j p hj => ?_⟩⟩
  have hj0 : j = 0 := by
    rcases j with _ | j
    · rfl
    · simp at hj
  subst hj0
  simp at hj
  subst hj
  refine ⟨[.slice A0 T.f0.length c0, .slice A1 T.f1.length c1], rfl, k25_mk W T h.l0 h.C0 h.l1 h.C1, fun i u hu => ?_⟩
  rw [Nat.zero_mul, Nat.zero_add, addr_off]
  rcases i with _ | _ | i
  · simp at hu; subst hu; exact h0
  · simp at hu; subst hu; exact h1
  · simp at hu
theorem C_blk {W : World} {g : Nat} {t : TypeId} (l : List ByteArray) (hl : l.length ≤ 1000) (h : W.heap[g]? = some (.cells (l.map Value.string).toArray t (0, 0))) : Kd.C Kd.string W (some ⟨g, 0, none⟩) l.length l :=
  C_cells l hl (fun j s hj => by rw [blk_cell h j]; simp [hj])
theorem name_world {P : Program} {f : FuncId} {args : Array Value} {w : World} {R : Ending → World → Prop} (h : ∀ W, w = W → Calls P f args W R) : Calls P f args w R := h w rfl
end Go.Proofs.Ytbcpaojciephmaa.X
end
section
namespace Go.Proofs.Ytbcpaojciephmaa.GOpen
open Go.RowKit Go.ChangeShapes Go.WideShapes Go.Proofs.YtbcpaojciephmaaW.PrintWords
/-- Whatever reads at type e is of the kind d, and ok. -/
def Opens (P : Program) (e : TypeId) {α : Type} (d : Kd α) (ok : α → Prop) : Prop :=
  ∀ (H : Type) (enc : TypeId × Value → H) (w : World) (base : Nat) (spare : Nat → Bool) (held : Bool) (fuel : Nat) (cs : List Value) (y : DataW H × List MemPlace),
    DataW.trod enc P w base spare held fuel e cs = some y → ∃ x, d.K w x cs ∧ ok x
section
variable {P : Program} {e t : TypeId} {α β : Type} {d : Kd α} {d' : Kd β} {ok : α → Prop} {ok' : β → Prop}
theorem Opens.string (he : P.underlying e = some .string) : Opens P e Kd.string (fun s => s.size ≤ maxLen) := by
  intro H enc w base spare held fuel cs y h
  obtain ⟨s, rfl, _, hs⟩ := DataW.trod_string he h
  exact ⟨s, rfl, hs⟩
theorem Opens.int {k : IntKind} (he : P.underlying e = some (.int k)) : Opens P e (Kd.int k) (fun n => (Lit.int k n).wf = true) := by
  intro H enc w base spare held fuel cs y h
  obtain ⟨s, rfl, _, hs⟩ := DataW.trod_int he h
  exact ⟨s, rfl, hs⟩
theorem Opens.bool (he : P.underlying e = some .bool) : Opens P e Kd.bool (fun _ => True) := by
  intro H enc w base spare held fuel cs y h
  obtain ⟨s, rfl, _⟩ := DataW.trod_bool he h
  exact ⟨s, rfl, trivial⟩
theorem mapM_cells {w : World} {a : Addr} : ∀ {l : List Nat} {cs : List Value}, (l.mapM fun i => w.cell? (a.add i)) = some cs → cs.length = l.length ∧ ∀ (j i : Nat) (u : Value), l[j]? = some i → cs[j]? = some u → w.cell? (a.add i) = some u
  | [], cs, h => by
    simp at h; subst h
    exact ⟨rfl, fun j i u hj _ => by simp at hj⟩
  | i :: l, cs, h => by
    rw [List.mapM_cons] at h
    cases hc : w.cell? (a.add i) with
    | none => rw [hc] at h; simp at h
    | some v =>
      rw [hc] at h
      cases hm : (l.mapM fun i => w.cell? (a.add i)) with
      | none => rw [hm] at h; simp at h
      | some vs =>
        rw [hm] at h
        simp at h
        subst h
        obtain ⟨h1, h2⟩ := mapM_cells hm
        refine ⟨by simp [h1], fun j i' u hj hu => ?_⟩
        cases j with
        | zero => simp at hj hu; subst hj; subst hu; exact hc
        | succ j => simp at hj hu; exact h2 j i' u hj hu
theorem add_add (a : Addr) (n m : Nat) : (a.add n).add m = a.add (n + m) := by
  unfold Addr.add
  by_cases h : n = 0
  · subst h; simp
  · by_cases h2 : m = 0
    · subst h2; simp [h]
    · simp [h, h2, Nat.add_assoc]
theorem cells_at {w : World} {base : Nat} {a : Addr} {n : Nat} {cs : List Value} (h : w.cells? base a n = some cs) : cs.length = n ∧ ∀ j u, cs[j]? = some u → w.cell? (a.add j) = some u := by
  unfold World.cells? at h
  split at h
  · obtain ⟨h1, h2⟩ := mapM_cells h
    rw [List.length_range] at h1
    refine ⟨h1, fun j u hu => h2 j j u ?_ hu⟩
    have := (List.getElem?_eq_some_iff.1 hu).1
    rw [List.getElem?_range (by omega)]
  · cases h
theorem Opens.slice (h : Opens P e d ok) (ht : P.underlying t = some (.slice e)) (hsz : P.cellsOf e = d.sz) : Opens P t (Kd.slice e d) (fun l => l.length ≤ maxLen ∧ ∀ x ∈ l, ok x) := by
  intro H enc w base spare held fuel cs y hy
  rcases DataW.trod_slice ht hy with ⟨rfl, _⟩ | ⟨a, len, cap, elems, rest, n, _, rfl, _, hb, hl, hm, hlen, hel, _, _⟩
  · exact ⟨[], ⟨none, 0, rfl, Nat.le_refl _, rfl, Nat.zero_le _, fun h0 => absurd h0 (by simp)⟩, Nat.zero_le _, fun x hx => by simp at hx⟩
  · have each : ∀ i, i < len → ∃ x, ok x ∧ ∃ c, c.length = d.sz ∧ d.K w x c ∧ ∀ j u, c[j]? = some u → w.cell? (a.add (i * d.sz + j)) = some u := by
      intro i hi
      have h1 := hel i hi
      rw [List.getElem?_eq_getElem (by omega)] at h1
      obtain ⟨c, hc, hr⟩ := Option.bind_eq_some_iff.1 h1
      obtain ⟨x, hK, hok⟩ := h H enc w base spare held n c _ hr
      obtain ⟨h2, h3⟩ := cells_at hc
      rw [hsz] at h2 h3
      exact ⟨x, hok, c, h2, hK, fun j u hu => by rw [← add_add]; exact h3 j u hu⟩
    have pick : ∃ l : List α, l.length = len ∧ ∀ i x, l[i]? = some x → ok x ∧ ∃ c, c.length = d.sz ∧ d.K w x c ∧ ∀ j u, c[j]? = some u → w.cell? (a.add (i * d.sz + j)) = some u := by
      clear hel hlen hy hl
      have aux : ∀ m, m ≤ len → ∃ l : List α, l.length = m ∧ ∀ i x, l[i]? = some x → ok x ∧ ∃ c, c.length = d.sz ∧ d.K w x c ∧ ∀ j u, c[j]? = some u → w.cell? (a.add (i * d.sz + j)) = some u := by
        intro m
        induction m with
        | zero => exact fun _ => ⟨[], rfl, fun i x hx => by simp at hx⟩
        | succ m ih =>
          intro hm'
          obtain ⟨l, hl, hx⟩ := ih (by omega)
          obtain ⟨x, hx'⟩ := each m (by omega)
          refine ⟨l ++ [x], by simp [hl], fun i z hz => ?_⟩
          rcases Nat.lt_or_ge i l.length with hi | hi
          · rw [List.getElem?_append_left hi] at hz; exact hx i z hz
          · have : i = l.length := by
              have := (List.getElem?_eq_some_iff.1 hz).1
              simp at this; omega
            subst this
            simp at hz; subst hz
            rw [hl]; exact hx'
      exact aux len (Nat.le_refl _)
    obtain ⟨l, hl', hx⟩ := pick
    subst hl'
    refine ⟨l, ⟨some a, cap, rfl, hl, rfl, by simp only [maxLen] at hm; omega, fun _ => ⟨a, rfl, fun j p hp => (hx j p hp).2⟩⟩, by omega, fun x hx' => ?_⟩
    obtain ⟨i, hi⟩ := List.getElem?_of_mem hx'
    exact (hx i x hi).1
theorem Opens.iso (h : Opens P e d ok) (f : β → α) (g : α → β) (hfg : ∀ x, f (g x) = x) : Opens P e (Kd.iso d f) (fun y => ok (f y)) := by
  intro H enc w base spare held fuel cs y hy
  obtain ⟨x, hK, hok⟩ := h H enc w base spare held fuel cs y hy
  exact ⟨g x, by show d.K w (f (g x)) cs; rw [hfg]; exact hK, by show ok (f (g x)); rw [hfg]; exact hok⟩
/-- A struct of two fields. -/
theorem Opens.pair {f0 f1 : Field} (h : Opens P f0.type d ok) (h' : Opens P f1.type d' ok') (ht : P.underlying t = some (.struct #[f0, f1])) (hn : P.cellsOf t = d.sz + d'.sz) (h0 : P.cellsOf f0.type = d.sz) (h1 : P.cellsOf f1.type = d'.sz) (o0 : f0.offset = 0) (o1 : f1.offset = d.sz) :
    Opens P t (Kd.pair d d') (fun x => ok x.1 ∧ ok' x.2) := by
  intro H enc w base spare held fuel cs y hy
  obtain ⟨y0, y1, n, _, hl, q0, q1⟩ := trod_struct2 ht hy
  rw [o0, List.drop_zero, h0] at q0
  rw [o1, h1] at q1
  obtain ⟨x0, k0, r0⟩ := h H enc w base spare held n _ _ q0
  obtain ⟨x1, k1, r1⟩ := h' H enc w base spare held n _ _ q1
  refine ⟨(x0, x1), ⟨_, _, ?_, k0, k1⟩, r0, r1⟩
  rw [List.take_of_length_le (l := cs.drop d.sz) (by rw [List.length_drop]; omega), List.take_append_drop]
/-- An argument: a slice. -/
theorem arg_slice {ok'' : List α → Prop} {H : Type} {enc : TypeId × Value → H} {W : World} {base : Nat} {spare : Nat → Bool} {held : Bool} {v : Value} {D : DataW H} {p : List MemPlace} {base' : Nat} {r : Reach}
    (h : Opens P t (Kd.slice e d) ok'') (ht : P.underlying t = some (.slice e)) (hv : Value.okWide P W r base' t v) (hr : DataW.Trod enc P W base spare held t v D p) :
    ∃ A c l, v = .slice A l.length c ∧ l.length ≤ c ∧ d.C W A l.length l ∧ ok'' l := by
  obtain ⟨A, n, c, rfl⟩ := okWide_slice ht hv
  obtain ⟨fuel, hf⟩ := hr
  obtain ⟨l, ⟨A', c', he, hc, hC⟩, hok⟩ := h H enc W base spare held fuel _ _ hf
  simp [Value.cells] at he
  obtain ⟨rfl, rfl, rfl⟩ := he
  exact ⟨A, c, l, rfl, hc, hC, hok⟩
/-- An argument: a struct. -/
theorem arg_struct {H : Type} {enc : TypeId × Value → H} {W : World} {base : Nat} {spare : Nat → Bool} {held : Bool} {v : Value} {D : DataW H} {p : List MemPlace} {base' : Nat} {r : Reach} {fs : Array Field}
    (h : Opens P t d ok) (ht : P.underlying t = some (.struct fs)) (hv : Value.okWide P W r base' t v) (hr : DataW.Trod enc P W base spare held t v D p) :
    ∃ x cs, v = .agg cs ∧ d.K W x cs.toList ∧ ok x := by
  obtain ⟨cs, rfl, _⟩ := okWide_struct ht hv
  obtain ⟨fuel, hf⟩ := hr
  obtain ⟨x, hK, hok⟩ := h H enc W base spare held fuel _ _ hf
  exact ⟨x, cs, rfl, hK, hok⟩
end
end Go.Proofs.Ytbcpaojciephmaa.GOpen
end
section
namespace Go.Proofs.Ytbcpaojciephmaa.X
open Go.RowKit Go.ChangeShapes Go.WideShapes Go.Proofs.YtbcpaojciephmaaW.PrintWords Go.Proofs.Ytbcpaojciephmaa.GOpen
set_option linter.unusedVariables false
def okT9 (x : ByteArray) : Prop := x.size ≤ maxLen
def okT22 (x : List (ByteArray)) : Prop := x.length ≤ maxLen ∧ ∀ y ∈ x, okT9 y
def okT23 (x : List (List (ByteArray))) : Prop := x.length ≤ maxLen ∧ ∀ y ∈ x, okT22 y
def okT25 (x : S25) : Prop := okT22 x.f0 ∧ okT23 x.f1
def okT29 (x : List (S25)) : Prop := x.length ≤ maxLen ∧ ∀ y ∈ x, okT25 y
set_option maxRecDepth 100000 in
theorem opens25 : Opens Try.prog 25 k25 okT25 :=
  (Opens.iso (Opens.pair (Opens.slice (Opens.string Try.underlying9) Try.underlying22 (by kernel_rfl)) (Opens.slice (Opens.slice (Opens.string Try.underlying9) Try.underlying22 (by kernel_rfl)) Try.underlying23 (by kernel_rfl)) Try.underlying25 (by kernel_rfl) (by kernel_rfl) (by kernel_rfl) rfl rfl) (fun x : S25 => (x.f0, x.f1)) (fun p => ⟨p.1, p.2⟩) (fun _ => rfl))
theorem laidOut : laidOutB Try.prog = true := by kernel_rfl
theorem own : ownKnob Try.prog.godebug = none := by kernel_rfl
end Go.Proofs.Ytbcpaojciephmaa.X
end
