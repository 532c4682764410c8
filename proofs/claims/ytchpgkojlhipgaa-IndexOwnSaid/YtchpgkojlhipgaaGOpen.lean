/- Arguments as data: what a reading says of the print's kinds, for any type whose parts are numbers, bools, texts, slices and structs of two or three fields. Over any program. -/
import Derived.Test.YtchpgkojlhipgaaWMore
import Derived.ChangeArms
import Derived.ChangeSame
import Derived.WideShapes
import Derived.ProofKit
import Derived.OpenShut
namespace Go.Proofs.Ytchpgkojlhipgaa.GOpen
open Go.RowKit Go.ChangeShapes Go.WideShapes Go.Proofs.YtchpgkojlhipgaaW.PrintWords

/-- Whatever reads at type e is of the kind d, and ok. -/
def Opens (P : Program) (e : TypeId) {α : Type} (d : Kd α) (ok : α → Prop) : Prop :=
  ∀ (H : Type) (enc : TypeId × Value → H) (w : World) (base : Nat) (spare : Nat → Bool) (held : Bool) (fuel : Nat) (cs : List Value) (y : DataW H × List MemPlace),
    DataW.trod enc P w base spare held fuel e cs = some y → ∃ x, d.K w x cs ∧ ok x

section
variable {P : Program} {e t : TypeId} {α β : Type} {d : Kd α} {d' : Kd β} {ok : α → Prop} {ok' : β → Prop}

theorem Opens.string (he : P.underlying e = some .string) : Opens P e Kd.string (fun s => s.size ≤ maxLen) := by
  intro H enc w base spare held fuel cs y h
  obtain ⟨s, rfl, _, hs⟩ := DataW.trod_string he h
  exact ⟨s, rfl, hs⟩
theorem Opens.int {k : IntKind} (he : P.underlying e = some (.int k)) : Opens P e (Kd.int k) (fun n => (Lit.int k n).wf = true) := by
  intro H enc w base spare held fuel cs y h
  obtain ⟨s, rfl, _, hs⟩ := DataW.trod_int he h
  exact ⟨s, rfl, hs⟩
theorem Opens.bool (he : P.underlying e = some .bool) : Opens P e Kd.bool (fun _ => True) := by
  intro H enc w base spare held fuel cs y h
  obtain ⟨s, rfl, _⟩ := DataW.trod_bool he h
  exact ⟨s, rfl, trivial⟩

theorem mapM_cells {w : World} {a : Addr} : ∀ {l : List Nat} {cs : List Value}, (l.mapM fun i => w.cell? (a.add i)) = some cs → cs.length = l.length ∧ ∀ (j i : Nat) (u : Value), l[j]? = some i → cs[j]? = some u → w.cell? (a.add i) = some u
  | [], cs, h => by
    simp at h; subst h
    exact ⟨rfl, fun j i u hj _ => by simp at hj⟩
  | i :: l, cs, h => by
    rw [List.mapM_cons] at h
    cases hc : w.cell? (a.add i) with
    | none => rw [hc] at h; simp at h
    | some v =>
      rw [hc] at h
      cases hm : (l.mapM fun i => w.cell? (a.add i)) with
      | none => rw [hm] at h; simp at h
      | some vs =>
        rw [hm] at h
        simp at h
        subst h
        obtain ⟨h1, h2⟩ := mapM_cells hm
        refine ⟨by simp [h1], fun j i' u hj hu => ?_⟩
        cases j with
        | zero => simp at hj hu; subst hj; subst hu; exact hc
        | succ j => simp at hj hu; exact h2 j i' u hj hu

theorem add_add (a : Addr) (n m : Nat) : (a.add n).add m = a.add (n + m) := by
  unfold Addr.add
  by_cases h : n = 0
  · subst h; simp
  · by_cases h2 : m = 0
    · subst h2; simp [h]
    · simp [h, h2, Nat.add_assoc]

theorem cells_at {w : World} {base : Nat} {a : Addr} {n : Nat} {cs : List Value} (h : w.cells? base a n = some cs) : cs.length = n ∧ ∀ j u, cs[j]? = some u → w.cell? (a.add j) = some u := by
  unfold World.cells? at h
  split at h
  · obtain ⟨h1, h2⟩ := mapM_cells h
    rw [List.length_range] at h1
    refine ⟨h1, fun j u hu => h2 j j u ?_ hu⟩
    have := (List.getElem?_eq_some_iff.1 hu).1
    rw [List.getElem?_range (by omega)]
  · cases h

theorem Opens.slice (h : Opens P e d ok) (ht : P.underlying t = some (.slice e)) (hsz : P.cellsOf e = d.sz) : Opens P t (Kd.slice e d) (fun l => l.length ≤ maxLen ∧ ∀ x ∈ l, ok x) := by
  intro H enc w base spare held fuel cs y hy
  rcases DataW.trod_slice ht hy with ⟨rfl, _⟩ | ⟨a, len, cap, elems, rest, n, _, rfl, _, hb, hl, hm, hlen, hel, _, _⟩
  · exact ⟨[], ⟨none, 0, rfl, Nat.le_refl _, rfl, Nat.zero_le _, fun h0 => absurd h0 (by simp)⟩, Nat.zero_le _, fun x hx => by simp at hx⟩
  · have each : ∀ i, i < len → ∃ x, ok x ∧ ∃ c, c.length = d.sz ∧ d.K w x c ∧ ∀ j u, c[j]? = some u → w.cell? (a.add (i * d.sz + j)) = some u := by
      intro i hi
      have h1 := hel i hi
      rw [List.getElem?_eq_getElem (by omega)] at h1
      obtain ⟨c, hc, hr⟩ := Option.bind_eq_some_iff.1 h1
      obtain ⟨x, hK, hok⟩ := h H enc w base spare held n c _ hr
      obtain ⟨h2, h3⟩ := cells_at hc
      rw [hsz] at h2 h3
      exact ⟨x, hok, c, h2, hK, fun j u hu => by rw [← add_add]; exact h3 j u hu⟩
    have pick : ∃ l : List α, l.length = len ∧ ∀ i x, l[i]? = some x → ok x ∧ ∃ c, c.length = d.sz ∧ d.K w x c ∧ ∀ j u, c[j]? = some u → w.cell? (a.add (i * d.sz + j)) = some u := by
      clear hel hlen hy hl
      have aux : ∀ m, m ≤ len → ∃ l : List α, l.length = m ∧ ∀ i x, l[i]? = some x → ok x ∧ ∃ c, c.length = d.sz ∧ d.K w x c ∧ ∀ j u, c[j]? = some u → w.cell? (a.add (i * d.sz + j)) = some u := by
        intro m
        induction m with
        | zero => exact fun _ => ⟨[], rfl, fun i x hx => by simp at hx⟩
        | succ m ih =>
          intro hm'
          obtain ⟨l, hl, hx⟩ := ih (by omega)
          obtain ⟨x, hx'⟩ := each m (by omega)
          refine ⟨l ++ [x], by simp [hl], fun i z hz => ?_⟩
          rcases Nat.lt_or_ge i l.length with hi | hi
          · rw [List.getElem?_append_left hi] at hz; exact hx i z hz
          · have : i = l.length := by
              have := (List.getElem?_eq_some_iff.1 hz).1
              simp at this; omega
            subst this
            simp at hz; subst hz
            rw [hl]; exact hx'
      exact aux len (Nat.le_refl _)
    obtain ⟨l, hl', hx⟩ := pick
    subst hl'
    refine ⟨l, ⟨some a, cap, rfl, hl, rfl, by simp only [maxLen] at hm; omega, fun _ => ⟨a, rfl, fun j p hp => (hx j p hp).2⟩⟩, by omega, fun x hx' => ?_⟩
    obtain ⟨i, hi⟩ := List.getElem?_of_mem hx'
    exact (hx i x hi).1

theorem Opens.iso (h : Opens P e d ok) (f : β → α) (g : α → β) (hfg : ∀ x, f (g x) = x) : Opens P e (Kd.iso d f) (fun y => ok (f y)) := by
  intro H enc w base spare held fuel cs y hy
  obtain ⟨x, hK, hok⟩ := h H enc w base spare held fuel cs y hy
  exact ⟨g x, by show d.K w (f (g x)) cs; rw [hfg]; exact hK, by show ok (f (g x)); rw [hfg]; exact hok⟩

/-- A struct of two fields. -/
theorem Opens.pair {f0 f1 : Field} (h : Opens P f0.type d ok) (h' : Opens P f1.type d' ok') (ht : P.underlying t = some (.struct #[f0, f1])) (hn : P.cellsOf t = d.sz + d'.sz) (h0 : P.cellsOf f0.type = d.sz) (h1 : P.cellsOf f1.type = d'.sz) (o0 : f0.offset = 0) (o1 : f1.offset = d.sz) :
    Opens P t (Kd.pair d d') (fun x => ok x.1 ∧ ok' x.2) := by
  intro H enc w base spare held fuel cs y hy
  obtain ⟨y0, y1, n, _, hl, q0, q1⟩ := trod_struct2 ht hy
  rw [o0, List.drop_zero, h0] at q0
  rw [o1, h1] at q1
  obtain ⟨x0, k0, r0⟩ := h H enc w base spare held n _ _ q0
  obtain ⟨x1, k1, r1⟩ := h' H enc w base spare held n _ _ q1
  refine ⟨(x0, x1), ⟨_, _, ?_, k0, k1⟩, r0, r1⟩
  rw [List.take_of_length_le (l := cs.drop d.sz) (by rw [List.length_drop]; omega), List.take_append_drop]

/-- A struct of three fields. -/
theorem Opens.triple {γ : Type} {d'' : Kd γ} {ok'' : γ → Prop} {f0 f1 f2 : Field} (h : Opens P f0.type d ok) (h' : Opens P f1.type d' ok') (h'' : Opens P f2.type d'' ok'') (ht : P.underlying t = some (.struct #[f0, f1, f2]))
    (hn : P.cellsOf t = d.sz + (d'.sz + d''.sz)) (h0 : P.cellsOf f0.type = d.sz) (h1 : P.cellsOf f1.type = d'.sz) (h2 : P.cellsOf f2.type = d''.sz) (o0 : f0.offset = 0) (o1 : f1.offset = d.sz) (o2 : f2.offset = d.sz + d'.sz) :
    Opens P t (Kd.pair d (Kd.pair d' d'')) (fun x => ok x.1 ∧ ok' x.2.1 ∧ ok'' x.2.2) := by
  intro H enc w base spare held fuel cs y hy
  obtain ⟨xs, n, _, _, hl, hlen, hf⟩ := DataW.trod_struct ht hy
  match xs, hlen with
  | [y0, y1, y2], _ =>
    have q0 := hf 0 f0 rfl
    have q1 := hf 1 f1 rfl
    have q2 := hf 2 f2 rfl
    rw [o0, List.drop_zero, h0] at q0
    rw [o1, h1] at q1
    rw [o2, h2] at q2
    obtain ⟨x0, k0, r0⟩ := h H enc w base spare held n _ _ q0
    obtain ⟨x1, k1, r1⟩ := h' H enc w base spare held n _ _ q1
    obtain ⟨x2, k2, r2⟩ := h'' H enc w base spare held n _ _ q2
    refine ⟨(x0, x1, x2), ⟨_, _, ?_, k0, _, _, rfl, k1, k2⟩, r0, r1, r2⟩
    rw [List.take_of_length_le (l := cs.drop (d.sz + d'.sz)) (by rw [List.length_drop]; omega), ← List.drop_drop, List.take_append_drop, List.take_append_drop]

/-- An argument: a slice. -/
theorem arg_slice {ok'' : List α → Prop} {H : Type} {enc : TypeId × Value → H} {W : World} {base : Nat} {spare : Nat → Bool} {held : Bool} {v : Value} {D : DataW H} {p : List MemPlace} {base' : Nat} {r : Reach}
    (h : Opens P t (Kd.slice e d) ok'') (ht : P.underlying t = some (.slice e)) (hv : Value.okWide P W r base' t v) (hr : DataW.Trod enc P W base spare held t v D p) :
    ∃ A c l, v = .slice A l.length c ∧ l.length ≤ c ∧ d.C W A l.length l ∧ ok'' l := by
  obtain ⟨A, n, c, rfl⟩ := okWide_slice ht hv
  obtain ⟨fuel, hf⟩ := hr
  obtain ⟨l, ⟨A', c', he, hc, hC⟩, hok⟩ := h H enc W base spare held fuel _ _ hf
  simp [Value.cells] at he
  obtain ⟨rfl, rfl, rfl⟩ := he
  exact ⟨A, c, l, rfl, hc, hC, hok⟩
/-- An argument: a struct. -/
theorem arg_struct {H : Type} {enc : TypeId × Value → H} {W : World} {base : Nat} {spare : Nat → Bool} {held : Bool} {v : Value} {D : DataW H} {p : List MemPlace} {base' : Nat} {r : Reach} {fs : Array Field}
    (h : Opens P t d ok) (ht : P.underlying t = some (.struct fs)) (hv : Value.okWide P W r base' t v) (hr : DataW.Trod enc P W base spare held t v D p) :
    ∃ x cs, v = .agg cs ∧ d.K W x cs.toList ∧ ok x := by
  obtain ⟨cs, rfl, _⟩ := okWide_struct ht hv
  obtain ⟨fuel, hf⟩ := hr
  obtain ⟨x, hK, hok⟩ := h H enc W base spare held fuel _ _ hf
  exact ⟨x, cs, rfl, hK, hok⟩
end
end Go.Proofs.Ytchpgkojlhipgaa.GOpen
