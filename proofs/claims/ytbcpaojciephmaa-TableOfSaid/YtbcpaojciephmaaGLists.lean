/- table.lists, and the iterator over all names and cells. -/
import Derived.Test.YtbcpaojciephmaaGClone
import Derived.Test.YtbcpaojciephmaaWLast
import Derived.Laws.AppendOwnNone
import Derived.RangeFuncNested
import Derived.RangeFuncBound
import Derived.RangeFuncCalls
import Derived.RangeFuncLeaves
import Derived.RangeFuncBox
import Derived.Shelf.Abstract
import Derived.OwnWalkIn
import Derived.TacticsInMore
import Derived.LoopNIn
import Derived.LoopIn
import Derived.Deep.RegionWith
namespace Go.Proofs.Ytbcpaojciephmaa.X
open Go.RowKit Go.Maps Go.Shelf Go.Proofs.YtbcpaojciephmaaW.PrintWords Go.Proofs.YtbcpaojciephmaaW.PrintLast
set_option linter.unusedVariables false

/-- Rows' cells: each a slice that reads as its row. -/
def CellsOf (w : World) (xs : List (List ByteArray)) (cs : List Value) : Prop := cs.length = xs.length ∧ ∀ (i : Nat) (x : List ByteArray), xs[i]? = some x → ∃ (A : Option Addr) (c : Nat), cs[i]? = some (Value.slice A x.length c) ∧ x.length ≤ c ∧ Kd.C Kd.string w A x.length x
theorem CellsOf.below {w w' : World} {xs : List (List ByteArray)} {cs : List Value} (h : CellsOf w xs cs) (hb : Below w.heap.size w w') : CellsOf w' xs cs :=
  ⟨h.1, fun i x hx => by obtain ⟨A, c, h1, h2, h3⟩ := h.2 i x hx; exact ⟨A, c, h1, h2, Kd.C_below h3 hb⟩⟩
theorem CellsOf.cons {w : World} {x : List ByteArray} {xs : List (List ByteArray)} {A : Option Addr} {c : Nat} {cs : List Value} (hx : Kd.C Kd.string w A x.length x) (hc : x.length ≤ c) (h : CellsOf w xs cs) : CellsOf w (x :: xs) (Value.slice A x.length c :: cs) := by
  refine ⟨by simp [h.1], fun i y hy => ?_⟩
  cases i with
  | zero => simp at hy; subst hy; exact ⟨A, c, rfl, hc, hx⟩
  | succ i => simp at hy; exact h.2 i y hy
theorem CellsOf.one {w : World} {xs : List (List ByteArray)} {cs : List Value} (h : CellsOf w xs cs) : ∀ u ∈ cs, u.oneCell' = true := by
  intro u hu
  obtain ⟨i, hi⟩ := List.getElem?_of_mem hu
  have hlt := (List.getElem?_eq_some_iff.1 hi).1
  have hlt' : i < xs.length := by rw [← h.1]; exact hlt
  obtain ⟨A, c, h1, _⟩ := h.2 i xs[i] (List.getElem?_eq_getElem hlt')
  rw [hi] at h1
  injection h1 with h1
  subst h1
  rfl
theorem cellsOf_mk {w : World} {ad : Addr} {rows : List (List ByteArray)} (h : Kd.C (Kd.slice 9 Kd.string) w (some ad) rows.length rows) : ∃ cs, CellsOf w rows cs ∧ ∀ j u, cs[j]? = some u → w.cell? (ad.add j) = some u := by
  have each : ∀ j x, rows[j]? = some x → ∃ (A : Option Addr) (c : Nat), w.cell? (ad.add j) = some (Value.slice A x.length c) ∧ x.length ≤ c ∧ Kd.C Kd.string w A x.length x := by
    intro j x hx
    have hlt := (List.getElem?_eq_some_iff.1 hx).1
    obtain ⟨ad', e, hc⟩ := h.2.2 (by omega)
    cases e
    obtain ⟨cs, hl, hK, hu⟩ := hc j x hx
    obtain ⟨A, c, rfl, h1, h2⟩ := hK
    have := hu 0 _ rfl
    refine ⟨A, c, ?_, h1, h2⟩
    have e2 : j * (Kd.slice 9 Kd.string).sz + 0 = j := by show j * 1 + 0 = j; omega
    rw [e2] at this
    exact this
  refine ⟨(List.range rows.length).map fun j => (w.cell? (ad.add j)).getD undef, ⟨by simp, fun i x hx => ?_⟩, fun j u hu => ?_⟩
  · obtain ⟨A, c, h1, h2, h3⟩ := each i x hx
    have hlt := (List.getElem?_eq_some_iff.1 hx).1
    refine ⟨A, c, ?_, h2, h3⟩
    rw [List.getElem?_map, List.getElem?_range hlt]
    simp [h1]
  · rw [List.getElem?_map] at hu
    rcases Nat.lt_or_ge j rows.length with hlt | hge
    · rw [List.getElem?_range hlt] at hu
      obtain ⟨A, c, h1, _⟩ := each j rows[j] (List.getElem?_eq_getElem hlt)
      simp [h1] at hu
      rw [h1, hu]
    · rw [List.getElem?_eq_none (by simpa using hge)] at hu
      cases hu
theorem infoSS : (Try.prog.info? 22).map (fun i => (i.zero, i.size, i.bytes)) = some (some (.slice none 0 0), 1, 24) := by kernel_rfl
theorem one_ownsRow (w : World) (u : Value) (e : TypeId) : (w.alloc (.cells #[u] e)).ownsRow w.heap.size e 1 (.slice (some ⟨w.heap.size, 0, none⟩) 1 1) 1 [u] :=
  ⟨rfl, .inr ⟨w.heap.size, 1, #[u], rfl, Nat.le_refl _, blk_new w _, Nat.le_refl _, by decide, rfl, rfl⟩⟩
theorem below_own_grown {w w1 w2 : World} {v : Value} {base n z : Nat} {e : TypeId} {xs : List Value} (ho : w1.ownsRow base e z v n xs) (hbs : base ≤ w1.heap.size) (hb : Below base w w1) (hg : w1.grownBy w2 v.ownBlock) : Below base w w2 :=
  hb.grown hg hbs (fun k hk => own_base ho k hk)

set_option maxRecDepth 100000 in
set_option maxHeartbeats 800000 in
theorem lists_calls (A0 : Option Addr) (c0 : Nat) (hd : List ByteArray) (A1 : Option Addr) (c1 : Nat) (rows : List (List ByteArray)) (w0 w : World) (hlo : Below w0.heap.size w0 w) (hr0 : Kd.C Kd.string w0 A0 hd.length hd) (hc0 : hd.length ≤ c0) (hr1 : Kd.C (Kd.slice 9 Kd.string) w0 A1 rows.length rows) (hl : rows.length ≤ 1000000) :
    Calls Try.prog 70 #[.slice A0 hd.length c0, .slice A1 rows.length c1] w fun e w' => ∃ v cs, e = .returned v ∧ CellsOf w0 (hd :: rows) cs ∧ w'.ownsRow w.heap.size 22 1 v cs.length cs ∧ Below w.heap.size w w' := by
  obtain ⟨i0, hi, hz0, hz1, hz2⟩ := info_parts infoSS
  have h1 := Aside0.mk (one_ownsRow w (.slice A0 hd.length c0) 22)
  have hB := Aside0.mk (below_alloc (Below.refl w.heap.size w) (.cells #[.slice A0 hd.length c0] 22))
  rcases A1 with _ | ad
  · have h0 : rows.length = 0 := by
      rcases Nat.eq_zero_or_pos rows.length with h | h
      · exact h
      · obtain ⟨ad, e, _⟩ := hr1.2.2 h; cases e
    obtain rfl := List.eq_nil_of_length_eq_zero h0
    have HC := Aside0.mk (CellsOf.cons hr0 hc0 (⟨rfl, fun i x hx => by simp at hx⟩ : CellsOf w0 [] []))
    clear hr0 hr1
    go_enter Try.func70, Try.ntmps70
    go_wp2_with (first
      | (at_builtin; refine wpList_append_own_none rfl _ _ 23 rfl w.heap.size 22 i0 1 Try.underlying23 hi _ _ _ rfl h1.out rfl ?_))
    go_ret
    exact ⟨_, _, rfl, HC.out, h1.out, hB.out⟩
  · obtain ⟨cs, hcs, hcell⟩ := cellsOf_mk hr1
    have HC := Aside0.mk (CellsOf.cons hr0 hc0 hcs)
    have HN := Aside0.mk (fun j u (hu : cs[j]? = some u) => ((hlo.trans (hB.out.mono hlo.size)).cell (World.block_lt_of_cell? _ _ (hcell j u hu))).trans (hcell j u hu))
    have HO := Aside0.mk hcs.one
    have hcl := hcs.1
    have hml : 1 + rows.length ≤ maxLen := by unfold maxLen; omega
    have hml2 : (1 + rows.length) * 24 ≤ 140737488355328 := by omega
    have hbs := hB.out.size
    clear hr0 hr1 hcs hcell
    go_enter Try.func70, Try.ntmps70
    go_wp2_with (first
      | (at_builtin; refine wpList_append_own _ rfl _ _ 23 rfl w.heap.size 22 i0 _ 1 24 Try.underlying23 hi hz0 hz1 hz2 rfl (by decide) _ _ _ rfl h1.out ad rows.length c1 cs rfl (by rw [hcl]; omega) HN.out HO.out hml hml2 hbs ?_; intro v' w1 hown' hgrow _))
    go_ret
    refine ⟨_, _, rfl, HC.out, ?_, below_own_grown h1.out hbs hB.out hgrow⟩
    rw [List.length_cons, hcl, Nat.add_comm]
    exact hown'
end Go.Proofs.Ytbcpaojciephmaa.X
