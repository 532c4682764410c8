/- Groups of rows, parted by columns: when none is left, rows are told apart. Plain. -/
import Derived.Test.YtchpgkojlhipgaaWMore
namespace Go.Proofs.Ytchpgkojlhipgaa.X
set_option linter.unusedVariables false
section
variable (cell : Int → Int → ByteArray)
/-- Those of a group that have the same cell. -/
def clsR (g : List Int) (c i : Int) : List Int := g.filter fun j => decide (cell j c = cell i c)
/-- What one row leaves: its group, if it stands ahead in it, and isn't alone. -/
def partQ (g : List Int) (c i : Int) : List (List Int) := if 1 < (clsR cell g c i).length ∧ (clsR cell g c i).head? = some i then [clsR cell g c i] else []
def partG (g : List Int) (c : Int) : List (List Int) := g.flatMap (partQ cell g c)
def splitR (G : List (List Int)) (c : Int) : List (List Int) := G.flatMap fun g => partG cell g c
def allR (n : Nat) : List Int := (List.range n).map fun i : Nat => (i : Int)
def groupsR (n : Nat) (cols : List Int) : List (List Int) := cols.foldl (splitR cell) [allR n]
theorem mem_cls {g : List Int} {c i j : Int} : j ∈ clsR cell g c i ↔ j ∈ g ∧ cell j c = cell i c := by
  unfold clsR
  rw [List.mem_filter, decide_eq_true_eq]
theorem cls_congr {g : List Int} {c i j : Int} (h : cell j c = cell i c) : clsR cell g c j = clsR cell g c i := by
  unfold clsR; rw [h]
theorem two_of {l : List Int} {i j : Int} (hi : i ∈ l) (hj : j ∈ l) (hne : i ≠ j) : 1 < l.length := by
  match l with
  | [] => cases hi
  | [a] =>
    rw [List.mem_singleton] at hi hj
    exact absurd (hi.trans hj.symm) hne
  | a :: b :: r => simp
theorem mem_partG {g l : List Int} {c : Int} : l ∈ partG cell g c ↔ ∃ i, i ∈ g ∧ 1 < (clsR cell g c i).length ∧ (clsR cell g c i).head? = some i ∧ l = clsR cell g c i := by
  unfold partG
  rw [List.mem_flatMap]
  constructor
  · rintro ⟨i, hi, hl⟩
    unfold partQ at hl
    split at hl
    · rename_i h
      exact ⟨i, hi, h.1, h.2, List.mem_singleton.1 hl⟩
    · cases hl
  · rintro ⟨i, hi, h1, h2, rfl⟩
    refine ⟨i, hi, ?_⟩
    unfold partQ
    rw [if_pos ⟨h1, h2⟩]; exact List.mem_singleton.2 rfl
theorem part_both {g : List Int} {c i j : Int} (hi : i ∈ g) (hj : j ∈ g) (hne : i ≠ j) (he : cell j c = cell i c) : ∃ l ∈ partG cell g c, i ∈ l ∧ j ∈ l := by
  have h1 : i ∈ clsR cell g c i := (mem_cls cell).2 ⟨hi, rfl⟩
  have h2 : j ∈ clsR cell g c i := (mem_cls cell).2 ⟨hj, he⟩
  obtain ⟨a, r, hr⟩ : ∃ a r, clsR cell g c i = a :: r := by
    cases h : clsR cell g c i with
    | nil => rw [h] at h1; cases h1
    | cons a r => exact ⟨a, r, rfl⟩
  have ha := (mem_cls cell).1 (show a ∈ clsR cell g c i by rw [hr]; exact List.mem_cons_self)
  have hc := cls_congr cell (g := g) ha.2
  refine ⟨clsR cell g c i, (mem_partG cell).2 ⟨a, ha.1, ?_, ?_, hc.symm⟩, h1, h2⟩
  · rw [hc]; exact two_of h1 h2 hne
  · rw [hc, hr]; rfl
/-- What the groups tell, when they were parted by some columns. -/
structure Grp (n : Nat) (P : List Int) (G : List (List Int)) : Prop where
  nd : ∀ g ∈ G, g.Nodup
  rng : ∀ g ∈ G, ∀ i ∈ g, 0 ≤ i ∧ i < (n : Int)
  two : P ≠ [] → ∀ g ∈ G, 1 < g.length
  iff : ∀ i j : Int, 0 ≤ i → i < (n : Int) → 0 ≤ j → j < (n : Int) → i ≠ j → ((∃ g ∈ G, i ∈ g ∧ j ∈ g) ↔ ∀ c ∈ P, cell j c = cell i c)
theorem mem_allR {n : Nat} {i : Int} : i ∈ allR n ↔ 0 ≤ i ∧ i < (n : Int) := by
  unfold allR
  rw [List.mem_map]
  constructor
  · rintro ⟨k, hk, rfl⟩
    have := List.mem_range.1 hk
    omega
  · rintro ⟨h0, h1⟩
    exact ⟨i.toNat, List.mem_range.2 (by omega), by omega⟩
theorem allR_nodup (n : Nat) : (allR n).Nodup := by
  unfold allR
  rw [List.Nodup, List.pairwise_map]
  exact (List.nodup_range (n := n)).imp (fun h e => h (by omega))
theorem grp_start (n : Nat) : Grp cell n [] [allR n] :=
  ⟨fun g hg => by rw [List.mem_singleton.1 hg]; exact allR_nodup n, fun g hg i hi => by rw [List.mem_singleton.1 hg] at hi; exact mem_allR.1 hi, fun h => absurd rfl h,
    fun i j h0 h1 h2 h3 _ => ⟨fun _ c hc => (by cases hc), fun _ => ⟨allR n, List.mem_singleton.2 rfl, mem_allR.2 ⟨h0, h1⟩, mem_allR.2 ⟨h2, h3⟩⟩⟩⟩
theorem grp_step {n : Nat} {P : List Int} {G : List (List Int)} (h : Grp cell n P G) (c : Int) : Grp cell n (P ++ [c]) (splitR cell G c) := by
  have hm : ∀ l, l ∈ splitR cell G c → ∃ g ∈ G, ∃ i, i ∈ g ∧ 1 < (clsR cell g c i).length ∧ l = clsR cell g c i := by
    intro l hl
    unfold splitR at hl
    obtain ⟨g, hg, hl⟩ := List.mem_flatMap.1 hl
    obtain ⟨i, hi, h1, _, rfl⟩ := (mem_partG cell).1 hl
    exact ⟨g, hg, i, hi, h1, rfl⟩
  refine ⟨fun l hl => ?_, fun l hl i hi => ?_, fun _ l hl => ?_, fun i j h0 h1 h2 h3 hne => ⟨?_, fun ha => ?_⟩⟩
  · obtain ⟨g, hg, i, _, _, rfl⟩ := hm l hl
    exact (h.nd g hg).filter _
  · obtain ⟨g, hg, i', _, _, rfl⟩ := hm l hl
    exact h.rng g hg i ((mem_cls cell).1 hi).1
  · obtain ⟨g, _, i, _, h1, rfl⟩ := hm l hl
    exact h1
  · rintro ⟨l, hl, hi, hj⟩ c' hc'
    obtain ⟨g, hg, k, _, _, rfl⟩ := hm l hl
    have gi := (mem_cls cell).1 hi
    have gj := (mem_cls cell).1 hj
    rcases List.mem_append.1 hc' with h4 | h4
    · exact (h.iff i j h0 h1 h2 h3 hne).1 ⟨g, hg, gi.1, gj.1⟩ c' h4
    · rw [List.mem_singleton.1 h4, gi.2, gj.2]
  · obtain ⟨g, hg, hi, hj⟩ := (h.iff i j h0 h1 h2 h3 hne).2 (fun c' hc' => ha c' (List.mem_append.2 (.inl hc')))
    obtain ⟨l, hl, g1, g2⟩ := part_both cell hi hj hne (ha c (List.mem_append.2 (.inr (List.mem_singleton.2 rfl))))
    exact ⟨l, List.mem_flatMap.2 ⟨g, hg, hl⟩, g1, g2⟩
theorem grp_all {n : Nat} : ∀ (cols P : List Int) (G : List (List Int)), Grp cell n P G → Grp cell n (P ++ cols) (cols.foldl (splitR cell) G)
  | [], P, G, h => by simpa using h
  | c :: r, P, G, h => by
    have := grp_all r (P ++ [c]) _ (grp_step cell h c)
    simpa using this
/-- NO GROUP IS LEFT just if rows are told apart. -/
theorem groups_nil {n : Nat} {cols : List Int} (hc : cols ≠ []) : groupsR cell n cols = [] ↔ ∀ i j : Int, 0 ≤ i → i < (n : Int) → 0 ≤ j → j < (n : Int) → i ≠ j → ∃ c ∈ cols, cell j c ≠ cell i c := by
  have h := grp_all cell cols [] _ (grp_start cell n)
  rw [List.nil_append] at h
  constructor
  · intro hn i j h0 h1 h2 h3 hne
    refine Classical.byContradiction fun hno => ?_
    have ha : ∀ c ∈ cols, cell j c = cell i c := fun c hc => Classical.byContradiction fun hx => hno ⟨c, hc, hx⟩
    obtain ⟨g, hg, _⟩ := (h.iff i j h0 h1 h2 h3 hne).2 ha
    rw [show cols.foldl (splitR cell) [allR n] = [] from hn] at hg
    cases hg
  · intro ha
    refine List.eq_nil_iff_forall_not_mem.2 fun g hg => ?_
    have h2 := h.two hc g hg
    have hnd := h.nd g hg
    have hr := h.rng g hg
    match g, h2, hnd, hr, hg with
    | a :: b :: r, _, hnd, hr, hg =>
      have ra := hr a List.mem_cons_self
      have rb := hr b (List.mem_cons_of_mem _ List.mem_cons_self)
      have hne : a ≠ b := fun e => (List.nodup_cons.1 hnd).1 (by rw [e]; exact List.mem_cons_self)
      obtain ⟨c, hc', hx⟩ := ha a b ra.1 ra.2 rb.1 rb.2 hne
      exact hx ((h.iff a b ra.1 ra.2 rb.1 rb.2 hne).1 ⟨_, hg, List.mem_cons_self, List.mem_cons_of_mem _ List.mem_cons_self⟩ c hc')
end
end Go.Proofs.Ytchpgkojlhipgaa.X
