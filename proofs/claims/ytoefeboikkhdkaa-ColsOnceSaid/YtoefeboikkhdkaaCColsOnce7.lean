/- The texts that the law ColsOnce wants, part 7 of 7: what is kept of them. -/
import Derived.KernelRfl
import Derived.Test.YtoefeboikkhdkaaCColsOnce6
section
namespace Go.Proofs.Ytoefeboikkhdkaa.X.Gr
open Go.RowKit Go.Proofs.YtoefeboikkhdkaaW.PrintWords
set_option linter.unusedVariables false
end Go.Proofs.Ytoefeboikkhdkaa.X.Gr
end
section
namespace Go.Proofs.Ytoefeboikkhdkaa.X.Gr
open Go.RowKit Go.Proofs.YtoefeboikkhdkaaW.PrintWords
set_option linter.unusedVariables false
theorem mem_sortC {l : List SC} {x : SC} : x ∈ sortC l ↔ x ∈ l := (perm_isort leC l).mem_iff
theorem fold_from (L : List SC) : ∀ (out : List PS) (z : PS), z ∈ L.foldl stepK out → z ∈ out ∨ ∃ x ∈ L, z = ⟨x.f0, x.f1⟩ ∧ 0 ≤ x.f0 ∧ 0 ≤ x.f1 := by
  induction L with
  | nil => intro out z h; exact .inl h
  | cons x L ih =>
    intro out z h
    rcases ih _ _ h with h | ⟨y, hy, e⟩
    · unfold stepK at h
      split at h
      · exact .inl h
      · rename_i hc
        rcases List.mem_append.1 h with h | h
        · exact .inl h
        · simp only [List.mem_singleton] at h
          exact .inr ⟨x, List.mem_cons_self, h, by omega, by omega⟩
    · exact .inr ⟨y, List.mem_cons_of_mem _ hy, e⟩
theorem pickL_from {l : List SC} {z : PS} (h : z ∈ pickL l) : ∃ x ∈ l, z = ⟨x.f0, x.f1⟩ ∧ 0 ≤ x.f0 ∧ 0 ≤ x.f1 := by
  rcases fold_from _ _ _ h with h | ⟨x, hx, e⟩
  · cases h
  · exact ⟨x, mem_sortC.1 hx, e⟩
theorem mem_pick {l : List SC} {z : PS} : z ∈ pickR l ↔ z ∈ pickL l := mem_fold
theorem stepK_nd0 {out : List PS} (h : (out.map (·.f0)).Nodup) (x : SC) : ((stepK out x).map (·.f0)).Nodup := by
  unfold stepK
  split
  · exact h
  · rename_i hc
    rw [List.map_append]
    refine List.nodup_append.2 ⟨h, by simp, fun a ha b hb e => ?_⟩
    simp only [List.map_cons, List.map_nil, List.mem_singleton] at hb
    subst hb; subst e
    exact hc (.inr (.inr (.inl (List.count_pos_iff.2 ha))))
theorem pickL_nd0 (l : List SC) : ((pickL l).map (·.f0)).Nodup := by
  unfold pickL
  suffices h : ∀ (xs : List SC) (out : List PS), (out.map (·.f0)).Nodup → ((xs.foldl stepK out).map (·.f0)).Nodup from h _ [] List.nodup_nil
  intro xs
  induction xs with
  | nil => intro out h; exact h
  | cons x xs ih => intro out h; exact ih _ (stepK_nd0 h x)
theorem pickL_nd1 (l : List SC) : ((pickL l).map (·.f1)).Nodup := by have := atK_nd l l.length; rwa [atK_all] at this
theorem pick_pm (l : List SC) : (pickR l).Perm (pickL l) := by
  have := perm_fold (pickL l) []
  rwa [List.append_nil] at this
theorem pick_nd0 (l : List SC) : ((pickR l).map (·.f0)).Nodup := ((pick_pm l).map (·.f0)).symm.nodup (pickL_nd0 l)
theorem pick_str (l : List SC) : StrB (pickR l) := str_of (sort_fold _ _ List.Pairwise.nil) (((pick_pm l).map (·.f1)).symm.nodup (pickL_nd1 l))
theorem pick_len (l : List SC) : (pickR l).length ≤ l.length := by
  have h1 := (pick_pm l).length_eq
  have h2 := atK_len l l.length
  rw [atK_all] at h2
  omega
end Go.Proofs.Ytoefeboikkhdkaa.X.Gr
end
section
namespace Go.Proofs.Ytoefeboikkhdkaa.X
open Go.RowKit Go.Proofs.YtoefeboikkhdkaaW.PrintWords
set_option linter.unusedVariables false
set_option maxRecDepth 100000 in
theorem works13 : ∀ k, tartanlaw13_works.f (k + 60) = some true := by intro k; kernel_rfl
theorem fuel13 : ∃ k : Nat, 1000000000 ≤ k := ⟨1000000000, Nat.le_refl _⟩
/-- Where a name is, the first time; -1: nowhere. -/
def findF : List ByteArray → ByteArray → Nat → Int
  | [], _, _ => -1
  | x :: r, s, i => if x = s then (i : Int) else findF r s (i + 1)
def findR (l : List ByteArray) (s : ByteArray) : Int := findF l s 0
theorem rdB_get {l : List ByteArray} {i : Nat} (h : i < l.length) : rdB l (i : Int) = l[i] := by
  show l.getD i _ = _
  rw [List.getD_eq_getElem?_getD, List.getElem?_eq_getElem h]; rfl
theorem findF_at (l : List ByteArray) (s : ByteArray) : ∀ (d i : Nat), i + d = l.length → (∀ j : Nat, j < i → rdB l (j : Int) ≠ s) → FindAt l s (findF (l.drop i) s i) := by
  intro d
  induction d with
  | zero =>
    intro i hi h
    rw [List.drop_eq_nil_of_le (by omega)]
    exact .inl ⟨rfl, fun j hj => h j (by omega)⟩
  | succ d ih =>
    intro i hi h
    rw [List.drop_eq_getElem_cons (by omega)]
    show FindAt l s (if l[i] = s then (i : Int) else findF (l.drop (i + 1)) s (i + 1))
    by_cases e : l[i] = s
    · rw [if_pos e]
      exact .inr ⟨i, rfl, by omega, by rw [rdB_get (by omega)]; exact e, h⟩
    · rw [if_neg e]
      refine ih (i + 1) (by omega) (fun j hj => ?_)
      rcases Nat.lt_or_ge j i with h1 | h1
      · exact h j h1
      · obtain rfl : j = i := by omega
        rw [rdB_get (by omega)]; exact e
theorem findAt_R (l : List ByteArray) (s : ByteArray) : FindAt l s (findR l s) := by
  have := findF_at l s l.length 0 (by omega) (fun j hj => by omega)
  rwa [List.drop_zero] at this
theorem find_R (l : List ByteArray) (rows : List (List ByteArray)) (s : ByteArray) (hl : l.length ≤ 1000) {k : Nat} (hk : 2000 ≤ k) : table_Find.f k l rows s = some (findR l s) := by
  obtain ⟨r, h1, h2⟩ := find_some l rows s hl hk
  rw [h2, h1.uniq (findAt_R l s)]
theorem findR_pos {l : List ByteArray} {s : ByteArray} (h : 0 ≤ findR l s) : ∃ i : Nat, findR l s = i ∧ ∃ hi : i < l.length, l[i] = s := by
  rcases findAt_R l s with ⟨e, _⟩ | ⟨i, e, hi, he, _⟩
  · omega
  · exact ⟨i, e, hi, by rw [← rdB_get hi]; exact he⟩
theorem findR_mem {l : List ByteArray} {s : ByteArray} : 0 ≤ findR l s ↔ s ∈ l := by
  constructor
  · intro h
    obtain ⟨i, _, hi, e⟩ := findR_pos h
    rw [← e]; exact List.getElem_mem hi
  · intro h
    rcases findAt_R l s with ⟨_, hn⟩ | ⟨i, e, _, _, _⟩
    · obtain ⟨j, hj, e⟩ := List.getElem_of_mem h
      exact absurd (by rw [rdB_get hj]; exact e) (hn j hj)
    · rw [e]; exact Int.natCast_nonneg i
/-- The columns of the same name, of the first so many. -/
def nameQ (ha hb : List ByteArray) (q : Nat) : List PS := if 0 ≤ findR ha (rdB hb (q : Int)) then [⟨findR ha (rdB hb (q : Int)), (q : Int)⟩] else []
def nameK (ha hb : List ByteArray) (n : Nat) : List PS := (List.range n).flatMap (nameQ ha hb)
def namedR (ha hb : List ByteArray) : List PS := nameK ha hb hb.length
theorem nameK_succ (ha hb : List ByteArray) (n : Nat) : nameK ha hb (n + 1) = nameK ha hb n ++ nameQ ha hb n := by unfold nameK; rw [List.range_succ, List.flatMap_append]; simp
theorem nameK_len (ha hb : List ByteArray) : ∀ n, (nameK ha hb n).length ≤ n
  | 0 => by simp [nameK]
  | n + 1 => by
    have h1 := nameK_len ha hb n
    have h2 : (nameQ ha hb n).length ≤ 1 := by unfold nameQ; split <;> simp
    rw [nameK_succ, List.length_append]; omega
theorem mem_nameK {ha hb : List ByteArray} {n : Nat} {z : PS} : z ∈ nameK ha hb n ↔ ∃ q : Nat, q < n ∧ 0 ≤ findR ha (rdB hb (q : Int)) ∧ z = ⟨findR ha (rdB hb (q : Int)), (q : Int)⟩ := by
  unfold nameK
  rw [List.mem_flatMap]
  constructor
  · rintro ⟨q, hq, hz⟩
    unfold nameQ at hz
    split at hz
    · rename_i h
      exact ⟨q, List.mem_range.1 hq, h, List.mem_singleton.1 hz⟩
    · cases hz
  · rintro ⟨q, hq, h, rfl⟩
    refine ⟨q, List.mem_range.2 hq, ?_⟩
    unfold nameQ
    rw [if_pos h]; simp
theorem named_l0 (ha : List ByteArray) (ra : List (List ByteArray)) (hb : List ByteArray) (h1 : ha.length ≤ 1000) (h2 : hb.length ≤ 1000) : ∀ (d k i : Nat), i + d = hb.length → d + 2000 < k → cols_Named.l0 k (nameK ha hb i) hb (hb.length : Int) (i : Nat) ha ra = some (namedR ha hb) := by
  intro d
  induction d with
  | zero =>
    intro k i hi hk
    obtain ⟨k, rfl⟩ : ∃ m, k = m + 1 := ⟨k - 1, by omega⟩
    simp only [cols_Named.l0]
    rw [if_neg (by omega), show i = hb.length by omega]; rfl
  | succ d ih =>
    intro k i hi hk
    obtain ⟨k, rfl⟩ : ∃ m, k = m + 1 := ⟨k - 1, by omega⟩
    have hl := nameK_len ha hb i
    have hI := ih k (i + 1) (by omega) (by omega)
    rw [nameK_succ] at hI
    simp only [cols_Named.l0]
    rw [if_pos (by omega), if_pos (by omega), if_pos (by omega), find_R _ _ _ h1 (by omega), Option.bind_some, wrap_upF _ (by omega)]
    unfold nameQ at hI
    split
    · rename_i h
      rw [if_pos h] at hI
      rw [if_pos (by omega)]; exact hI
    · rename_i h
      rw [if_neg (by omega), List.append_nil] at hI
      exact hI
theorem named_some (ha : List ByteArray) (ra : List (List ByteArray)) (hb : List ByteArray) (rb : List (List ByteArray)) (h1 : ha.length ≤ 100) (h2 : hb.length ≤ 100) {k : Nat} (hk : 2200 ≤ k) : cols_Named.f k ha ra hb rb = some (namedR ha hb) :=
  named_l0 ha ra hb (by omega) (by omega) hb.length k 0 (by omega) (by omega)
theorem nameK_str (ha hb : List ByteArray) : ∀ n, Gr.StrB (nameK ha hb n)
  | 0 => by simp [nameK, Gr.StrB]
  | n + 1 => by
    rw [nameK_succ]
    refine List.pairwise_append.2 ⟨nameK_str ha hb n, by unfold nameQ; split <;> simp, fun a h1 b h2 => ?_⟩
    obtain ⟨q, hq, _, rfl⟩ := mem_nameK.1 h1
    unfold nameQ at h2
    split at h2
    · rw [List.mem_singleton.1 h2]
      show (q : Int) < (n : Int)
      omega
    · cases h2
theorem str_nd1 {l : List PS} (h : Gr.StrB l) : (l.map (·.f1)).Nodup := by
  rw [List.Nodup, List.pairwise_map]
  exact h.imp (fun h e => by have h' := h; have : (_ : PS).f1 < _ := h'; omega)
theorem named_at {ha hb : List ByteArray} {z : PS} (h : z ∈ namedR ha hb) : ∃ (i q : Nat) (hi : i < ha.length) (hq : q < hb.length), z = ⟨(i : Int), (q : Int)⟩ ∧ ha[i] = hb[q] := by
  obtain ⟨q, hq, h0, rfl⟩ := mem_nameK.1 h
  obtain ⟨i, e, hi, he⟩ := findR_pos h0
  exact ⟨i, q, hi, hq, by rw [e], by rw [he, rdB_get hq]⟩
theorem named_nd0 {ha hb : List ByteArray} (hn : hb.Nodup) : ((namedR ha hb).map (·.f0)).Nodup := by
  rw [List.Nodup, List.pairwise_map]
  refine (nameK_str ha hb hb.length).imp_of_mem (fun {x y} hx hy hlt e => ?_)
  obtain ⟨i, q, hi, hq, rfl, h1⟩ := named_at hx
  obtain ⟨j, r, hj, hr, rfl, h2⟩ := named_at hy
  have hij : i = j := by have : (i : Int) = (j : Int) := e; omega
  subst hij
  have hqr : q = r := (List.getElem_inj hn).1 (h1.symm.trans h2)
  subst hqr
  exact absurd hlt (Int.lt_irrefl _)
theorem wf_small {x : Int} (h0 : 0 ≤ x) (h1 : x ≤ 1000000) : (Lit.int .i64 x).wf = true := by
  simp [Lit.wf, IntKind.min, IntKind.max, IntKind.signed, IntKind.bits]
  omega
theorem named_ok (ha hb : List ByteArray) (h1 : ha.length ≤ 100) (h2 : hb.length ≤ 100) : okP (namedR ha hb) = true := by
  have hl := nameK_len ha hb hb.length
  unfold okP
  rw [Bool.and_eq_true]
  refine ⟨decide_eq_true (by show (nameK ha hb hb.length).length ≤ _; omega), List.all_eq_true.2 fun z hz => ?_⟩
  obtain ⟨i, q, hi, hq, rfl, _⟩ := named_at hz
  show ((Lit.int .i64 (i : Int)).wf && (Lit.int .i64 (q : Int)).wf) = true
  rw [wf_small (by omega) (by omega), wf_small (by omega) (by omega)]; rfl
theorem mem_restR {xs : List Int} {n : Nat} {x : Int} : x ∈ restR xs n ↔ 0 ≤ x ∧ x < (n : Int) ∧ x ∉ xs := by
  unfold restR
  rw [List.mem_flatMap]
  constructor
  · rintro ⟨i, hi, hx⟩
    have hi' := List.mem_range.1 hi
    split at hx
    · rename_i h0
      simp only [List.mem_singleton] at hx
      subst hx
      exact ⟨by omega, by omega, List.count_eq_zero.1 h0⟩
    · simp at hx
  · rintro ⟨h0, h1, h2⟩
    refine ⟨x.toNat, List.mem_range.2 (by omega), ?_⟩
    have e : ((x.toNat : Nat) : Int) = x := by omega
    rw [e, if_pos (List.count_eq_zero.2 h2)]; simp
/-- What is in no pair of the same name. -/
def psR (ha hb : List ByteArray) : List Int := restR ((namedR ha hb).map (·.f0)) ha.length
def qsR (ha hb : List ByteArray) : List Int := restR ((namedR ha hb).map (·.f1)) hb.length
def chR' (ha : List ByteArray) (ra : List (List ByteArray)) (hb : List ByteArray) (rb : List (List ByteArray)) : List Gr.SC := chosR ha ra hb rb (leftR (psR ha hb) (qsR ha hb))
theorem psR_len (ha hb : List ByteArray) : (psR ha hb).length ≤ ha.length := restR_le _ _
theorem qsR_len (ha hb : List ByteArray) : (qsR ha hb).length ≤ hb.length := restR_le _ _
theorem choice_at {ha : List ByteArray} {ra : List (List ByteArray)} {hb : List ByteArray} {rb : List (List ByteArray)} {x : Gr.SC} (h : x ∈ chR' ha ra hb rb) : x.f0 ∈ psR ha hb ∧ x.f1 ∈ qsR ha hb := by
  unfold chR' chosR at h
  obtain ⟨y, hy, hx⟩ := List.mem_flatMap.1 h
  unfold leftR at hy
  obtain ⟨p, hp, hy⟩ := List.mem_flatMap.1 hy
  obtain ⟨q, hq, rfl⟩ := List.mem_map.1 hy
  unfold chR at hx
  split at hx
  · rw [List.mem_singleton.1 hx]; exact ⟨hp, hq⟩
  · cases hx
theorem choice_len (ha : List ByteArray) (ra : List (List ByteArray)) (hb : List ByteArray) (rb : List (List ByteArray)) (h3 : ha.length ≤ 100) (h4 : hb.length ≤ 100) : (chR' ha ra hb rb).length ≤ 10000 := by
  refine Nat.le_trans (chosR_len ha ra hb rb _) ?_
  rw [leftR_len]
  have g1 := psR_len ha hb
  have g2 := qsR_len ha hb
  have := Nat.mul_le_mul (show (psR ha hb).length ≤ 100 by omega) (show (qsR ha hb).length ≤ 100 by omega)
  omega
theorem choice_ok (ha : List ByteArray) (ra : List (List ByteArray)) (hb : List ByteArray) (rb : List (List ByteArray)) (h3 : ha.length ≤ 100) (h4 : hb.length ≤ 100) : Gr.okC (chR' ha ra hb rb) = true := by
  have hl := choice_len ha ra hb rb h3 h4
  unfold Gr.okC
  rw [Bool.and_eq_true]
  refine ⟨decide_eq_true (by omega), List.all_eq_true.2 fun x hx => ?_⟩
  obtain ⟨h1, h2⟩ := choice_at hx
  have g1 := mem_restR.1 h1
  have g2 := mem_restR.1 h2
  rw [wf_small (by omega) (by omega), wf_small (by omega) (by omega)]; rfl
/-- Those that may be renamed. -/
def moreR (ha : List ByteArray) (ra : List (List ByteArray)) (hb : List ByteArray) (rb : List (List ByteArray)) : List PS := Gr.pickR (chR' ha ra hb rb)
theorem more_at {ha : List ByteArray} {ra : List (List ByteArray)} {hb : List ByteArray} {rb : List (List ByteArray)} {z : PS} (h : z ∈ moreR ha ra hb rb) : z.f0 ∈ psR ha hb ∧ z.f1 ∈ qsR ha hb := by
  obtain ⟨x, hx, rfl, _, _⟩ := Gr.pickL_from (Gr.mem_pick.1 h)
  exact choice_at hx
theorem all_nd1 (ha : List ByteArray) (ra : List (List ByteArray)) (hb : List ByteArray) (rb : List (List ByteArray)) : ((namedR ha hb ++ moreR ha ra hb rb).map (·.f1)).Nodup := by
  rw [List.map_append, List.nodup_append]
  refine ⟨str_nd1 (nameK_str ha hb _), str_nd1 (Gr.pick_str _), fun a h1 b h2 e => ?_⟩
  subst e
  obtain ⟨z, hz, rfl⟩ := List.mem_map.1 h2
  exact (mem_restR.1 (more_at hz).2).2.2 h1
theorem turn_perm (x : List PS) : (turnR x).Perm (x.map swp) := by
  have := Gr.perm_fold (x.map swp) []
  rw [List.append_nil] at this
  exact this
theorem swp_swp (x : List PS) : (x.map swp).map swp = x := by
  rw [List.map_map]
  have : swp ∘ swp = id := by funext p; rfl
  rw [this, List.map_id]
theorem turn_turn (x : List PS) : (turnR (turnR x)).Perm x := by
  have h1 := turn_perm (turnR x)
  have h2 := (turn_perm x).map swp
  rw [swp_swp] at h2
  exact h1.trans h2
theorem turn_sort (x : List PS) : Gr.SortB (turnR x) := Gr.sort_fold _ _ List.Pairwise.nil
/-- Columns that are the same, in order. -/
def bothR (ha : List ByteArray) (ra : List (List ByteArray)) (hb : List ByteArray) (rb : List (List ByteArray)) : List PS := turnR (turnR (namedR ha hb ++ moreR ha ra hb rb))
/-- What Align tells. -/
def alignR (ha : List ByteArray) (ra : List (List ByteArray)) (hb : List ByteArray) (rb : List (List ByteArray)) (rename : Bool) : List PS × Int :=
  if checkT ha ra ≠ 0 then ([], checkT ha ra) else if checkT hb rb ≠ 0 then ([], checkT hb rb) else if rename = true then (bothR ha ra hb rb, 0) else (namedR ha hb, 0)
theorem more_len (ha : List ByteArray) (ra : List (List ByteArray)) (hb : List ByteArray) (rb : List (List ByteArray)) (h3 : ha.length ≤ 100) (h4 : hb.length ≤ 100) : (moreR ha ra hb rb).length ≤ 10000 := Nat.le_trans (Gr.pick_len _) (choice_len ha ra hb rb h3 h4)
theorem align_some {ha : List ByteArray} {ra : List (List ByteArray)} {hb : List ByteArray} {rb : List (List ByteArray)} (sa : Sm ha ra) (sb : Sm hb rb) (oa : okT ha ra = true) (ob : okT hb rb = true) (ca : okCells ra = true) (cb : okCells rb = true) (rename : Bool) : cols_Align.f ha ra hb rb rename = some (alignR ha ra hb rb rename) := by
  have h1 := sa.h
  have h2 := sa.r
  have h3 := sb.h
  have h4 := sb.r
  have g1 := psR_len ha hb
  have g2 := qsR_len ha hb
  have hl : (namedR ha hb).length ≤ hb.length := nameK_len ha hb hb.length
  have hok := named_ok ha hb h1 h3
  unfold cols_Align.f alignR
  rw [if_pos ⟨oa, ob⟩]
  split
  · rfl
  · split
    · rfl
    · rw [named_some ha ra hb rb h1 h3 (by omega), Option.bind_some]
      split
      · unfold alignK
        rw [show pairs_RestA.f (namedR ha hb) ha.length = some (psR ha hb) from if_pos ⟨hok, by omega⟩, Option.bind_some, show pairs_RestB.f (namedR ha hb) hb.length = some (qsR ha hb) from if_pos ⟨hok, by omega⟩, Option.bind_some,
          if_pos ⟨⟨ca, cb⟩, ⟨by omega, by omega⟩, by omega, by omega, by omega⟩, show Gr.greedy_Pick.f (chosR ha ra hb rb (leftR (psR ha hb) (qsR ha hb))) = some (moreR ha ra hb rb) from if_pos (choice_ok ha ra hb rb h1 h3), Option.bind_some,
          if_pos (more_len ha ra hb rb h1 h3), Option.bind_some]
        rfl
      · rfl
end Go.Proofs.Ytoefeboikkhdkaa.X
end
section
namespace Go.Proofs.Ytoefeboikkhdkaa.X
open Go.RowKit Go.Proofs.YtoefeboikkhdkaaW.PrintWords
set_option linter.unusedVariables false
theorem okCells_of {x : S25} (h : okT25 x) : okCells x.f1 = true := by
  unfold okCells
  exact List.all_eq_true.2 fun r hr => List.all_eq_true.2 fun s hs => decide_eq_true ((h.2.2 r hr).2 s hs)
theorem okT_of {x : S25} (h : okT25 x) (s : Sm x.f0 x.f1) : okT x.f0 x.f1 = true := s.ok (fun y hy => h.1.2 y hy)
theorem alignC {a b : S25} (oa : okT25 a) (ob : okT25 b) (sa : Sm a.f0 a.f1) (sb : Sm b.f0 b.f1) (rename : Bool) : cols_Align.f a.f0 a.f1 b.f0 b.f1 rename = some (alignR a.f0 a.f1 b.f0 b.f1 rename) :=
  align_some sa sb (okT_of oa sa) (okT_of ob sb) (okCells_of oa) (okCells_of ob) rename
end Go.Proofs.Ytoefeboikkhdkaa.X
end
section
namespace Go.Proofs.Ytoefeboikkhdkaa.X
open Go.RowKit Go.Proofs.YtoefeboikkhdkaaW.PrintWords
set_option linter.unusedVariables false
theorem check_zero {l : List PS} {na nb : Int} (a0 : 0 ≤ na) (b0 : 0 ≤ nb) (all : ∀ p ∈ l, 0 ≤ p.f0 ∧ p.f0 < na ∧ 0 ≤ p.f1 ∧ p.f1 < nb) (nd0 : (l.map (·.f0)).Nodup) (nd1 : (l.map (·.f1)).Nodup) (hs : Gr.SortB l) : checkR l na nb = 0 := by
  have hin : l.all (inP na nb) = true := List.all_eq_true.2 fun p hp => by
    have := all p hp
    simp [inP]; omega
  unfold checkR
  rw [if_neg (by omega), if_neg (by rw [hin]; decide), if_neg (fun h => h ⟨nd0, nd1⟩), if_pos]
  refine List.all_eq_true.2 fun t ht => decide_eq_true ?_
  have htl := List.mem_range.1 ht
  rw [Gr.rdP_get (by omega), Gr.rdP_get (by omega)]
  exact List.pairwise_iff_getElem.1 hs t (t + 1) (by omega) (by omega) (by omega)
theorem check_ndO {hd : List ByteArray} {rows : List (List ByteArray)} (h : checkT hd rows = 0) : hd.Nodup := by
  rw [check_eq] at h
  split at h
  · cases h
  · split at h
    · cases h
    · split at h
      · assumption
      · cases h
/-- What is told of the list. -/
structure Al (ha hb : List ByteArray) (rename : Bool) (l : List PS) : Prop where
  mem : ∀ z ∈ l, z ∈ namedR ha hb ∨ rename = true ∧ z.f0 ∈ psR ha hb ∧ z.f1 ∈ qsR ha hb
  nd0 : (l.map (·.f0)).Nodup
  str : Gr.StrB l
  le : (namedR ha hb).length ≤ l.length
  eq : rename = false → l.length = (namedR ha hb).length
theorem al_named {ha hb : List ByteArray} (hn : hb.Nodup) : Al ha hb false (namedR ha hb) :=
  ⟨fun z hz => .inl hz, named_nd0 hn, nameK_str ha hb _, Nat.le_refl _, fun _ => rfl⟩
theorem al_both {ha : List ByteArray} {ra : List (List ByteArray)} {hb : List ByteArray} {rb : List (List ByteArray)} (hn : hb.Nodup) : Al ha hb true (bothR ha ra hb rb) := by
  have hp : (bothR ha ra hb rb).Perm (namedR ha hb ++ moreR ha ra hb rb) := turn_turn _
  refine ⟨fun z hz => ?_, ?_, ?_, ?_, fun h => by cases h⟩
  · rcases List.mem_append.1 (hp.mem_iff.1 hz) with h | h
    · exact .inl h
    · exact .inr ⟨rfl, more_at h⟩
  · refine (hp.map (·.f0)).nodup_iff.2 ?_
    rw [List.map_append, List.nodup_append]
    refine ⟨named_nd0 hn, Gr.pick_nd0 _, fun a h1 b h2 e => ?_⟩
    subst e
    obtain ⟨z, hz, rfl⟩ := List.mem_map.1 h2
    exact (mem_restR.1 (more_at hz).1).2.2 h1
  · exact Gr.str_of (turn_sort _) ((hp.map (·.f1)).nodup_iff.2 (all_nd1 ha ra hb rb))
  · rw [hp.length_eq, List.length_append]; omega
section
variable {ha hb : List ByteArray} {rename : Bool} {l : List PS}
theorem Al.range (h : Al ha hb rename l) : ∀ p ∈ l, 0 ≤ p.f0 ∧ p.f0 < (ha.length : Int) ∧ 0 ≤ p.f1 ∧ p.f1 < (hb.length : Int) := by
  intro p hp
  rcases h.mem p hp with h1 | ⟨_, h1, h2⟩
  · obtain ⟨i, q, hi, hq, rfl, _⟩ := named_at h1
    show 0 ≤ (i : Int) ∧ (i : Int) < _ ∧ 0 ≤ (q : Int) ∧ (q : Int) < _
    omega
  · have g1 := mem_restR.1 h1
    have g2 := mem_restR.1 h2
    exact ⟨g1.1, g1.2.1, g2.1, g2.2.1⟩
theorem Al.names (h : Al ha hb rename l) (hna : ha.Nodup) {z : PS} (hz : z ∈ l) : rdB ha z.f0 = rdB hb z.f1 ∨ rename = true ∧ findR hb (rdB ha z.f0) < 0 ∧ findR ha (rdB hb z.f1) < 0 := by
  rcases h.mem z hz with h1 | ⟨hr, h1, h2⟩
  · obtain ⟨i, q, hi, hq, rfl, e⟩ := named_at h1
    refine .inl ?_
    show rdB ha (i : Int) = rdB hb (q : Int)
    rw [rdB_get hi, rdB_get hq, e]
  · refine .inr ⟨hr, ?_, ?_⟩
    · obtain ⟨g0, g1, g2⟩ := mem_restR.1 h1
      obtain ⟨i, hi⟩ : ∃ i : Nat, z.f0 = i := ⟨z.f0.toNat, by omega⟩
      rw [hi] at g0 g1 g2 ⊢
      have hil : i < ha.length := by omega
      refine Int.not_le.1 fun h0 => g2 ?_
      obtain ⟨q, e, hq, he⟩ := findR_pos h0
      rw [rdB_get hil] at he
      have hf : 0 ≤ findR ha (rdB hb (q : Int)) := findR_mem.2 (by rw [rdB_get hq, he]; exact List.getElem_mem hil)
      obtain ⟨j, ej, hj, hje⟩ := findR_pos hf
      rw [rdB_get hq, he] at hje
      have hji : j = i := (List.getElem_inj hna).1 hje
      refine List.mem_map.2 ⟨⟨findR ha (rdB hb (q : Int)), (q : Int)⟩, mem_nameK.2 ⟨q, hq, hf, rfl⟩, ?_⟩
      show findR ha (rdB hb (q : Int)) = (i : Int)
      rw [ej, hji]
    · obtain ⟨g0, g1, g2⟩ := mem_restR.1 h2
      obtain ⟨q, hq⟩ : ∃ q : Nat, z.f1 = q := ⟨z.f1.toNat, by omega⟩
      rw [hq] at g0 g1 g2 ⊢
      refine Int.not_le.1 fun h0 => g2 ?_
      exact List.mem_map.2 ⟨⟨findR ha (rdB hb (q : Int)), (q : Int)⟩, mem_nameK.2 ⟨q, by omega, h0, rfl⟩, rfl⟩
theorem Al.okP (h : Al ha hb rename l) (h1 : ha.length ≤ 100) (h2 : hb.length ≤ 100) (hl : l.length ≤ 100000) : okP l = true := by
  unfold X.okP
  rw [Bool.and_eq_true]
  refine ⟨decide_eq_true hl, List.all_eq_true.2 fun z hz => ?_⟩
  have := h.range z hz
  rw [wf_small (by omega) (by omega), wf_small (by omega) (by omega)]; rfl
theorem once_l1 (ra rb : List (List ByteArray)) (h : Al ha hb rename l) (h1 : ha.length ≤ 100) (h2 : hb.length ≤ 100) (hl : l.length ≤ 100000) : ∀ (d k q : Nat), q + d = hb.length → d + 3000 < k → tartanlaw13_ColsOnce.l1 k rename true l ((nameK ha hb q).length : Int) (q : Nat) ha ra hb rb = some true := by
  intro d
  induction d with
  | zero =>
    intro k q hq hk
    obtain ⟨k, rfl⟩ : ∃ m, k = m + 1 := ⟨k - 1, by omega⟩
    obtain rfl : q = hb.length := by omega
    have hle := h.le
    have hc : pairs_Check.f l (ha.length : Int) (hb.length : Int) = some 0 := by
      unfold pairs_Check.f
      rw [if_pos (h.okP h1 h2 hl), check_zero (by omega) (by omega) h.range h.nd0 (str_nd1 h.str) (h.str.imp (fun h => by omega))]
    simp only [tartanlaw13_ColsOnce.l1]
    rw [if_neg (by omega), if_pos trivial, hc, Option.bind_some, if_pos rfl, if_pos (by show ((nameK ha hb hb.length).length : Int) ≤ _; exact Int.ofNat_le.2 hle)]
    cases rename with
    | true => rw [if_pos rfl]
    | false =>
      rw [if_neg (by decide)]
      have := h.eq rfl
      simp only [Option.some.injEq, beq_iff_eq]
      exact congrArg Int.ofNat this
  | succ d ih =>
    intro k q hq hk
    obtain ⟨k, rfl⟩ : ∃ m, k = m + 1 := ⟨k - 1, by omega⟩
    have hn := nameK_len ha hb q
    have hI := ih k (q + 1) (by omega) (by omega)
    rw [nameK_succ, List.length_append] at hI
    unfold nameQ at hI
    simp only [tartanlaw13_ColsOnce.l1]
    rw [if_pos (by omega), if_pos (by omega), find_R _ _ _ (by omega) (by omega), Option.bind_some, wrap_upF q (by omega)]
    split
    · rename_i hp
      rw [if_pos hp] at hI
      rw [wrap_upF _ (by omega)]
      exact hI
    · rename_i hp
      rw [if_neg hp] at hI
      exact hI
theorem once_l0 (ra rb : List (List ByteArray)) (h : Al ha hb rename l) (hna : ha.Nodup) (h1 : ha.length ≤ 100) (h2 : hb.length ≤ 100) (hl : l.length ≤ 100000) : ∀ (d k i : Nat), i + d = l.length → 2 * d + 4000 < k → tartanlaw13_ColsOnce.l0 k rename true l (i : Nat) ha ra hb rb = some true := by
  intro d
  induction d with
  | zero =>
    intro k i hi hk
    obtain ⟨k, rfl⟩ : ∃ m, k = m + 1 := ⟨k - 1, by omega⟩
    simp only [tartanlaw13_ColsOnce.l0]
    rw [if_neg (by omega)]
    have := once_l1 ra rb h h1 h2 hl hb.length k 0 (by omega) (by omega)
    exact this
  | succ d ih =>
    intro k i hi hk
    obtain ⟨k, rfl⟩ : ∃ m, k = m + 1 + 1 := ⟨k - 2, by omega⟩
    have hil : i < l.length := by omega
    have hI := ih k (i + 1) (by omega) (by omega)
    have hz : l[i] ∈ l := List.getElem_mem hil
    have hr := h.range _ hz
    have hnm := h.names hna hz
    have e : rd_T37 l (i : Int) = l[i] := Gr.rdP_get hil
    simp only [tartanlaw13_ColsOnce.l0]
    rw [e]
    generalize l[i] = z at *
    rw [if_pos (by omega), if_pos (by omega), if_neg (by omega), if_neg (by omega), if_neg (by omega), decide_eq_false (show ¬ z.f1 ≥ (hb.length : Int) by omega)]
    simp only [tartanlaw13_ColsOnce.j2]
    rw [e, if_neg (by decide), if_pos (by omega), if_pos (by omega), if_pos (by omega), if_pos (by omega), if_pos (by omega), if_pos (by omega), wrap_upF _ (by omega)]
    split
    · exact hI
    · rename_i hne
      rcases hnm with h3 | ⟨h3, h4, h5⟩
      · exact absurd (congrArg ByteArray.toList h3) hne
      · rw [if_pos h3, find_R _ _ _ (by omega) (by omega), Option.bind_some, if_neg (show ¬ findR hb (rdB ha z.f0) ≥ 0 by omega), find_R _ _ _ (by omega) (by omega), Option.bind_some, if_neg (show ¬ findR ha (rdB hb z.f1) ≥ 0 by omega)]
        exact hI
end
theorem pure_ColsOnce : ∀ (x0 : S25) (x1 : S25) (x2 : Bool), okT25 x0 → okT25 x1 → okT4 x2 → ∃ k, tartanlaw13_ColsOnce.f k x0.f0 x0.f1 x1.f0 x1.f1 x2 = some true := by
  intro x0 x1 x2 o0 o1 _
  obtain ⟨k, hk⟩ := fuel13
  refine ⟨k + 60, ?_⟩
  unfold tartanlaw13_ColsOnce.f
  rw [works13, Option.bind_some, if_pos rfl]
  obtain ⟨b, e, hb⟩ := fewT x0.f0 x0.f1 (k := k + 60) (by omega)
  rw [e, Option.bind_some]
  have hno : tartanlaw13_ColsOnce.j0 (k + 60) x2 true false x0.f0 x0.f1 x1.f0 x1.f1 = some true := by
    show tartanlaw13_ColsOnce.j0 ((k + 59) + 1) x2 true false x0.f0 x0.f1 x1.f0 x1.f1 = some true
    simp only [tartanlaw13_ColsOnce.j0]
    rw [if_neg (by decide)]
  cases b with
  | false => rw [if_neg (by decide)]; exact hno
  | true =>
    have s0 := hb rfl
    rw [if_pos rfl]
    obtain ⟨c, e1, hc⟩ := fewT x1.f0 x1.f1 (k := k + 60) (by omega)
    rw [e1, Option.bind_some]
    cases c with
    | false => exact hno
    | true =>
      have s1 := hc rfl
      have h1 := s0.h
      have h2 := s1.h
      have hn : (namedR x0.f0 x1.f0).length ≤ x1.f0.length := nameK_len _ _ _
      have hm := more_len x0.f0 x0.f1 x1.f0 x1.f1 h1 h2
      show tartanlaw13_ColsOnce.j0 ((k + 59) + 1) x2 true true x0.f0 x0.f1 x1.f0 x1.f1 = some true
      simp only [tartanlaw13_ColsOnce.j0]
      rw [if_pos trivial, alignC o0 o1 s0 s1, Option.bind_some]
      by_cases c0 : checkT x0.f0 x0.f1 = 0
      · by_cases c1 : checkT x1.f0 x1.f1 = 0
        · have n0 := check_ndO c0
          have n1 := check_ndO c1
          cases x2 with
          | true =>
            have e4 : alignR x0.f0 x0.f1 x1.f0 x1.f1 true = (bothR x0.f0 x0.f1 x1.f0 x1.f1, 0) := by unfold alignR; rw [if_neg (fun h => h c0), if_neg (fun h => h c1), if_pos rfl]
            have hbl : (bothR x0.f0 x0.f1 x1.f0 x1.f1).length ≤ 20000 := by
              unfold bothR
              rw [turnR_len, turnR_len, List.length_append]; omega
            rw [e4, if_pos rfl]
            exact once_l0 x0.f1 x1.f1 (al_both n1) n0 h1 h2 (by omega) (bothR x0.f0 x0.f1 x1.f0 x1.f1).length (k + 59) 0 (by omega) (by omega)
          | false =>
            have e4 : alignR x0.f0 x0.f1 x1.f0 x1.f1 false = (namedR x0.f0 x1.f0, 0) := by unfold alignR; rw [if_neg (fun h => h c0), if_neg (fun h => h c1), if_neg (by decide)]
            rw [e4, if_pos rfl]
            exact once_l0 x0.f1 x1.f1 (al_named n1) n0 h1 h2 (by omega) (namedR x0.f0 x1.f0).length (k + 59) 0 (by omega) (by omega)
        · have e4 : alignR x0.f0 x0.f1 x1.f0 x1.f1 x2 = ([], checkT x1.f0 x1.f1) := by unfold alignR; rw [if_neg (fun h => h c0), if_pos c1]
          rw [e4, if_neg c1, if_pos trivial]; rfl
      · have e4 : alignR x0.f0 x0.f1 x1.f0 x1.f1 x2 = ([], checkT x0.f0 x0.f1) := by unfold alignR; rw [if_pos c0]
        rw [e4, if_neg c0, if_pos trivial]; rfl
end Go.Proofs.Ytoefeboikkhdkaa.X
end
