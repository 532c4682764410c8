/- The texts that the law ColsRenamed wants, part 6 of 6: what is kept of them. -/
import Derived.Test.YtoefeboikkhdkaaCColsRenamed5
section
namespace Go.Proofs.Ytoefeboikkhdkaa.X
open Go.RowKit Go.Proofs.YtoefeboikkhdkaaW.PrintWords
set_option linter.unusedVariables false
theorem check_ndE {hd : List ByteArray} {rows : List (List ByteArray)} (h : checkT hd rows = 0) : hd.Nodup := by
  rw [check_eq] at h
  split at h
  · cases h
  · split at h
    · cases h
    · split at h
      · assumption
      · cases h
theorem find_at {l : List ByteArray} (hn : l.Nodup) {i : Nat} (hi : i < l.length) {s : ByteArray} (e : l[i] = s) : findR l s = i := by
  have hm : 0 ≤ findR l s := findR_mem.2 (by rw [← e]; exact List.getElem_mem hi)
  obtain ⟨j, ej, hj, he⟩ := findR_pos hm
  have : j = i := (List.getElem_inj hn).1 (he.trans e.symm)
  rw [ej, this]
def dg (n : Nat) : List PS := (List.range n).map fun q : Nat => (⟨(q : Int), (q : Int)⟩ : PS)
theorem dg_len (n : Nat) : (dg n).length = n := by simp [dg]
theorem dg_str (n : Nat) : Gr.StrB (dg n) := by
  refine List.pairwise_iff_getElem.2 fun i j hi hj hij => ?_
  simp only [dg, List.getElem_map, List.getElem_range]
  omega
theorem mem_dg {n : Nat} {z : PS} : z ∈ dg n ↔ ∃ q : Nat, q < n ∧ z = ⟨(q : Int), (q : Int)⟩ := by
  unfold dg
  rw [List.mem_map]
  constructor
  · rintro ⟨q, hq, rfl⟩; exact ⟨q, List.mem_range.1 hq, rfl⟩
  · rintro ⟨q, hq, rfl⟩; exact ⟨q, List.mem_range.2 hq, rfl⟩
theorem dg_get {n i : Nat} (h : i < n) : rd_T37 (dg n) (i : Int) = ⟨(i : Int), (i : Int)⟩ := by
  rw [Gr.rdP_get (by rw [dg_len]; exact h)]; simp [dg]
theorem more_nil {ha : List ByteArray} {ra : List (List ByteArray)} {hb : List ByteArray} {rb : List (List ByteArray)} (h : psR ha hb = []) : moreR ha ra hb rb = [] := by
  refine List.eq_nil_iff_forall_not_mem.2 fun z hz => ?_
  have := (more_at hz).1
  rw [h] at this
  cases this
theorem both_nil {ha : List ByteArray} {ra : List (List ByteArray)} {hb : List ByteArray} {rb : List (List ByteArray)} (h : moreR ha ra hb rb = []) : bothR ha ra hb rb = namedR ha hb := by rw [both_fold, h]; rfl
theorem ps_nil {ha hb : List ByteArray} (hna : ha.Nodup) (h : ∀ x ∈ ha, x ∈ hb) : psR ha hb = [] := by
  refine List.eq_nil_iff_forall_not_mem.2 fun x hx => ?_
  obtain ⟨h0, h1, h2⟩ := mem_restR.1 hx
  obtain ⟨i, rfl⟩ : ∃ i : Nat, x = i := ⟨x.toNat, by omega⟩
  have hi : i < ha.length := by omega
  obtain ⟨q, hq, e⟩ := List.getElem_of_mem (h _ (List.getElem_mem hi))
  have hf : findR ha (rdB hb (q : Int)) = i := find_at hna hi (by rw [rdB_get hq, e])
  exact h2 (List.mem_map.2 ⟨⟨findR ha (rdB hb (q : Int)), (q : Int)⟩, mem_nameK.2 ⟨q, hq, by rw [hf]; exact Int.natCast_nonneg i, rfl⟩, hf⟩)
theorem align_zero {ha : List ByteArray} {ra : List (List ByteArray)} {hb : List ByteArray} {rb : List (List ByteArray)} {rename : Bool} (h1 : checkT ha ra = 0) (h2 : checkT hb rb = 0) : alignR ha ra hb rb rename = (if rename = true then bothR ha ra hb rb else namedR ha hb, 0) := by
  unfold alignR
  rw [if_neg (fun h => h h1), if_neg (fun h => h h2)]
  split <;> rfl
/-- A column with another name. -/
structure Ren (hd : List ByteArray) (a : Nat) (s : ByteArray) : Prop where
  n0 : hd.Nodup
  n1 : (hd.set a s).Nodup
  lt : a < hd.length
  ne : hd[a] ≠ s
section
variable {hd : List ByteArray} {a : Nat} {s : ByteArray}
theorem Ren.notin (h : Ren hd a s) : s ∉ hd := by
  intro hm
  obtain ⟨i, hi, e⟩ := List.getElem_of_mem hm
  by_cases hia : i = a
  · subst hia; exact h.ne e
  · have h1 : (hd.set a s)[i]'(by rw [List.length_set]; exact hi) = s := by rw [List.getElem_set_ne (fun e => hia e.symm)]; exact e
    have h2 : (hd.set a s)[a]'(by rw [List.length_set]; exact h.lt) = s := by rw [List.getElem_set_self]
    exact hia ((List.getElem_inj h.n1).1 (h1.trans h2.symm))
theorem Ren.find (h : Ren hd a s) {q : Nat} (hq : q < hd.length) : if q = a then findR hd (rdB (hd.set a s) (q : Int)) < 0 else findR hd (rdB (hd.set a s) (q : Int)) = q := by
  have hq' : q < (hd.set a s).length := by rw [List.length_set]; exact hq
  rw [rdB_get hq']
  split
  · rename_i e
    subst e
    rw [List.getElem_set_self]
    exact Int.not_le.1 fun h0 => h.notin (findR_mem.1 h0)
  · rename_i e
    exact find_at h.n0 hq (by rw [List.getElem_set_ne (fun e2 => e e2.symm)])
theorem Ren.name (h : Ren hd a s) {q : Nat} (hq : q < hd.length) : nameQ hd (hd.set a s) q = if q = a then [] else [⟨(q : Int), (q : Int)⟩] := by
  have := h.find hq
  unfold nameQ
  split at this
  · rename_i e
    rw [if_pos e, if_neg (by omega)]
  · rename_i e
    rw [if_neg e, this, if_pos (Int.natCast_nonneg q)]
theorem Ren.len (h : Ren hd a s) : ∀ m, m ≤ hd.length → (nameK hd (hd.set a s) m).length + (if a < m then 1 else 0) = m
  | 0, _ => by simp [nameK]
  | m + 1, hm => by
    have := h.len m (by omega)
    rw [nameK_succ, List.length_append, h.name (by omega)]
    by_cases e : m = a
    · rw [if_pos e, if_pos (by omega)]
      rw [if_neg (by omega)] at this
      simp; omega
    · rw [if_neg e]
      by_cases e2 : a < m
      · rw [if_pos (by omega)]
        rw [if_pos e2] at this
        simp; omega
      · rw [if_neg (by omega)]
        rw [if_neg e2] at this
        simp; omega
theorem Ren.named_len (h : Ren hd a s) : (namedR hd (hd.set a s)).length + 1 = hd.length := by
  have := h.len hd.length (Nat.le_refl _)
  rw [if_pos h.lt] at this
  unfold namedR
  rw [List.length_set]
  exact this
theorem Ren.mem (h : Ren hd a s) {z : PS} : z ∈ namedR hd (hd.set a s) ↔ ∃ q : Nat, q < hd.length ∧ q ≠ a ∧ z = ⟨(q : Int), (q : Int)⟩ := by
  unfold namedR
  rw [mem_nameK, List.length_set]
  constructor
  · rintro ⟨q, hq, h0, rfl⟩
    have := h.find hq
    split at this
    · omega
    · rename_i e; exact ⟨q, hq, e, by rw [this]⟩
  · rintro ⟨q, hq, e, rfl⟩
    have := h.find hq
    rw [if_neg e] at this
    exact ⟨q, hq, by rw [this]; exact Int.natCast_nonneg q, by rw [this]⟩
theorem Ren.ps (h : Ren hd a s) {x : Int} : x ∈ psR hd (hd.set a s) ↔ x = a := by
  unfold psR
  rw [mem_restR]
  constructor
  · rintro ⟨h0, h1, h2⟩
    obtain ⟨i, rfl⟩ : ∃ i : Nat, x = i := ⟨x.toNat, by omega⟩
    by_cases e : i = a
    · rw [e]
    · exact absurd (List.mem_map.2 ⟨⟨(i : Int), (i : Int)⟩, h.mem.2 ⟨i, by omega, e, rfl⟩, rfl⟩) h2
  · rintro rfl
    refine ⟨Int.natCast_nonneg a, by have := h.lt; omega, fun hm => ?_⟩
    obtain ⟨z, hz, e⟩ := List.mem_map.1 hm
    obtain ⟨q, hq, hne, rfl⟩ := h.mem.1 hz
    have e' : (q : Int) = (a : Int) := e
    omega
theorem Ren.qs (h : Ren hd a s) {x : Int} : x ∈ qsR hd (hd.set a s) ↔ x = a := by
  unfold qsR
  rw [mem_restR, List.length_set]
  constructor
  · rintro ⟨h0, h1, h2⟩
    obtain ⟨i, rfl⟩ : ∃ i : Nat, x = i := ⟨x.toNat, by omega⟩
    by_cases e : i = a
    · rw [e]
    · exact absurd (List.mem_map.2 ⟨⟨(i : Int), (i : Int)⟩, h.mem.2 ⟨i, by omega, e, rfl⟩, rfl⟩) h2
  · rintro rfl
    refine ⟨Int.natCast_nonneg a, by have := h.lt; omega, fun hm => ?_⟩
    obtain ⟨z, hz, e⟩ := List.mem_map.1 hm
    obtain ⟨q, hq, hne, rfl⟩ := h.mem.1 hz
    have e' : (q : Int) = (a : Int) := e
    omega
theorem Ren.score (h : Ren hd a s) (rows : List (List ByteArray)) : scoreT hd rows (hd.set a s) rows ((a : Int), (a : Int)) = rows.length := by
  have hl := h.lt
  have e : columnT (hd.set a s) rows (a : Int) = columnT hd rows (a : Int) := by unfold columnT; rw [List.length_set]
  have e2 : (columnT hd rows (a : Int)).length = rows.length := by
    unfold columnT
    rw [if_neg (by omega), colT_len]
  unfold scoreT
  show Ba.ovl (columnT hd rows (a : Int)) (fun k => Ba.cnt (columnT (hd.set a s) rows (a : Int)) k) = _
  rw [e, Ba.ovl_eq, Ba.ov2_self, List.length_map, e2]
/-- No rows: it is gone, and another one is new. -/
theorem Ren.none (h : Ren hd a s) : moreR hd [] (hd.set a s) [] = [] := by
  refine List.eq_nil_iff_forall_not_mem.2 fun z hz => ?_
  have hc : chR' hd [] (hd.set a s) [] = [] := by
    refine List.eq_nil_iff_forall_not_mem.2 fun x hx => ?_
    unfold chR' chosR at hx
    obtain ⟨y, hy, hx⟩ := List.mem_flatMap.1 hx
    unfold chR at hx
    have hs := score_le hd [] (hd.set a s) [] y
    split at hx
    · rename_i hm
      have hs0 : scoreT hd [] (hd.set a s) [] y = 0 := by
        have h1 := hs.1
        have h2 := hs.2
        simp only [List.length_nil] at h2
        omega
      rw [hs0] at hm
      have h3 := ((mayR_iff (by omega) (by omega)).1 hm).1
      rw [show wrap64 (2 * 0) = 0 from by unfold wrap64; omega] at h3
      simp at h3
    · cases hx
  unfold moreR at hz
  have := Gr.pick_len (chR' hd [] (hd.set a s) [])
  rw [hc] at this hz
  exact absurd (List.length_pos_of_mem hz) (by simpa using this)
/-- Rows: the column is the same. -/
theorem Ren.more (h : Ren hd a s) {rows : List (List ByteArray)} (h1 : 0 < rows.length) (h2 : rows.length ≤ 1000) {z : PS} : z ∈ moreR hd rows (hd.set a s) rows ↔ z = ⟨(a : Int), (a : Int)⟩ := by
  have dir : ∀ z, z ∈ moreR hd rows (hd.set a s) rows → z = ⟨(a : Int), (a : Int)⟩ := by
    intro z hz
    obtain ⟨p, q⟩ := more_at hz
    have e1 := h.ps.1 p
    have e2 := h.qs.1 q
    cases z
    simp only at e1 e2
    rw [e1, e2]
  refine ⟨dir z, ?_⟩
  rintro rfl
  have hx : (⟨(a : Int), (a : Int), (rows.length : Int)⟩ : Gr.SC) ∈ chR' hd rows (hd.set a s) rows := by
    unfold chR' chosR leftR
    refine List.mem_flatMap.2 ⟨((a : Int), (a : Int)), List.mem_flatMap.2 ⟨(a : Int), h.ps.2 rfl, List.mem_map.2 ⟨(a : Int), h.qs.2 rfl, rfl⟩⟩, ?_⟩
    unfold chR
    rw [h.score rows, if_pos]
    · exact List.mem_singleton.2 rfl
    · rw [mayR_iff (by omega) (by omega)]
      unfold wrap64
      omega
  by_cases hin : (⟨(a : Int), (a : Int)⟩ : PS) ∈ moreR hd rows (hd.set a s) rows
  · exact hin
  · obtain ⟨w, hw, _⟩ := Gr.pick_best hx (Int.natCast_nonneg a) (Int.natCast_nonneg a) hin
    have := dir w hw
    rw [this] at hw
    exact hw
theorem Ren.both (h : Ren hd a s) {rows : List (List ByteArray)} (h1 : 0 < rows.length) (h2 : rows.length ≤ 1000) : bothR hd rows (hd.set a s) rows = dg hd.length := by
  have hp : (bothR hd rows (hd.set a s) rows).Perm (namedR hd (hd.set a s) ++ moreR hd rows (hd.set a s) rows) := turn_turn _
  refine Gr.str_unique _ _ (Gr.str_of (turn_sort _) ((hp.map (·.f1)).nodup_iff.2 (all_nd1 _ _ _ _))) (dg_str _) fun z => ?_
  rw [hp.mem_iff, List.mem_append, h.mem, h.more h1 h2, mem_dg]
  constructor
  · rintro (⟨q, hq, _, rfl⟩ | rfl)
    · exact ⟨q, hq, rfl⟩
    · exact ⟨a, h.lt, rfl⟩
  · rintro ⟨q, hq, rfl⟩
    by_cases e : q = a
    · rw [e]; exact .inr rfl
    · exact .inl ⟨q, hq, e, rfl⟩
end
theorem named_dg {l : List ByteArray} (hn : l.Nodup) : namedR l l = dg l.length := by
  have key : ∀ n, n ≤ l.length → nameK l l n = dg n := by
    intro n
    induction n with
    | zero => intro _; simp [nameK, dg]
    | succ n ih =>
      intro h
      rw [nameK_succ, ih (by omega)]
      unfold dg
      rw [List.range_succ, List.map_append]
      congr 1
      unfold nameQ
      have hf : findR l (rdB l (n : Int)) = n := find_at hn (show n < l.length by omega) (by rw [rdB_get (by omega)])
      rw [hf, if_pos (Int.natCast_nonneg n)]; rfl
  exact key _ (Nat.le_refl _)
end Go.Proofs.Ytoefeboikkhdkaa.X
end
section
namespace Go.Proofs.Ytoefeboikkhdkaa.X
open Go.RowKit Go.Proofs.YtoefeboikkhdkaaW.PrintWords
set_option linter.unusedVariables false
theorem ren_l0 (hd : List ByteArray) (rows : List (List ByteArray)) (h : hd.length ≤ 1000) : ∀ d k i : Nat, i + d = hd.length → d < k → tartanlaw13_ColsRenamed.l0 k true (dg hd.length) (i : Nat) hd rows = some true := by
  intro d
  induction d with
  | zero =>
    intro k i hi hk
    obtain ⟨k, rfl⟩ : ∃ m, k = m + 1 := ⟨k - 1, by omega⟩
    simp only [tartanlaw13_ColsRenamed.l0]
    rw [dg_len, if_neg (by omega), if_pos trivial]
    simp
  | succ d ih =>
    intro k i hi hk
    obtain ⟨k, rfl⟩ : ∃ m, k = m + 1 := ⟨k - 1, by omega⟩
    simp only [tartanlaw13_ColsRenamed.l0]
    rw [dg_len, if_pos (by omega), if_pos (by omega), dg_get (by omega), if_pos rfl, if_pos rfl, wrap_upF _ (by omega)]
    exact ih k (i + 1) (by omega) (by omega)
theorem ren_same (hd : List ByteArray) (rows : List (List ByteArray)) (h : hd.length ≤ 1000) {k : Nat} (hk : 2000 ≤ k) : tartanlaw13_ColsRenamed.j1 k true (dg hd.length) true hd rows = some true := by
  obtain ⟨k, rfl⟩ : ∃ m, k = m + 1 := ⟨k - 1, by omega⟩
  simp only [tartanlaw13_ColsRenamed.j1]
  rw [if_pos trivial]
  exact ren_l0 hd rows h hd.length k 0 (by omega) (by omega)
theorem ren_gone (hd : List ByteArray) (rows : List (List ByteArray)) (L : List PS) (h : L.length + 1 = hd.length) (hl : hd.length ≤ 1000) {k : Nat} (hk : 2000 ≤ k) : tartanlaw13_ColsRenamed.j1 k true L false hd rows = some true := by
  obtain ⟨k, rfl⟩ : ∃ m, k = m + 1 := ⟨k - 1, by omega⟩
  simp only [tartanlaw13_ColsRenamed.j1]
  rw [if_neg (by decide), if_pos trivial]
  have e : wrap64 ((hd.length : Int) - 1) = (L.length : Int) := by unfold wrap64; omega
  rw [e]
  simp
theorem pure_ColsRenamed : ∀ (x0 : S25) (x1 : Int) (x2 : ByteArray) (x3 : Bool), okT25 x0 → okT3 x1 → okT9 x2 → okT4 x3 → ∃ k, tartanlaw13_ColsRenamed.f k x0.f0 x0.f1 x1 x2 x3 = some true := by
  intro x0 x1 x2 x3 o0 _ o2 _
  obtain ⟨k, hk⟩ := fuel13
  refine ⟨k + 60, ?_⟩
  have ho2 : x2.size ≤ maxLen := o2
  unfold tartanlaw13_ColsRenamed.f
  rw [works13, Option.bind_some, if_pos rfl]
  obtain ⟨b, e, hb⟩ := fewT x0.f0 x0.f1 (k := k + 60) (by omega)
  rw [e, Option.bind_some]
  have big : tartanlaw13_ColsRenamed.j0 (k + 60) x1 x2 x3 true true x0.f0 x0.f1 = some true := by
    show tartanlaw13_ColsRenamed.j0 ((k + 59) + 1) x1 x2 x3 true true x0.f0 x0.f1 = some true
    simp only [tartanlaw13_ColsRenamed.j0]
    rw [if_pos trivial]
  cases b with
  | false => rw [if_neg (by decide)]; exact big
  | true =>
    have s0 := hb rfl
    have h1 := s0.h
    have h2 := s0.r
    have hs : okS x0.f0 := o0.1.2
    rw [if_pos rfl]
    by_cases hsz : (x2.size : Int) > 500
    · rw [decide_eq_true hsz]; exact big
    · rw [decide_eq_false hsz]
      show tartanlaw13_ColsRenamed.j0 ((k + 59) + 1) x1 x2 x3 true false x0.f0 x0.f1 = some true
      simp only [tartanlaw13_ColsRenamed.j0]
      rw [if_neg (by decide), ren_f _ _ _ _ (s0.okE hs) ho2, Option.bind_some]
      by_cases e1 : (madeT x0.f0 x0.f1 (xIn x1 x0.f0.length) (x0.f0.set x1.toNat x2) x0.f1).2.2 = 0
      · obtain ⟨c1, q0, c2, e4⟩ := made_ok e1
        obtain ⟨q1, q2⟩ := xIn_zero q0
        rw [if_pos e1, e4]
        dsimp only
        have hset : ∀ y ∈ x0.f0.set x1.toNat x2, y.size ≤ maxLen := fun y hy => by
          rcases List.mem_or_eq_of_mem_set hy with h | h
          · exact hs y h
          · rw [h]; exact ho2
        have s1 : Sm (x0.f0.set x1.toNat x2) x0.f1 := ⟨by rw [List.length_set]; exact s0.h, s0.r, s0.w⟩
        rw [align_some s0 s1 (s0.ok hs) (s1.ok hset) (okCells_of o0) (okCells_of o0) x3, Option.bind_some, align_zero c1 c2]
        simp only [if_true]
        have n0 := check_ndE c1
        have n1 := check_ndE c2
        have hlt : x1.toNat < x0.f0.length := by omega
        have hg : rdOf ByteArray.empty x0.f0 x1 = x0.f0[x1.toNat] := by
          have := rdB_get hlt
          rwa [Int.toNat_of_nonneg q1] at this
        by_cases hname : x0.f0[x1.toNat] = x2
        · have hsame : x0.f0.set x1.toNat x2 = x0.f0 := by rw [← hname]; exact List.set_getElem_self hlt
          have hmore : moreR x0.f0 x0.f1 x0.f0 x0.f1 = [] := more_nil (ps_nil n0 fun x h => h)
          have hL : (if x3 = true then bothR x0.f0 x0.f1 (x0.f0.set x1.toNat x2) x0.f1 else namedR x0.f0 (x0.f0.set x1.toNat x2)) = dg x0.f0.length := by
            rw [hsame, both_nil hmore, named_dg n0]
            split <;> rfl
          rw [hL]
          have hb : ((rdOf ByteArray.empty x0.f0 x1).toList == x2.toList) = true := by rw [hg, hname]; simp
          rw [hb, if_pos q1, if_pos q2, ren_same _ _ (by omega) (by omega)]
          split <;> first | rfl | (split <;> rfl)
        · have hR : Ren x0.f0 x1.toNat x2 := ⟨n0, n1, hlt, hname⟩
          have hb : ((rdOf ByteArray.empty x0.f0 x1).toList == x2.toList) = false := by
            rw [hg]
            exact beq_eq_false_iff_ne.2 fun h => hname (Ba.str_eq'.1 h)
          have hgone := fun L h => ren_gone x0.f0 x0.f1 L h (by omega) (k := k + 59) (by omega)
          rw [hb, if_pos q1, if_pos q2]
          cases x3 with
          | false =>
            rw [if_neg (by decide), if_neg (by decide)]
            exact hgone _ hR.named_len
          | true =>
            rw [if_pos rfl, if_pos rfl]
            by_cases hrows : (x0.f1.length : Int) > 0
            · rw [if_pos hrows, hR.both (by omega) (by omega)]
              exact ren_same _ _ (by omega) (by omega)
            · rw [if_neg hrows]
              have hnil : x0.f1 = [] := List.eq_nil_of_length_eq_zero (by omega)
              have hlen : (bothR x0.f0 x0.f1 (x0.f0.set x1.toNat x2) x0.f1).length + 1 = x0.f0.length := by
                rw [hnil, both_nil hR.none]
                exact hR.named_len
              exact hgone _ hlen
      · rw [if_neg e1]
end Go.Proofs.Ytoefeboikkhdkaa.X
end
