/- keys.Unique. -/
import Derived.Test.YtchpgkojlhipgaaGParts
import Derived.Test.YtchpgkojlhipgaaPSplit2
namespace Go.Proofs.Ytchpgkojlhipgaa.X
open Go.RowKit Go.Maps Go.Proofs.YtchpgkojlhipgaaW.PrintWords Go.Proofs.YtchpgkojlhipgaaW.PrintLast Go.Proofs.YtchpgkojlhipgaaW.PrintMore Go.Proofs.Ytchpgkojlhipgaa.GGr
set_option linter.unusedVariables false

def inHd (hd : List ByteArray) (cols : List Int) : Bool := cols.all fun c => decide (0 ≤ c) && decide (c < (hd.length : Int))
def uniqR (hd : List ByteArray) (rows : List (List ByteArray)) (cols : List Int) : Bool := inHd hd cols && decide (0 < cols.length) && decide ((groupsR (cellR rows) rows.length cols).length = 0)
theorem inHd_no {hd : List ByteArray} {cols : List Int} {k : Nat} (h : k < cols.length) (hb : rd cols (k : Int) < 0 ∨ rd cols (k : Int) ≥ (hd.length : Int)) : inHd hd cols = false := by
  unfold inHd
  rw [List.all_eq_false]
  refine ⟨_, rd_memI h, ?_⟩
  simp
  intro h0
  omega
theorem inHd_yes {hd : List ByteArray} {cols : List Int} (h : ∀ k : Nat, k < cols.length → 0 ≤ rd cols (k : Int) ∧ rd cols (k : Int) < (hd.length : Int)) : inHd hd cols = true := by
  unfold inHd
  rw [List.all_eq_true]
  intro c hc
  obtain ⟨i, hi, rfl⟩ := List.getElem_of_mem hc
  have := h i hi
  unfold rd at this
  rw [show ((i : Int)).toNat = i from rfl, List.getD_eq_getElem?_getD, List.getElem?_eq_getElem hi] at this
  simp only [Option.getD_some] at this
  simp [this]
theorem C_one (W : World) (A : Option Addr) (c : Nat) (l : List Int) (h : Kd.C (Kd.int .i64) W A l.length l) (hc : l.length ≤ c) :
    Kd.C (Kd.slice 3 (Kd.int .i64)) (W.alloc (.cells #[.slice A l.length c] 42)) (some ⟨W.heap.size, 0, none⟩) [l].length [l] := by
  refine ⟨rfl, by simp, fun _ => ⟨_, rfl, fun j p hj => ?_⟩⟩
  match j, hj with
  | 0, hj =>
    simp at hj; subst hj
    refine ⟨[.slice A l.length c], rfl, ⟨A, c, rfl, hc, Kd.C_alloc h _⟩, fun i u hu => ?_⟩
    match i, hu with
    | 0, hu => simp at hu; subst hu; exact blk_cell (blk_new W (.cells #[.slice A l.length c] 42)) 0
    | i + 1, hu => simp at hu
  | j + 1, hj => simp at hj

set_option maxRecDepth 100000 in
set_option maxHeartbeats 4000000 in
theorem unique_calls (A0 : Option Addr) (c0 : Nat) (hd : List ByteArray) (A1 : Option Addr) (c1 : Nat) (rows : List (List ByteArray)) (A2 : Option Addr) (c2 : Nat) (cols : List Int) (w : World)
    (hr0 : Kd.C Kd.string w A0 hd.length hd) (hc0 : hd.length ≤ c0) (hr1 : Kd.C (Kd.slice 9 Kd.string) w A1 rows.length rows) (hc1 : rows.length ≤ c1) (hr2 : Kd.C (Kd.int .i64) w A2 cols.length cols)
    (hl : rows.length ≤ 50000) (hcl : cols.length ≤ 100000) (hsz : ∀ i j, (cellR rows i j).size ≤ maxLen) :
    Calls Try.prog 32 #[.agg #[.slice A0 hd.length c0, .slice A1 rows.length c1], .slice A2 cols.length c2] w fun e w' => e = .returned (.bool (uniqR hd rows cols)) ∧ Below w.heap.size w w' := by
  obtain ⟨r, hr⟩ : ∃ r, Aside0 (uniqR hd rows cols = r) := ⟨_, ⟨rfl⟩⟩
  rw [hr.out]
  obtain ⟨W0, hW0⟩ : ∃ W0, Aside0 (w.alloc (.cells #[.slice A0 hd.length c0, .slice A1 rows.length c1] 41 (0, 0)) = W0) := ⟨_, ⟨rfl⟩⟩
  have HB0 : Aside0 (Below w.heap.size w W0) := ⟨by rw [← hW0.out]; exact below_alloc (Below.refl _ _) _⟩
  have hT : W0.heap[w.heap.size]? = some (.cells #[.slice A0 hd.length c0, .slice A1 rows.length c1] 41 (0, 0)) := by rw [← hW0.out]; exact blk_new w _
  have HT := Aside0.mk hT
  have HR := Aside0.mk (And.intro (Kd.C_below hr0 HB0.out) (And.intro (Kd.C_below hr1 HB0.out) (Kd.C_below hr2 HB0.out)))
  have HZ := Aside0.mk hsz
  have hhl := hr0.2.1
  clear hr0 hr1 hr2 hsz hT
  go_enter Try.func32, Try.ntmps32
  go_wp2
  rw [hW0.out]
  go_loopw [12] (fun vi wr => ∃ t : Nat, vi = .int .i64 t ∧ t ≤ cols.length ∧ Aside0 (∀ k : Nat, k < t → 0 ≤ rd cols (k : Int) ∧ rd cols (k : Int) < (hd.length : Int)) ∧ wr = W0)
    (fun vi _ => cols.length - (intOf vi).toNat)
  case atStart => exact ⟨0, rfl, Nat.zero_le _, ⟨fun k hk => by omega⟩, rfl⟩
  case round =>
    obtain ⟨t, rfl, ht, HI, rfl⟩ := hrel
    have hT0 := blk_cell HT.out 0
    have hT1 := blk_cell HT.out 1
    by_cases hlt : t < cols.length
    · have hltI : (t : Int) < (cols.length : Int) := by omega
      obtain ⟨ad, eA, hy⟩ := intAt HR.out.2.2 hlt
      cases eA
      have HNO : Aside0 (rd cols (t : Int) < 0 ∨ rd cols (t : Int) ≥ (hd.length : Int) → inHd hd cols = false) := ⟨inHd_no hlt⟩
      have HYES : Aside0 (0 ≤ rd cols (t : Int) ∧ rd cols (t : Int) < (hd.length : Int) → ∀ k : Nat, k < t + 1 → 0 ≤ rd cols (k : Int) ∧ rd cols (k : Int) < (hd.length : Int)) := ⟨fun h k hk => by
        rcases Nat.lt_or_ge k t with h' | h'
        · exact HI.out k h'
        · obtain rfl : k = t := by omega
          exact h⟩
      generalize rd cols (t : Int) = x at *
      by_cases h1 : x < 0
      · have hR := HNO.out (.inl h1)
        clear HNO HYES
        go_wp2
        go_ret
        exact ⟨by rw [← hr.out]; unfold uniqR; rw [hR]; rfl, HB0.out⟩
      · by_cases h2 : x ≥ (hd.length : Int)
        · have hR := HNO.out (.inr h2)
          clear HNO HYES
          go_wp2
          go_ret
          exact ⟨by rw [← hr.out]; unfold uniqR; rw [hR]; rfl, HB0.out⟩
        · have HI2 := Aside0.mk (HYES.out ⟨by omega, by omega⟩)
          clear HNO HYES
          go_wp2
          go_roundw
          case rel => exact ⟨t + 1, by go_num, by omega, HI2, trivial⟩
          case measure => simp [intOf]; omega
    · obtain rfl : t = cols.length := by omega
      have HIN := Aside0.mk (inHd_yes HI.out)
      clear HI
      obtain ⟨W0, hW0'⟩ : ∃ W0, W0 = wr := ⟨_, rfl⟩
      subst hW0'
      go_wp2_with (first
        | (go_at_call 48; refine (kall_calls rows.length (by omega) _).mono ?_; rintro e w1 ⟨v, rfl, ho, hb1⟩; obtain ⟨Aa, ca, rfl, hca, hCa⟩ := Kd.R_reads ho))
      have HC1 := Aside0.mk (C_one w1 Aa ca (allR rows.length) hCa hca)
      have HB1 := Aside0.mk (below_alloc hb1 (.cells #[.slice Aa (allR rows.length).length ca] 42))
      clear hca hCa ho hb1 hT0 hT1
      go_loopw [7, 33] (fun vo vi wk => ∃ (t : Nat) (A : Option Addr) (cc : Nat), vi = .int .i64 t ∧ t ≤ cols.length ∧ vo = .slice A (groupsR (cellR rows) rows.length (cols.take t)).length cc ∧
          Aside0 (Kd.C (Kd.slice 3 (Kd.int .i64)) wk A (groupsR (cellR rows) rows.length (cols.take t)).length (groupsR (cellR rows) rows.length (cols.take t))) ∧ Aside0 (Below W0.heap.size W0 wk))
        (fun _ vi _ => cols.length - (intOf vi).toNat)
      case atStart => exact ⟨0, _, _, rfl, Nat.zero_le _, rfl, HC1, HB1⟩
      case round =>
        obtain ⟨t, A, cc, rfl, ht, rfl, HC, HB⟩ := hrel
        clear HC1 HB1
        have hgl := groups_len (cellR rows) rows.length (cols.take t)
        by_cases hlt : t < cols.length
        · have hltI : (t : Int) < (cols.length : Int) := by omega
          have hT0 := blk_cell (blk_below HT.out HB.out) 0
          have hT1 := blk_cell (blk_below HT.out HB.out) 1
          obtain ⟨ad, eA, hy⟩ := intAt (Kd.C_below HR.out.2.2 HB.out) hlt
          cases eA
          have htk := take_rdI hlt
          generalize rd cols (t : Int) = c at *
          have hgl2 := groups_len (cellR rows) rows.length (cols.take (t + 1))
          have HE := Aside0.mk (show groupsR (cellR rows) rows.length (cols.take (t + 1)) = splitR (cellR rows) (groupsR (cellR rows) rows.length (cols.take t)) c by rw [htk, groups_snoc])
          rw [HE.out] at hgl2
          have HM := Aside0.mk (groups_mem (cellR rows) rows.length (cols.take t))
          generalize groupsR (cellR rows) rows.length (cols.take t) = L at *
          clear htk
          go_wp2_with (first
            | (go_at_call 49; refine (split_calls A0 c0 hd A1 c1 rows A cc L c rows.length _ (Kd.C_below HR.out.1 HB.out) hc0 (Kd.C_below HR.out.2.1 HB.out) hc1 HC.out (by omega) HM.out (by omega) (by omega) HZ.out).mono ?_; rintro e w2 ⟨v, rfl, ho, hb2⟩; obtain ⟨A', c', rfl, hc', hC'⟩ := Kd.R_reads ho))
          have HC2 := Aside0.mk hC'
          have HB2 := Aside0.mk (below_step HB.out hb2)
          clear ho hC' hb2 HM hgl hgl2 HC
          go_roundw
          case rel => exact ⟨t + 1, _, _, by go_num, by omega, by rw [HE.out], by rw [HE.out]; exact HC2, HB2⟩
          case measure => simp [intOf]; omega
        · obtain rfl : t = cols.length := by omega
          rw [List.take_length] at *
          have hu : uniqR hd rows cols = (decide (0 < cols.length) && decide ((groupsR (cellR rows) rows.length cols).length = 0)) := by unfold uniqR; rw [HIN.out]; rfl
          rw [hu] at hr
          have HB3 := Aside0.mk (below_step HB0.out HB.out)
          clear hu HC
          generalize (groupsR (cellR rows) rows.length cols).length = n at *
          by_cases h1 : 0 < cols.length
          · have h1I : (cols.length : Int) > 0 := by omega
            by_cases h2 : n = 0
            · subst h2
              go_wp2
              go_ret
              exact ⟨by rw [← hr.out]; simp [h1], HB3.out⟩
            · have h2I : ((n : Int) == 0) = false := by simp; omega
              have h2J : ¬ (n : Int) = 0 := by omega
              go_wp2
              go_ret
              exact ⟨by rw [← hr.out]; simp [h2], HB3.out⟩
          · have h1I : ¬ (cols.length : Int) > 0 := by omega
            go_wp2
            go_ret
            exact ⟨by rw [← hr.out]; simp [h1], HB3.out⟩

/-- Are tables such as a proof holds for? -/
def okU (rows : List (List ByteArray)) (cols : List Int) : Bool := decide (rows.length ≤ 50000) && decide (cols.length ≤ 100000) && rows.all fun r => r.all fun s => decide (s.size ≤ maxLen)
theorem okU_cell {rows : List (List ByteArray)} {cols : List Int} (h : okU rows cols = true) : rows.length ≤ 50000 ∧ cols.length ≤ 100000 ∧ ∀ i j, (cellR rows i j).size ≤ maxLen := by
  unfold okU at h
  rw [Bool.and_eq_true, Bool.and_eq_true, decide_eq_true_eq, decide_eq_true_eq, List.all_eq_true] at h
  refine ⟨h.1.1, h.1.2, fun i j => ?_⟩
  unfold cellR
  split
  · rename_i hc
    have h1 : i.toNat < rows.length := by omega
    have e1 : rows.getD i.toNat [] = rows[i.toNat] := by rw [List.getD_eq_getElem?_getD, List.getElem?_eq_getElem h1]; rfl
    have h2 := h.2 _ (List.getElem_mem h1)
    rw [List.all_eq_true] at h2
    rw [e1] at hc ⊢
    have h3 : j.toNat < rows[i.toNat].length := by omega
    have e2 : rows[i.toNat].getD j.toNat ByteArray.empty = rows[i.toNat][j.toNat] := by rw [List.getD_eq_getElem?_getD, List.getElem?_eq_getElem h3]; rfl
    rw [e2]
    simpa using h2 _ (List.getElem_mem h3)
  · simp [maxLen]
def keys_Unique.f (l0_0 : List ByteArray) (l0_1 : List (List ByteArray)) (l1 : List Int) : Option Bool := if okU l0_1 l1 = true then some (uniqR l0_0 l0_1 l1) else none
theorem keys_Unique.calls (A0_0 : Option Addr) (c0_0 : Nat) (l0_0 : List ByteArray) (A0_1 : Option Addr) (c0_1 : Nat) (l0_1 : List (List ByteArray)) (A1 : Option Addr) (c1 : Nat) (l1 : List Int) (r : Bool) (w : World) (hr0_0 : Kd.C Kd.string w A0_0 l0_0.length l0_0) (hc0_0 : l0_0.length ≤ c0_0) (hr0_1 : Kd.C (Kd.slice 9 Kd.string) w A0_1 l0_1.length l0_1) (hc0_1 : l0_1.length ≤ c0_1) (hr1 : Kd.C (Kd.int .i64) w A1 l1.length l1) (hc1 : l1.length ≤ c1) (h : keys_Unique.f l0_0 l0_1 l1 = some r) :
    Calls Try.prog 32 #[.agg #[.slice A0_0 l0_0.length c0_0, .slice A0_1 l0_1.length c0_1], .slice A1 l1.length c1] w fun e w' => e = .returned (.bool r) ∧ Below w.heap.size w w' := by
  unfold keys_Unique.f at h
  split at h
  · rename_i hok
    obtain ⟨h1, h2, h3⟩ := okU_cell hok
    rw [← Option.some.inj h]
    exact unique_calls A0_0 c0_0 l0_0 A0_1 c0_1 l0_1 A1 c1 l1 w hr0_0 hc0_0 hr0_1 hc0_1 hr1 h1 h2 h3
  · exact nomatch h
end Go.Proofs.Ytchpgkojlhipgaa.X
