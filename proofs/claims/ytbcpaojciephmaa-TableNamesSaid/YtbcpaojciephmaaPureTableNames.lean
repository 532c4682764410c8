/- TableNames: plain. -/
import Derived.Test.YtbcpaojciephmaaX18
import Derived.Test.YtbcpaojciephmaaPTable2
import Derived.Test.YtbcpaojciephmaaROpen
namespace Go.Proofs.Ytbcpaojciephmaa.X
open Go.RowKit Go.Proofs.YtbcpaojciephmaaW.PrintWords
set_option linter.unusedVariables false
theorem checkT_zero {hd : List ByteArray} {rows : List (List ByteArray)} (h : checkT hd rows = 0) : hd.Nodup ∧ ∀ i, i < rows.length → (rows.getD i []).length = hd.length := by
  rw [check_eq] at h
  by_cases h1 : hd.length = 0
  · rw [if_pos h1] at h; cases h
  · rw [if_neg h1] at h
    by_cases h2 : wideR rows hd.length = true
    · rw [if_pos h2] at h; cases h
    · rw [if_neg h2] at h
      by_cases h3 : hd.Nodup
      · refine ⟨h3, fun i hi => ?_⟩
        rcases Nat.decEq (rows.getD i []).length hd.length with h4 | h4
        · exact absurd (wide_yes hi h4) h2
        · exact h4
      · rw [if_neg h3] at h; cases h
theorem names_l0 (hd : List ByteArray) (rows : List (List ByteArray)) (c : Int) (hc0 : 0 ≤ c) (hc : c < (hd.length : Int)) (hr : rows.length ≤ 1000) (hw : ∀ i, i < rows.length → (rows.getD i []).length = hd.length) : ∀ (d k i : Nat), i + d = rows.length → d < k → tartanlaw04_TableNames.l0 k c true (colT rows c rows.length) (i : Nat) hd rows = some true := by
  intro d
  induction d with
  | zero =>
    intro k i hi hk
    obtain ⟨k, rfl⟩ : ∃ m, k = m + 1 := ⟨k - 1, by omega⟩
    simp only [tartanlaw04_TableNames.l0]
    rw [if_neg (by rw [colT_len]; omega)]
  | succ d ih =>
    intro k i hi hk
    obtain ⟨k, rfl⟩ : ∃ m, k = m + 1 := ⟨k - 1, by omega⟩
    have hwi := hw i (by omega)
    have e1 : rdOf ByteArray.empty (colT rows c rows.length) (i : Int) = cellT rows (i : Int) c := by
      unfold rdOf
      rw [show ((i : Int)).toNat = i from rfl, List.getD_eq_getElem?_getD, colT_get _ _ (by omega)]; rfl
    have e2 : cellT rows (i : Int) c = rdOf ByteArray.empty (rows.getD i []) c := by
      unfold cellT
      rw [show ((i : Int)).toNat = i from rfl, if_neg (by omega)]
    simp only [tartanlaw04_TableNames.l0]
    rw [if_pos (by rw [colT_len]; omega), if_pos (by omega), cell_some, Option.bind_some, e1, if_pos rfl, if_pos (by omega), if_pos hc0, rdL_get, if_pos (by omega), e2, if_pos rfl, wrap_upF _ (by omega)]
    exact ih k (i + 1) (by omega) (by omega)
theorem names_j2 (hd : List ByteArray) (rows : List (List ByteArray)) (s : Sm hd rows) (hz : checkT hd rows = 0) (x : ByteArray) (t c : Int) (ht : FindAt hd x t) {k : Nat} (hk : 100000 ≤ k) :
    tartanlaw04_TableNames.j1 k x c true t false hd rows = some true := by
  obtain ⟨hn, hw⟩ := checkT_zero hz
  have h1 := s.h
  have h2 := s.r
  obtain ⟨k, rfl⟩ : ∃ m, k = m + 3 := ⟨k - 3, by omega⟩
  have key1 : ∀ b, b = decide (c < 0 ∨ c ≥ (hd.length : Int)) → tartanlaw04_TableNames.j2 (k + 2) x c true t b hd rows = some true := by
    rintro b rfl
    simp only [tartanlaw04_TableNames.j2]
    by_cases hb : c < 0 ∨ c ≥ (hd.length : Int)
    · rw [if_pos (decide_eq_true hb), if_pos trivial, col_some _ _ _ (by omega) (by omega), Option.bind_some]
      have e : columnT hd rows c = [] := if_pos hb
      rw [e]; rfl
    · have hc0 : 0 ≤ c := by omega
      have hc1 : c < (hd.length : Int) := by omega
      rw [if_neg (by rw [decide_eq_true_eq]; exact hb), col_some _ _ _ (by omega) (by omega), Option.bind_some, if_pos hc0, if_pos hc1]
      have e : columnT hd rows c = colT rows c rows.length := if_neg hb
      rw [e]
      obtain ⟨r, hr, er⟩ := find_some hd rows (rdOf ByteArray.empty hd c) (k := k + 1) (by omega) (by omega)
      have hrc : r = c := by
        refine hr.uniq (.inr ⟨c.toNat, by omega, by omega, ?_, fun j hj => ?_⟩)
        · rw [show ((c.toNat : Nat) : Int) = c by omega]
        · have := (first_nodup hd).1 hn c.toNat (by omega) j hj
          rw [show ((c.toNat : Nat) : Int) = c by omega] at this
          exact this
      rw [er, Option.bind_some, if_pos hrc, if_pos (by rw [colT_len])]
      have fin : tartanlaw04_TableNames.j3 (k + 1) c true (colT rows c rows.length) false hd rows = some true := by
        simp only [tartanlaw04_TableNames.j3]
        rw [if_neg (by decide)]
        exact names_l0 hd rows c hc0 hc1 (by omega) hw rows.length k 0 (by omega) (by omega)
      by_cases h9 : t < 0
      · rw [if_pos h9]
        have hne : ((rdOf ByteArray.empty hd c).toList == x.toList) = false := by
          refine bytes_ne fun e2 => ?_
          rcases ht with ⟨_, ht⟩ | ⟨i, rfl, _⟩
          · have := ht c.toNat (by omega)
            rw [show ((c.toNat : Nat) : Int) = c by omega] at this
            exact this e2
          · omega
        rw [hne]; exact fin
      · rw [if_neg h9]; exact fin
  simp only [tartanlaw04_TableNames.j1]
  rw [if_neg (by decide)]
  by_cases h3 : c < 0
  · rw [if_pos h3]; exact key1 true (decide_eq_true (.inl h3)).symm
  · rw [if_neg h3]
    refine key1 _ ?_
    by_cases h4 : c ≥ (hd.length : Int)
    · rw [decide_eq_true h4, decide_eq_true (.inr h4)]
    · rw [decide_eq_false h4, decide_eq_false (by omega)]
theorem pure_TableNames : ∀ (x0 : S25) (x1 : ByteArray) (x2 : Int), okT25 x0 → okT9 x1 → okT3 x2 → ∃ k, tartanlaw04_TableNames.f k x0.f0 x0.f1 x1 x2 = some true := by
  intro x0 x1 x2 o0 o1 o2
  obtain ⟨k, hk⟩ := fuel04
  refine ⟨k + 60, ?_⟩
  unfold tartanlaw04_TableNames.f
  rw [works04, Option.bind_some, if_pos rfl]
  obtain ⟨b, e, hb⟩ := fewT x0.f0 x0.f1 (k := k + 60) (by omega)
  rw [e, Option.bind_some]
  cases b with
  | false => rw [if_neg (by decide)]; simp [tartanlaw04_TableNames.j0]
  | true =>
    have s := hb rfl
    have h1 := s.h
    rw [if_pos rfl, s.check o0.1.2, Option.bind_some]
    by_cases hz : checkT x0.f0 x0.f1 = 0
    · obtain ⟨t, ht, et⟩ := find_some x0.f0 x0.f1 x1 (k := k + 59) (by omega) (by omega)
      have hj := names_j2 x0.f0 x0.f1 s hz x1 t x2 ht (k := k + 59) (by omega)
      rw [hz]
      simp only [tartanlaw04_TableNames.j0]
      rw [if_neg (by decide), et, Option.bind_some]
      rcases ht with ⟨rfl, _⟩ | ⟨i, rfl, hi, he, _⟩
      · rw [if_neg (by omega), if_neg (by omega)]; exact hj
      · rw [if_neg (by omega), if_pos (by omega), if_pos (by omega), if_pos (by omega)]
        have e2 : ((rdOf ByteArray.empty x0.f0 (i : Int)).toList != x1.toList) = false := by
          have h5 : rdOf ByteArray.empty x0.f0 (i : Int) = x1 := he
          rw [h5]; simp
        rw [e2]; exact hj
    · simp only [tartanlaw04_TableNames.j0]
      rw [if_pos (by simpa using hz)]
end Go.Proofs.Ytbcpaojciephmaa.X
