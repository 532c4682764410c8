/- IndexSorted: plain. -/
import Derived.Test.YtchpgkojlhipgaaX16
import Derived.Test.YtchpgkojlhipgaaPIndex
import Derived.Test.YtchpgkojlhipgaaROpen
namespace Go.Proofs.Ytchpgkojlhipgaa.X
open Go.RowKit Go.Proofs.YtchpgkojlhipgaaW.PrintWords
set_option linter.unusedVariables false
theorem build_nodup (rows : List (List ByteArray)) (cols : List Int) : (buildR rows cols).Nodup := by
  refine (sortB_perm rows cols _).nodup_iff.2 ?_
  unfold rngI
  refine List.pairwise_map.2 (List.Pairwise.imp ?_ List.nodup_range)
  intro a b h e
  exact h (by omega)
theorem sorted_l0 (h : List ByteArray) (rows : List (List ByteArray)) (cols : List Int) (hr : rows.length ≤ 1000) (hc : cols.length ≤ 1000) : ∀ (d k i : Nat) (seen : List Bool), i + d = rows.length → 2 * d + 3000 < k → seen.length = rows.length →
    (∀ j, i ≤ j → j < rows.length → seen.getD (rd (buildR rows cols) (j : Int)).toNat false = false) → tartanlaw12_IndexSorted.l0 k cols true (buildR rows cols) seen (i : Nat) h rows = some true := by
  have hl := buildR_len rows cols
  intro d
  induction d with
  | zero =>
    intro k i seen hi hk hs hf
    obtain ⟨k, rfl⟩ : ∃ m, k = m + 1 := ⟨k - 1, by omega⟩
    simp only [tartanlaw12_IndexSorted.l0]
    rw [if_neg (by omega), if_pos trivial]
    congr 1
    simp only [beq_iff_eq]
    omega
  | succ d ih =>
    intro k i seen hi hk hs hf
    obtain ⟨k, rfl⟩ : ∃ m, k = m + 2 := ⟨k - 2, by omega⟩
    have hm := (build_mem rows cols).1 (rd_memK (l := buildR rows cols) (i := i) (by omega))
    have hfi := hf i (Nat.le_refl _) (by omega)
    have hfi' : rdOf false seen (rd (buildR rows cols) (i : Int)) = false := hfi
    simp only [tartanlaw12_IndexSorted.l0]
    rw [if_pos (by omega), if_pos (by omega), if_neg (by omega), if_neg (by omega), if_pos (by omega), if_pos (by omega), hfi']
    simp only [tartanlaw12_IndexSorted.j1]
    rw [if_neg (by decide), if_pos (by omega), if_pos (by omega), if_pos (by omega), if_pos (by omega), Option.bind_some]
    have hnext : ∀ j, i + 1 ≤ j → j < rows.length → (seen.set (rd (buildR rows cols) (i : Int)).toNat true).getD (rd (buildR rows cols) (j : Int)).toNat false = false := by
      intro j h1 h2
      have hmj := (build_mem rows cols).1 (rd_memK (l := buildR rows cols) (i := j) (by omega))
      have hne : (rd (buildR rows cols) (i : Int)).toNat ≠ (rd (buildR rows cols) (j : Int)).toNat := by
        intro e
        have e2 : rd (buildR rows cols) (i : Int) = rd (buildR rows cols) (j : Int) := by omega
        rw [rd_getI (by omega), rd_getI (by omega)] at e2
        exact List.pairwise_iff_getElem.1 (build_nodup rows cols) i j (by omega) (by omega) (by omega) e2
      rw [List.getD_eq_getElem?_getD, List.getElem?_set, if_neg hne, ← List.getD_eq_getElem?_getD]
      exact hf j (by omega) h2
    have hI := ih k (i + 1) (seen.set (rd (buildR rows cols) (i : Int)).toNat true) (by omega) (by omega) (by rw [List.length_set]; exact hs) hnext
    by_cases h0 : i = 0
    · rw [if_pos (by omega), wrap_upK _ (by omega), hI]
    · have e1 : wrap64 ((i : Int) - 1) = ((i - 1 : Nat) : Int) := by rw [wrap_inK (by omega) (by omega)]; omega
      have hle := (leB_iff rows cols).1 (build_le rows cols (show i - 1 < i by omega) (by omega))
      unfold kc at hle
      rw [if_neg (by omega), e1, if_pos (by omega), if_pos (by omega), gkey_some (by omega) (by omega), Option.bind_some, gkey_some (by omega) (by omega), Option.bind_some, gcmp_some (by rw [keyR_len]; omega) (by rw [keyR_len]; omega) (by rw [keyR_len]; omega), Option.bind_some, if_neg (by omega)]
      by_cases c : cmpS (keyR rows (rd (buildR rows cols) ((i - 1 : Nat) : Int)) cols) (keyR rows (rd (buildR rows cols) (i : Int)) cols) = 0
      · have hne : rd (buildR rows cols) ((i - 1 : Nat) : Int) ≠ rd (buildR rows cols) (i : Int) := by
          intro e2
          rw [rd_getI (by omega), rd_getI (by omega)] at e2
          exact List.pairwise_iff_getElem.1 (build_nodup rows cols) (i - 1) i (by omega) (by omega) (by omega) e2
        rw [if_pos c, if_neg (by omega), wrap_upK _ (by omega), hI]
      · rw [if_neg c, wrap_upK _ (by omega), hI]
theorem pure_IndexSorted : ∀ (x0 : S41) (x1 : List Int), okT41 x0 → okT42 x1 → ∃ k, tartanlaw12_IndexSorted.f k x0.f0 x0.f1 x1 = some true := by
  intro x0 x1 o0 o1
  obtain ⟨k, hk⟩ := fuel12
  refine ⟨k + 60, ?_⟩
  unfold tartanlaw12_IndexSorted.f
  rw [works12, Option.bind_some, if_pos rfl]
  obtain ⟨b, e, hb⟩ := few12 x0.f0 x0.f1 x1 (k := k + 60) (by omega)
  rw [e, Option.bind_some]
  cases b with
  | false => rw [if_neg (by decide)]
  | true =>
    obtain ⟨h1, h2⟩ := hb rfl
    have hl := buildR_len x0.f1 x1
    rw [if_pos rfl, build_some (by omega) (by omega), Option.bind_some, if_pos (by omega), if_pos (by omega)]
    refine sorted_l0 x0.f0 x0.f1 x1 (by omega) (by omega) x0.f1.length (k + 60) 0 _ (by omega) (by omega) (by rw [List.length_replicate]; rfl) (fun j _ _ => ?_)
    rw [List.getD_eq_getElem?_getD, List.getElem?_replicate]
    split <;> rfl
end Go.Proofs.Ytchpgkojlhipgaa.X
