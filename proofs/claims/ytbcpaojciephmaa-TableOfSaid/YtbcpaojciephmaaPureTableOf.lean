/- TableOf: plain. -/
import Derived.Test.YtbcpaojciephmaaX16
import Derived.Test.YtbcpaojciephmaaPTableOk
import Derived.Test.YtbcpaojciephmaaROpen
namespace Go.Proofs.Ytbcpaojciephmaa.X
open Go.RowKit Go.Proofs.YtbcpaojciephmaaW.PrintWords
set_option linter.unusedVariables false
theorem rof_cons (hd : List ByteArray) (rows : List (List ByteArray)) (s : Sm hd rows) {k : Nat} (hk : 40000 ≤ k) : tartanref04_Of.f k (hd :: rows) = some (ofR (hd :: rows)) := by
  unfold tartanref04_Of.f
  rw [if_neg (by rw [List.length_cons]; omega), if_pos (by rw [List.length_cons]; omega), if_pos (by rw [List.length_cons]; omega), Option.bind_some]
  have e1 : rd_L1 (hd :: rows) 0 = hd := rfl
  have e2 : (hd :: rows).drop 1 = rows := rfl
  rw [e1, e2, chk_some hd rows s hk, Option.bind_some]
  by_cases hc : checkT hd rows = 0
  · rw [if_pos hc, ofR, if_pos hc]
  · rw [if_neg hc, ofR, if_neg hc]
theorem pure_TableOf : ∀ (x0 : List (List (ByteArray))), okT23 x0 → ∃ k, tartanlaw04_TableOf.f k x0 = some true := by
  intro x0 o0
  obtain ⟨k, hk⟩ := fuel04
  refine ⟨k + 60, ?_⟩
  unfold tartanlaw04_TableOf.f
  rw [works04, Option.bind_some, if_pos rfl]
  obtain ⟨b, e, hb⟩ := few_some x0 (k := k + 60) (by omega)
  rw [e, Option.bind_some]
  cases b with
  | false => rw [if_neg (by decide)]
  | true =>
    obtain ⟨hl, hw⟩ := hb rfl
    rw [if_pos rfl]
    cases x0 with
    | nil =>
      have e1 : table_Of.f [] = some ([], [], 8) := rfl
      have e2 : tartanref04_Of.f (k + 60) [] = some ([], [], 8) := by unfold tartanref04_Of.f; rfl
      rw [e1, Option.bind_some, e2, Option.bind_some, tsame_some _ _ _ _ ⟨by simp, by simp, fun j hj => by simp at hj⟩ (by omega), Option.bind_some]
      simp
    | cons hd rows =>
      have s : Sm hd rows := ⟨by have := hw 0 (by simp); simpa using Nat.le_trans this (by decide), by simp at hl; omega, fun j hj => by have := hw (j + 1) (by simp; omega); simp at this; simp; omega⟩
      rw [s.of (fun c hc => (o0.2 hd (by simp)).2 c hc), Option.bind_some, rof_cons _ _ s (by omega), Option.bind_some]
      have s2 : Sm (ofR (hd :: rows)).1 (ofR (hd :: rows)).2.1 := by
        by_cases hc : checkT hd rows = 0
        · have e : ofR (hd :: rows) = (hd, rows, 0) := by rw [ofR, if_pos hc]
          rw [e]; exact s
        · have e : ofR (hd :: rows) = ([], [], checkT hd rows) := by rw [ofR, if_neg hc]
          rw [e]; exact ⟨by simp, by simp, fun j hj => by simp at hj⟩
      rw [tsame_some _ _ _ _ s2 (by omega), Option.bind_some]
      simp
end Go.Proofs.Ytbcpaojciephmaa.X
