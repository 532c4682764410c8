/- TableBack: plain. -/
import Derived.Test.YtbcpaojciephmaaX17
import Derived.Test.YtbcpaojciephmaaPTableOk
import Derived.Test.YtbcpaojciephmaaROpen
namespace Go.Proofs.Ytbcpaojciephmaa.X
open Go.RowKit Go.Proofs.YtbcpaojciephmaaW.PrintWords
set_option linter.unusedVariables false
theorem back_j1 (l : List (List ByteArray)) (hl : l.length ≤ 60) (hw : ∀ j, j < l.length → (l.getD j []).length ≤ 60) (ho : ∀ y ∈ l, ∀ c ∈ y, c.size ≤ maxLen) {k : Nat} (hk : 100000 ≤ k) : tartanlaw04_TableBack.j1 (k + 1) l true false = some true := by
  simp only [tartanlaw04_TableBack.j1]
  rw [if_neg (by decide)]
  cases l with
  | nil =>
    have e : table_Of.f [] = some ([], [], 8) := rfl
    rw [e, Option.bind_some]
    simp
  | cons hd rows =>
    have s : Sm hd rows := ⟨by have := hw 0 (by simp); simpa using Nat.le_trans this (by decide), by simp at hl; omega, fun j hj => by have := hw (j + 1) (by simp; omega); simp at this; simp; omega⟩
    rw [s.of (ho hd (by simp)), Option.bind_some]
    by_cases hc : checkT hd rows = 0
    · have e : ofR (hd :: rows) = (hd, rows, 0) := by rw [ofR, if_pos hc]
      rw [e]
      dsimp only
      rw [if_pos rfl, s.recs, Option.bind_some, same_some _ _ (by omega) (fun j hj => by have := hw j hj; omega) (by omega), Option.bind_some, if_pos trivial, if_pos (by simp), s.check (ho hd (by simp)), Option.bind_some, hc]
      rfl
    · have e : ofR (hd :: rows) = ([], [], checkT hd rows) := by rw [ofR, if_neg hc]
      rw [e]
      dsimp only
      rw [if_neg hc]
      simp
theorem pure_TableBack : ∀ (x0 : S25) (x1 : List (List (ByteArray))), okT25 x0 → okT23 x1 → ∃ k, tartanlaw04_TableBack.f k x0.f0 x0.f1 x1 = some true := by
  intro x0 x1 o0 o1
  obtain ⟨k, hk⟩ := fuel04
  refine ⟨k + 60, ?_⟩
  unfold tartanlaw04_TableBack.f
  rw [works04, Option.bind_some, if_pos rfl]
  obtain ⟨b, e, hb⟩ := fewT x0.f0 x0.f1 (k := k + 60) (by omega)
  rw [e, Option.bind_some]
  cases b with
  | false => rw [if_neg (by decide)]; simp [tartanlaw04_TableBack.j0]
  | true =>
    have s := hb rfl
    rw [if_pos rfl]
    obtain ⟨b2, e2, hb2⟩ := few_some x1 (k := k + 60) (by omega)
    rw [e2, Option.bind_some]
    cases b2 with
    | false => simp [tartanlaw04_TableBack.j0]
    | true =>
      obtain ⟨g1, g2⟩ := hb2 rfl
      have hj := back_j1 x1 g1 g2 (fun y hy c hc => (o1.2 y hy).2 c hc) (k := k + 58) (by omega)
      simp only [tartanlaw04_TableBack.j0]
      rw [if_pos trivial, s.recs, Option.bind_some, s.of o0.1.2, Option.bind_some, s.check o0.1.2, Option.bind_some]
      by_cases hc : checkT x0.f0 x0.f1 = 0
      · have e : ofR (x0.f0 :: x0.f1) = (x0.f0, x0.f1, 0) := by rw [ofR, if_pos hc]
        rw [e]
        dsimp only
        rw [if_pos hc.symm, if_pos rfl]
        simp only [table_Same.f, decide_true, Bool.and_true, Option.bind_some, Bool.not_true]
        exact hj
      · have e : ofR (x0.f0 :: x0.f1) = ([], [], checkT x0.f0 x0.f1) := by rw [ofR, if_neg hc]
        rw [e]
        dsimp only
        rw [if_pos rfl, if_neg hc]
        exact hj
end Go.Proofs.Ytbcpaojciephmaa.X
