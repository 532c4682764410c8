/- A cell of a table, plainly. -/
import Derived.Test.YtchpgkojlhipgaaX1
namespace Go.Proofs.Ytchpgkojlhipgaa.X
open Go.RowKit Go.Proofs.YtchpgkojlhipgaaW.PrintWords
set_option linter.unusedVariables false
/-- A cell. -/
def cellR (rows : List (List ByteArray)) (r c : Int) : ByteArray := if 0 ≤ r ∧ r < (rows.length : Int) ∧ 0 ≤ c ∧ c < ((rows.getD r.toNat []).length : Int) then (rows.getD r.toNat []).getD c.toNat ByteArray.empty else ByteArray.empty
theorem cell_some (h : List ByteArray) (rows : List (List ByteArray)) (r c : Int) : table_Cell.f h rows r c = some (cellR rows r c) := by
  unfold table_Cell.f cellR
  by_cases h0 : r < 0
  · rw [if_pos h0, if_neg (by omega)]; rfl
  · rw [if_neg h0]
    by_cases h1 : r ≥ (rows.length : Int)
    · rw [if_pos h1, if_neg (by omega)]; rfl
    · rw [if_neg h1]
      by_cases h2 : c < 0
      · rw [if_pos h2, if_neg (by omega)]; rfl
      · rw [if_neg h2, if_pos (by omega), if_pos (by omega)]
        show (if c ≥ (((rows.getD r.toNat []).length : Nat) : Int) then _ else (if 0 ≤ c then (if c < (((rows.getD r.toNat []).length : Nat) : Int) then _ else _) else _)) = _
        by_cases h3 : c ≥ ((rows.getD r.toNat []).length : Int)
        · rw [if_pos h3, if_neg (by omega)]; rfl
        · rw [if_neg h3, if_pos (by omega)]
          have h4 : c < ((rows.getD r.toNat []).length : Int) := by omega
          rw [if_pos h4, if_pos ⟨by omega, by omega, by omega, h4⟩]
          rfl
end Go.Proofs.Ytchpgkojlhipgaa.X
