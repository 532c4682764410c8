/- The table laws: what they share. -/
import Derived.Test.YtbcpaojciephmaaPTable
import Derived.Test.YtbcpaojciephmaaGOf
import Derived.Test.YtbcpaojciephmaaGRecords
import Derived.Test.YtbcpaojciephmaaX6
import Derived.KernelRfl
namespace Go.Proofs.Ytbcpaojciephmaa.X
open Go.RowKit Go.Proofs.YtbcpaojciephmaaW.PrintWords
set_option linter.unusedVariables false
theorem works04 : ∀ k, tartanlaw04_works.f (k + 60) = some true := by intro k; kernel_rfl
theorem fuel04 : ∃ k : Nat, 200000 ≤ k := ⟨200000, Nat.le_refl _⟩
theorem fewT (h : List ByteArray) (rows : List (List ByteArray)) {k : Nat} (hk : 10000 ≤ k) : ∃ b, tartanref04_Few.f k h rows = some b ∧ (b = true → Sm h rows) := by
  obtain ⟨b, e, hb⟩ := few4_some h rows hk
  exact ⟨b, e, fun h => by
    obtain ⟨h1, h2, h3⟩ := hb h
    exact ⟨by omega, by omega, fun j hj => by have := h3 j hj; omega⟩⟩
theorem Sm.ok {hd : List ByteArray} {rows : List (List ByteArray)} (s : Sm hd rows) (h : ∀ y ∈ hd, y.size ≤ maxLen) : okT hd rows = true := by
  have h1 := s.h
  have h2 := s.r
  simp only [okT, Bool.and_eq_true, decide_eq_true_eq, List.all_eq_true]
  exact ⟨⟨by omega, by omega⟩, h⟩
theorem Sm.mem {hd : List ByteArray} {rows : List (List ByteArray)} (s : Sm hd rows) : ∀ r ∈ rows, r.length ≤ 100 := by
  intro r hr
  obtain ⟨j, hj, e⟩ := List.getElem_of_mem hr
  have := s.w j hj
  rw [List.getD_eq_getElem?_getD, List.getElem?_eq_getElem hj] at this
  rw [← e]; exact this
theorem Sm.recs {hd : List ByteArray} {rows : List (List ByteArray)} (s : Sm hd rows) : table_Records.f hd rows = some (hd :: rows) := by
  have h1 := s.h
  have h2 := s.r
  unfold table_Records.f
  rw [if_pos]
  simp only [okRec, Bool.and_eq_true, decide_eq_true_eq, List.all_eq_true]
  exact ⟨⟨by omega, by omega⟩, fun r hr => by have := s.mem r hr; omega⟩
theorem Sm.total {hd : List ByteArray} {rows : List (List ByteArray)} (s : Sm hd rows) : table_Total.f hd rows = some (totalR hd rows) := by
  have h2 := s.r
  unfold table_Total.f
  rw [if_pos (by omega)]
theorem Sm.check {hd : List ByteArray} {rows : List (List ByteArray)} (s : Sm hd rows) (h : ∀ y ∈ hd, y.size ≤ maxLen) : table_Check.f hd rows = some (checkT hd rows) := by
  unfold table_Check.f
  rw [if_pos (s.ok h)]
theorem Sm.of {hd : List ByteArray} {rows : List (List ByteArray)} (s : Sm hd rows) (h : ∀ y ∈ hd, y.size ≤ maxLen) : table_Of.f (hd :: rows) = some (ofR (hd :: rows)) := by
  have h1 := s.h
  unfold table_Of.f
  rw [if_pos]
  simp only [okOf, Bool.and_eq_true, decide_eq_true_eq, List.all_eq_true]
  exact ⟨⟨s.ok h, by omega⟩, fun r hr => by have := s.mem r hr; omega⟩
end Go.Proofs.Ytbcpaojciephmaa.X
