/- TableTells: plain. -/
import Derived.Test.YtbcpaojciephmaaX14
import Derived.Test.YtbcpaojciephmaaPTable2
import Derived.Test.YtbcpaojciephmaaROpen
namespace Go.Proofs.Ytbcpaojciephmaa.X
open Go.RowKit Go.Proofs.YtbcpaojciephmaaW.PrintWords
set_option linter.unusedVariables false
theorem pure_TableTells : ∀ (x0 : S25) (x1 : ByteArray) (x2 : Int) (x3 : Int), okT25 x0 → okT9 x1 → okT3 x2 → okT3 x3 → ∃ k, tartanlaw04_TableTells.f k x0.f0 x0.f1 x1 x2 x3 = some true := by
  intro x0 x1 x2 x3 o0 o1 o2 o3
  obtain ⟨k, hk⟩ := fuel04
  refine ⟨k + 60, ?_⟩
  unfold tartanlaw04_TableTells.f
  rw [works04, Option.bind_some, if_pos rfl]
  obtain ⟨b, e, hb⟩ := fewT x0.f0 x0.f1 (k := k + 60) (by omega)
  rw [e, Option.bind_some]
  cases b with
  | false => rw [if_neg (by decide)]
  | true =>
    have s := hb rfl
    have h1 := s.h
    have h2 := s.r
    have h3 := columnT_len x0.f0 x0.f1 x3
    obtain ⟨r, hr, er⟩ := find_some x0.f0 x0.f1 x1 (k := k + 60) (by omega) (by omega)
    obtain ⟨q, hq, eq⟩ := rfind_some x0.f0 x0.f1 x1 (k := k + 60) (by omega) (by omega)
    obtain rfl := hr.uniq hq
    rw [if_pos rfl, col_some _ _ _ (by omega) (by omega), Option.bind_some, rcol_some _ _ _ (by omega) (by omega), Option.bind_some, row_some _ _ (by omega) (by omega), Option.bind_some, s.recs, Option.bind_some, rrec_some _ _ (by omega), Option.bind_some,
      same_some _ _ (by simp; omega) (fun j hj => by
        cases j with
        | zero => simp; omega
        | succ j => simp at hj; have := s.w j (by omega); simp at this ⊢; omega) (by omega), Option.bind_some, if_pos (by simp), if_pos (by simp), er, Option.bind_some, eq, Option.bind_some, if_pos rfl, cell_some, Option.bind_some, rcell_some, Option.bind_some]
    simp
end Go.Proofs.Ytbcpaojciephmaa.X
