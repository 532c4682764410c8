/- EditRows: for every input the law returns true, and its arguments read as they did. -/
import Derived.Test.YtaolakknkhggnaaRows
import Derived.WalkKit
import Derived.ProofKit
import Derived.OpenShut
import Derived.ShutString
import Derived.ChangeOld
import Derived.Below
import Derived.Test.YtaolakknkhggnaaCEditRows08
namespace Go.Proofs.Ytaolakknkhggnaa.editRows
open Go.ChangeShapes Go.WideShapes Go.ChangeAt Go.RowKit Go.Proofs.Ytaolakknkhggnaa.X Go.Proofs.Ytaolakknkhggnaa.GOpen Go.Proofs.YtaolakknkhggnaaW.PrintWords
open Go.ChangeMaps (open_string shut_string)
set_option linter.unusedVariables false
set_option maxRecDepth 100000 in
theorem lifted (os : Os) (started : os.Started) (H : Type) (enc : TypeId × Value → H) :
    ReturnsInHanded {} Try.checked os 4 .any (Rows.editRowsSpec.pre6 enc Try.prog Try.f4 Rows.editRowsRow.domain false) (Rows.editRowsSpec.post enc Try.prog Try.f4 false true false false) := by
  refine returnsInHanded_of_change (C := Try.checked) own started (by kernel_rfl) Try.func4
    (ChangeSpec.witness6 (enc := enc) (C := Try.checked) false ⟨#[], #[.agg #[.slice none 0 0, .slice none 0 0], .agg #[.int .i64 0, .int .i64 0, .int .i64 0, .string ByteArray.empty, .slice none 0 0, .slice none 0 0]], []⟩ 8 (by kernel_rfl) (by kernel_rfl) (by kernel_rfl) (by kernel_rfl)) ?_
  intro W base args ds gs before hval0 hW hcnd _
  have hval : ∀ (j : Nat) t v, Try.f4.params[j]? = some t → args[j]? = some v → Value.okWide Try.prog W .any base t v := hval0
  have hW' := hW
  obtain ⟨p, q, hA0, hV, rfl, hfz, hnd⟩ := hW
  have hA : DataW.TrodAll enc Try.prog W 0 (fun _ => true) true Try.f4.params.toList args.toList ds p := hA0
  rw [Try.params4] at hA hval
  obtain ⟨v0, vs0, d0, ds0, p0, q0, hargs, rfl, rfl, h0, r0⟩ := trodAll_cons hA
  obtain ⟨v1, vs1, d1, ds1, p1, q1, rfl, rfl, rfl, h1, r1⟩ := trodAll_cons r0
  obtain ⟨rfl, rfl, rfl⟩ := trodAll_nil r1
  obtain rfl : args = #[v0, v1] := by cases args; simp_all
  obtain ⟨rfl, rfl⟩ := trodVars_none hV
  have k0 := h0
  have lt0 : ∀ x ∈ p0, x.block < W.heap.size := by obtain ⟨m, hm⟩ := k0; exact DataW.trod_lt m _ _ _ hm
  obtain ⟨x0, cs0, rfl, K0, o0⟩ := arg_struct opens25 Try.underlying25 (hval 0 25 v0 rfl rfl) h0
  obtain ⟨A0_0, c0_0, A0_1, c0_1, e0, hc0_0, hC0_0, hc0_1, hC0_1⟩ := k25_open K0
  obtain rfl : cs0 = #[.slice A0_0 x0.f0.length c0_0, .slice A0_1 x0.f1.length c0_1] := by cases cs0; simpa using e0
  have k1 := h1
  have lt1 : ∀ x ∈ p1, x.block < W.heap.size := by obtain ⟨m, hm⟩ := k1; exact DataW.trod_lt m _ _ _ hm
  obtain ⟨x1, cs1, rfl, K1, o1⟩ := arg_struct opens28 Try.underlying28 (hval 1 28 v1 rfl rfl) h1
  obtain ⟨A1_4, c1_4, A1_5, c1_5, e1, hc1_4, hC1_4, hc1_5, hC1_5⟩ := k28_open K1
  obtain rfl : cs1 = #[.int .i64 x1.f0, .int .i64 x1.f1, .int .i64 x1.f2, .string x1.f3, .slice A1_4 x1.f4.length c1_4, .slice A1_5 x1.f5.length c1_5] := by cases cs1; simpa using e1
  clear hA0 hval0
  obtain ⟨k, hp⟩ := pure_EditRows x0 x1 o0 o1
  refine (tartanlaw05_EditRows.calls k A0_0 c0_0 x0.f0 A0_1 c0_1 x0.f1 x1.f0 x1.f1 x1.f2 x1.f3 A1_4 c1_4 x1.f4 A1_5 c1_5 x1.f5 true W hC0_0 hc0_0 hC0_1 hc0_1 hC1_4 hc1_4 hC1_5 hc1_5 hp).mono fun e W' ⟨he, bel0⟩ => ?_
  have bel : Below W.heap.size W W' := bel0
  subst he
  exact ⟨_, rfl, _, _, _, [], _, [], hW', trodAll_mk1 (shut_bool Try.underlying4 _), (trodAll_cons_mk (Below.trod laidOut (by kernel_rfl) (of_decide_eq_true (by kernel_rfl)) k0 bel lt0) (trodAll_cons_mk (Below.trod laidOut (by kernel_rfl) (of_decide_eq_true (by kernel_rfl)) k1 bel lt1) trodAll_mk0)), rfl, bel.frame _, fun h => by cases h⟩
theorem over : Rows.editRowsRow.holds Try.pinned (OpenSpec.ofChange Rows.editRowsSpec) :=
  OpenClaim.holds_of_wide 4 Try.f4 rfl rfl rfl rfl rfl rfl rfl ⟨rfl, rfl, rfl, rfl, rfl⟩ rfl rfl rfl rfl rfl (by kernel_rfl) Try.func4 (by kernel_rfl)
    (of_decide_eq_true (by kernel_rfl)) (by unfold Func.isWrapper; first | (rw [if_pos (by decide +kernel)]; kernel_rfl) | (rw [if_neg (by decide +kernel)]; exact ⟨rfl, rfl⟩))
    (fun os started H enc _ => lifted os started H enc)
theorem proved : Rows.EditRowsSaid := over
#print axioms proved
end Go.Proofs.Ytaolakknkhggnaa.editRows
namespace Go.Proofs.Ytaolakknkhggnaa
/-- The row, under a short name, for the claim. -/
theorem editRows_holds : Rows.EditRowsSaid := editRows.proved
end Go.Proofs.Ytaolakknkhggnaa
