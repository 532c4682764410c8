/- IndexAny: for every input the law returns true, and its arguments read as they did. -/
import Derived.Test.YtchpgkojlhipgaaRows
import Derived.Test.YtchpgkojlhipgaaX18
import Derived.Test.YtchpgkojlhipgaaROpen
import Derived.Test.YtchpgkojlhipgaaPureIndexAny
import Derived.WalkKit
import Derived.ProofKit
import Derived.OpenShut
import Derived.ShutString
import Derived.ChangeOld
import Derived.Below
namespace Go.Proofs.Ytchpgkojlhipgaa.indexAny
open Go.ChangeShapes Go.WideShapes Go.ChangeAt Go.RowKit Go.Proofs.Ytchpgkojlhipgaa.X Go.Proofs.Ytchpgkojlhipgaa.GOpen Go.Proofs.YtchpgkojlhipgaaW.PrintWords
open Go.ChangeMaps (open_string shut_string)
set_option linter.unusedVariables false
set_option maxRecDepth 100000 in
theorem lifted (os : Os) (started : os.Started) (H : Type) (enc : TypeId × Value → H) :
    ReturnsInHanded {} Try.checked os 12 .any (Rows.indexAnySpec.pre6 enc Try.prog Try.f12 Rows.indexAnyRow.domain false) (Rows.indexAnySpec.post enc Try.prog Try.f12 false true false false) := by
  refine returnsInHanded_of_change (C := Try.checked) own started (by kernel_rfl) Try.func12
    (ChangeSpec.witness6 (enc := enc) (C := Try.checked) false ⟨#[], #[.agg #[.slice none 0 0, .slice none 0 0], .slice none 0 0, .slice none 0 0, .slice none 0 0], []⟩ 8 (by kernel_rfl) (by kernel_rfl) (by kernel_rfl) (by kernel_rfl)) ?_
  intro W base args ds gs before hval0 hW hcnd _
  have hval : ∀ (j : Nat) t v, Try.f12.params[j]? = some t → args[j]? = some v → Value.okWide Try.prog W .any base t v := hval0
  have hW' := hW
  obtain ⟨p, q, hA0, hV, rfl, hfz, hnd⟩ := hW
  have hA : DataW.TrodAll enc Try.prog W 0 (fun _ => true) true Try.f12.params.toList args.toList ds p := hA0
  rw [Try.params12] at hA hval
  obtain ⟨v0, vs0, d0, ds0, p0, q0, hargs, rfl, rfl, h0, r0⟩ := trodAll_cons hA
  obtain ⟨v1, vs1, d1, ds1, p1, q1, rfl, rfl, rfl, h1, r1⟩ := trodAll_cons r0
  obtain ⟨v2, vs2, d2, ds2, p2, q2, rfl, rfl, rfl, h2, r2⟩ := trodAll_cons r1
  obtain ⟨v3, vs3, d3, ds3, p3, q3, rfl, rfl, rfl, h3, r3⟩ := trodAll_cons r2
  obtain ⟨rfl, rfl, rfl⟩ := trodAll_nil r3
  obtain rfl : args = #[v0, v1, v2, v3] := by cases args; simp_all
  obtain ⟨rfl, rfl⟩ := trodVars_none hV
  have k0 := h0
  have lt0 : ∀ x ∈ p0, x.block < W.heap.size := by obtain ⟨m, hm⟩ := k0; exact DataW.trod_lt m _ _ _ hm
  obtain ⟨x0, cs0, rfl, K0, o0⟩ := arg_struct opens41 Try.underlying41 (hval 0 41 v0 rfl rfl) h0
  obtain ⟨A0_0, c0_0, A0_1, c0_1, e0, hc0_0, hC0_0, hc0_1, hC0_1⟩ := k41_open K0
  obtain rfl : cs0 = #[.slice A0_0 x0.f0.length c0_0, .slice A0_1 x0.f1.length c0_1] := by cases cs0; simpa using e0
  have k1 := h1
  have lt1 : ∀ x ∈ p1, x.block < W.heap.size := by obtain ⟨m, hm⟩ := k1; exact DataW.trod_lt m _ _ _ hm
  obtain ⟨A1, c1, x1, rfl, hc1, hC1, o1⟩ := arg_slice (Opens.slice (Opens.int Try.underlying3) Try.underlying42 (by kernel_rfl)) Try.underlying42 (hval 1 42 v1 rfl rfl) h1
  have k2 := h2
  have lt2 : ∀ x ∈ p2, x.block < W.heap.size := by obtain ⟨m, hm⟩ := k2; exact DataW.trod_lt m _ _ _ hm
  obtain ⟨A2, c2, x2, rfl, hc2, hC2, o2⟩ := arg_slice (Opens.slice (Opens.int Try.underlying3) Try.underlying42 (by kernel_rfl)) Try.underlying42 (hval 2 42 v2 rfl rfl) h2
  have k3 := h3
  have lt3 : ∀ x ∈ p3, x.block < W.heap.size := by obtain ⟨m, hm⟩ := k3; exact DataW.trod_lt m _ _ _ hm
  obtain ⟨A3, c3, x3, rfl, hc3, hC3, o3⟩ := arg_slice (Opens.slice (Opens.string Try.underlying9) Try.underlying38 (by kernel_rfl)) Try.underlying38 (hval 3 38 v3 rfl rfl) h3
  clear hA0 hval0
  obtain ⟨k, hp⟩ := pure_IndexAny x0 x1 x2 x3 o0 o1 o2 o3
  refine (tartanlaw12_IndexAny.calls k A0_0 c0_0 x0.f0 A0_1 c0_1 x0.f1 A1 c1 x1 A2 c2 x2 A3 c3 x3 true W hC0_0 hc0_0 hC0_1 hc0_1 hC1 hc1 hC2 hc2 hC3 hc3 hp).mono fun e W' ⟨he, bel0⟩ => ?_
  have bel : Below W.heap.size W W' := bel0
  subst he
  exact ⟨_, rfl, _, _, _, [], _, [], hW', trodAll_mk1 (shut_bool Try.underlying4 _), (trodAll_cons_mk (Below.trod laidOut (by kernel_rfl) (of_decide_eq_true (by kernel_rfl)) k0 bel lt0) (trodAll_cons_mk (Below.trod laidOut (by kernel_rfl) (of_decide_eq_true (by kernel_rfl)) k1 bel lt1) (trodAll_cons_mk (Below.trod laidOut (by kernel_rfl) (of_decide_eq_true (by kernel_rfl)) k2 bel lt2) (trodAll_cons_mk (Below.trod laidOut (by kernel_rfl) (of_decide_eq_true (by kernel_rfl)) k3 bel lt3) trodAll_mk0)))), rfl, bel.frame _, fun h => by cases h⟩
theorem over : Rows.indexAnyRow.holds Try.pinned (OpenSpec.ofChange Rows.indexAnySpec) :=
  OpenClaim.holds_of_wide 12 Try.f12 rfl rfl rfl rfl rfl rfl rfl ⟨rfl, rfl, rfl, rfl, rfl⟩ rfl rfl rfl rfl rfl (by kernel_rfl) Try.func12 (by kernel_rfl)
    (of_decide_eq_true (by kernel_rfl)) (by unfold Func.isWrapper; first | (rw [if_pos (by decide +kernel)]; kernel_rfl) | (rw [if_neg (by decide +kernel)]; exact ⟨rfl, rfl⟩))
    (fun os started H enc _ => lifted os started H enc)
theorem proved : Rows.IndexAnySaid := over
#print axioms proved
end Go.Proofs.Ytchpgkojlhipgaa.indexAny
namespace Go.Proofs.Ytchpgkojlhipgaa
/-- The row, under a short name, for the claim. -/
theorem indexAny_holds : Rows.IndexAnySaid := indexAny.proved
end Go.Proofs.Ytchpgkojlhipgaa
