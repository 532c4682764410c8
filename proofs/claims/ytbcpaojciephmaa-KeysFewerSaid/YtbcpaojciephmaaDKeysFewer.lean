/- KeysFewer: for every input the law returns true, and its arguments read as they did. -/
import Derived.Test.YtbcpaojciephmaaRows
import Derived.WalkKit
import Derived.ProofKit
import Derived.OpenShut
import Derived.ShutString
import Derived.ChangeOld
import Derived.Below
import Derived.Test.YtbcpaojciephmaaCKeysFewer4
namespace Go.Proofs.Ytbcpaojciephmaa.keysFewer
open Go.ChangeShapes Go.WideShapes Go.ChangeAt Go.RowKit Go.Proofs.Ytbcpaojciephmaa.X Go.Proofs.Ytbcpaojciephmaa.GOpen Go.Proofs.YtbcpaojciephmaaW.PrintWords
open Go.ChangeMaps (open_string shut_string)
set_option linter.unusedVariables false
set_option maxRecDepth 100000 in
theorem lifted (os : Os) (started : os.Started) (H : Type) (enc : TypeId × Value → H) :
    ReturnsInHanded {} Try.checked os 7 .any (Rows.keysFewerSpec.pre6 enc Try.prog Try.f7 Rows.keysFewerRow.domain false) (Rows.keysFewerSpec.post enc Try.prog Try.f7 false true false false) := by
  refine returnsInHanded_of_change (C := Try.checked) own started (by kernel_rfl) Try.func7
    (ChangeSpec.witness6 (enc := enc) (C := Try.checked) false ⟨#[], #[.slice none 0 0, .slice none 0 0, .agg #[.slice none 0 0, .slice none 0 0]], []⟩ 8 (by kernel_rfl) (by kernel_rfl) (by kernel_rfl) (by kernel_rfl)) ?_
  intro W base args ds gs before hval0 hW hcnd _
  have hval : ∀ (j : Nat) t v, Try.f7.params[j]? = some t → args[j]? = some v → Value.okWide Try.prog W .any base t v := hval0
  have hW' := hW
  obtain ⟨p, q, hA0, hV, rfl, hfz, hnd⟩ := hW
  have hA : DataW.TrodAll enc Try.prog W 0 (fun _ => true) true Try.f7.params.toList args.toList ds p := hA0
  rw [Try.params7] at hA hval
  obtain ⟨v0, vs0, d0, ds0, p0, q0, hargs, rfl, rfl, h0, r0⟩ := trodAll_cons hA
  obtain ⟨v1, vs1, d1, ds1, p1, q1, rfl, rfl, rfl, h1, r1⟩ := trodAll_cons r0
  obtain ⟨v2, vs2, d2, ds2, p2, q2, rfl, rfl, rfl, h2, r2⟩ := trodAll_cons r1
  obtain ⟨rfl, rfl, rfl⟩ := trodAll_nil r2
  obtain rfl : args = #[v0, v1, v2] := by cases args; simp_all
  obtain ⟨rfl, rfl⟩ := trodVars_none hV
  have k0 := h0
  have lt0 : ∀ x ∈ p0, x.block < W.heap.size := by obtain ⟨m, hm⟩ := k0; exact DataW.trod_lt m _ _ _ hm
  obtain ⟨A0, c0, x0, rfl, hc0, hC0, o0⟩ := arg_slice (Opens.slice opens25 Try.underlying29 (by kernel_rfl)) Try.underlying29 (hval 0 29 v0 rfl rfl) h0
  have k1 := h1
  have lt1 : ∀ x ∈ p1, x.block < W.heap.size := by obtain ⟨m, hm⟩ := k1; exact DataW.trod_lt m _ _ _ hm
  obtain ⟨A1, c1, x1, rfl, hc1, hC1, o1⟩ := arg_slice (Opens.slice (Opens.string Try.underlying9) Try.underlying22 (by kernel_rfl)) Try.underlying22 (hval 1 22 v1 rfl rfl) h1
  have k2 := h2
  have lt2 : ∀ x ∈ p2, x.block < W.heap.size := by obtain ⟨m, hm⟩ := k2; exact DataW.trod_lt m _ _ _ hm
  obtain ⟨x2, cs2, rfl, K2, o2⟩ := arg_struct opens25 Try.underlying25 (hval 2 25 v2 rfl rfl) h2
  obtain ⟨A2_0, c2_0, A2_1, c2_1, e2, hc2_0, hC2_0, hc2_1, hC2_1⟩ := k25_open K2
  obtain rfl : cs2 = #[.slice A2_0 x2.f0.length c2_0, .slice A2_1 x2.f1.length c2_1] := by cases cs2; simpa using e2
  clear hA0 hval0
  obtain ⟨k, hp⟩ := pure_KeysFewer x0 x1 x2 o0 o1 o2
  refine (tartanlaw11_KeysFewer.calls k A0 c0 x0 A1 c1 x1 A2_0 c2_0 x2.f0 A2_1 c2_1 x2.f1 true W hC0 hc0 hC1 hc1 hC2_0 hc2_0 hC2_1 hc2_1 hp).mono fun e W' ⟨he, bel0⟩ => ?_
  have bel : Below W.heap.size W W' := bel0
  subst he
  exact ⟨_, rfl, _, _, _, [], _, [], hW', trodAll_mk1 (shut_bool Try.underlying4 _), (trodAll_cons_mk (Below.trod laidOut (by kernel_rfl) (of_decide_eq_true (by kernel_rfl)) k0 bel lt0) (trodAll_cons_mk (Below.trod laidOut (by kernel_rfl) (of_decide_eq_true (by kernel_rfl)) k1 bel lt1) (trodAll_cons_mk (Below.trod laidOut (by kernel_rfl) (of_decide_eq_true (by kernel_rfl)) k2 bel lt2) trodAll_mk0))), rfl, bel.frame _, fun h => by cases h⟩
theorem over : Rows.keysFewerRow.holds Try.pinned (OpenSpec.ofChange Rows.keysFewerSpec) :=
  OpenClaim.holds_of_wide 7 Try.f7 rfl rfl rfl rfl rfl rfl rfl ⟨rfl, rfl, rfl, rfl, rfl⟩ rfl rfl rfl rfl rfl (by kernel_rfl) Try.func7 (by kernel_rfl)
    (of_decide_eq_true (by kernel_rfl)) (by unfold Func.isWrapper; first | (rw [if_pos (by decide +kernel)]; kernel_rfl) | (rw [if_neg (by decide +kernel)]; exact ⟨rfl, rfl⟩))
    (fun os started H enc _ => lifted os started H enc)
theorem proved : Rows.KeysFewerSaid := over
#print axioms proved
end Go.Proofs.Ytbcpaojciephmaa.keysFewer
namespace Go.Proofs.Ytbcpaojciephmaa
/-- The row, under a short name, for the claim. -/
theorem keysFewer_holds : Rows.KeysFewerSaid := keysFewer.proved
end Go.Proofs.Ytbcpaojciephmaa
