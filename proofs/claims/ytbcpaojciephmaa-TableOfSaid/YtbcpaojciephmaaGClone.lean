/- slices.Clone at texts. -/
import Derived.Test.YtbcpaojciephmaaX0
import Derived.WalkKit
import Derived.OwnWalk
import Derived.WalkSpells
import Derived.WalkSmall
import Derived.OneCell
import Derived.Outline
import Derived.Maps.AppendAt
namespace Go.Proofs.Ytbcpaojciephmaa.X
open Go.RowKit Go.Maps Go.Proofs.YtbcpaojciephmaaW.PrintWords
set_option linter.unusedVariables false

set_option maxRecDepth 100000 in
set_option maxHeartbeats 1600000 in
theorem clone_calls (A : Option Addr) (c : Nat) (l : List ByteArray) (w : World) (hr : Kd.C Kd.string w A l.length l) (hc : l.length ≤ c) (hl : l.length ≤ 1000000) :
    Calls Try.prog 56 #[.slice A l.length c] w fun e w' => ∃ v : Value, e = .returned v ∧ Kd.R Kd.string 9 w' w.heap.size (fun _ => True) v l ∧ Below w.heap.size w w' := by
  rcases A with _ | ad
  · have h0 : l.length = 0 := by
      rcases Nat.eq_zero_or_pos l.length with h | h
      · exact h
      · obtain ⟨ad, e, _⟩ := hr.2.2 h; cases e
    obtain rfl := List.eq_nil_of_length_eq_zero h0
    clear hr
    have hq : ∀ W, Sem.run Try.prog (binOp .eql 22 (.slice none 0 c) (.slice none 0 0)) W = .ok (.bool true) W := fun W => Lib.run_eql_slice_nil W 22 9 none 0 c 0 0 Try.underlying22
    go_enter Try.func56, Try.ntmps56
    go_wp2
    go_ret
    exact ⟨_, rfl, Kd.R_nil _ _ _ _ _, Below.refl _ _⟩
  · have HR := Aside0.mk hr
    clear hr
    have hq : ∀ W, Sem.run Try.prog (binOp .eql 22 (.slice (some ad) l.length c) (.slice none 0 0)) W = .ok (.bool false) W := fun W => Lib.run_eql_slice_nil W 22 9 (some ad) l.length c 0 0 Try.underlying22
    go_enter Try.func56, Try.ntmps56
    go_wp2_with (first
      | ((with_reducible refine gate_dst (N := 5) rfl ?_); refine Kd.R_lit Kd.string _ 9 ?hg (N := 5) ?hd (xs := ([] : List ByteArray)) (inner := []) (ok := fun _ => True) (okp := fun _ => True) ?hr ?hp (fun _ hk => hk) trivial (Below.refl _ _) (Nat.le_refl _) (by simp) ?_; (case hd => rfl); (case hg => rfl); (case hr => first | (go_simp; done) | (go_simp; rfl)); (case hp => exact (Reps.none _ _)); intro v5 w5 ho hb hg_ hnew_; have HO := Aside0.mk ho; have HB := Aside0.mk hb; clear hg_ hnew_ ho hb)
      | (at_builtin; refine Kd.R_append_rows Kd.string (w0 := w) w.heap.size rfl (.tmp 5) (.tmp 6) 22 9 (.string ⟨#[]⟩) 16 rfl Try.underlying22 info9 rfl (by decide) (by omega) v5 [] l (some ad) l.length c (fun _ => True) (fun _ => False) rfl rfl HO.out (Kd.C_below HR.out HB.out) (fun _ _ h => h) (fun _ h => h.elim) (fun _ _ => trivial) HB.out HB.out.size (by simp; omega) ?_; intro v7 w7 ho7 hb7 hg7 hat7))
    go_ret
    exact ⟨_, rfl, ho7, hb7⟩
end Go.Proofs.Ytbcpaojciephmaa.X
