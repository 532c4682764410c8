/- slices.SortFunc of pairs by their Bs, where no B stands twice. -/
import Derived.Test.YtchpgkojlhipgaaGSort
import Derived.Test.YtchpgkojlhipgaaPPut
import Derived.WalkKit
namespace Go.Proofs.Ytchpgkojlhipgaa.X
open Go.RowKit Go.Sort Go.Proofs.YtchpgkojlhipgaaW.PrintWords
set_option linter.unusedVariables false

instance : Inhabited PS := ⟨z32⟩
def encP (x : PS) : List Value := [.int .i64 x.f0, .int .i64 x.f1]
abbrev cellsP (l : List PS) : List Value := l.flatMap encP
theorem byB_calls (x y : PS) (W : World) : Calls Try.prog 36 #[.agg #[.int .i64 x.f0, .int .i64 x.f1], .agg #[.int .i64 y.f0, .int .i64 y.f1]] W fun e w' => e = .returned (.int .i64 (cmp3 x.f1 y.f1)) ∧ Gro W w' := by
  have hcon := fun W' => cmp_Compare_int.calls x.f1 y.f1 _ W' (compareI_some x.f1 y.f1)
  generalize cmp3 x.f1 y.f1 = r at hcon ⊢
  go_enter Try.func36, Try.ntmps36
  go_wp2_with (go_at_call 37; refine (hcon _).mono ?_; rintro e w' ⟨rfl, n, rfl⟩)
  go_ret
  exact ⟨rfl, by repeat (first | (with_reducible exact gro_refl _) | apply gro_drewN | apply gro_alloc)⟩
theorem swoP : SWO (Go.Proofs.ltOf fun x y : PS => cmp3 x.f1 y.f1) where
  irrefl x := by unfold Go.Proofs.ltOf; exact decide_eq_false (by rw [cmp3_lt]; omega)
  trans x y z h1 h2 := by
    unfold Go.Proofs.ltOf at *
    have h1' := cmp3_lt.1 (of_decide_eq_true h1)
    have h2' := cmp3_lt.1 (of_decide_eq_true h2)
    exact decide_eq_true (cmp3_lt.2 (by omega))
  ntrans x y z h1 h2 := by
    unfold Go.Proofs.ltOf at *
    have h1' := of_decide_eq_false h1
    have h2' := of_decide_eq_false h2
    rw [cmp3_lt] at h1' h2'
    exact decide_eq_false (by rw [cmp3_lt]; omega)
theorem sortP_calls (l : List PS) (v : Value) (base : Nat) (W : World) (ho : W.ownsRow base 32 2 v l.length (cellsP l)) (hl : l.length ≤ 100000) (hn : (l.map (·.f1)).Nodup) :
    Calls Try.prog 35 #[v, .func (.func 36) #[] #[]] W fun e w' => e = .returned (.tuple #[]) ∧ w'.ownsRow base 32 2 v l.length (cellsP (l.foldl putP [])) ∧ Below base W w' := by
  rcases ho.2 with ⟨rfl, h0⟩ | ⟨g, cap, cur, rfl, hbg, hg, hc, hm, hs, ht⟩
  · have hS := AnyF.slices_SortFunc_none (P := Try.prog) (ρ := Try.sortP_ren) { Try.sortP with } none 0 (.func (.func 36) #[] #[]) W
    refine hS.mono ?_
    rintro e w' ⟨rfl, rfl⟩
    obtain rfl := List.eq_nil_of_length_eq_zero h0
    exact ⟨rfl, ho, Below.refl _ _⟩
  · have eg : ∀ args w, (callFunc 36 args).run Try.prog w = .ok (.enter 36 args) w := enters_of Try.func36 (by kernel_rfl) rfl
    have hH := own_holds encP 2 (fun _ => rfl) (by decide) hg hc hs ht
    have hS := AnyQ.slices_SortFunc Try.sortP 2 Try.isAgg32 Try.sizeOf32 encP (fun _ => rfl) (fun x v hv => by simp [encP] at hv; rcases hv with rfl | rfl <;> rfl) (fun x y => cmp3 x.f1 y.f1) swoP 36 #[] g 0 cap l.toArray W eg
      (fun _ _ _ _ x y => byB_calls x y _) hH (blk_lt hg) (by simp; omega)
    change Calls Try.prog 35 #[.slice (some ⟨g, 0, none⟩) l.length cap, .func (.func 36) #[] #[]] W _ at hS
    refine hS.mono ?_
    rintro e w' ⟨rfl, d', n, os, ⟨hp1, _, hp2⟩, hso, rfl⟩
    have hsz : d'.size = l.length := by simpa using hp1
    have hperm : d'.toList.Perm l := by
      have e1 : d'.extract 0 l.toArray.size = d' := by rw [show l.toArray.size = d'.size from by simp [hsz]]; exact Array.extract_size
      have e2 : l.toArray.extract 0 l.toArray.size = l.toArray := Array.extract_size
      rw [e1, e2] at hp2
      simpa using hp2
    have hsort : SortB d'.toList := by
      refine List.pairwise_iff_getElem.2 fun i j hi hj hij => ?_
      have h3 := hso i j (Nat.zero_le _) hij (by simpa [hsz] using hj)
      have hi' : i < d'.size := by simpa using hi
      have hj' : j < d'.size := by simpa using hj
      rw [getElem!_pos _ i hi', getElem!_pos _ j hj'] at h3
      unfold Go.Proofs.ltOf at h3
      have h4 := of_decide_eq_false h3
      rw [cmp3_lt] at h4
      simp only [Array.getElem_toList]
      omega
    have hf := fold_unique hperm hsort hn
    have hl' : (l.foldl putP []).length = l.length := by rw [foldl_put_len]; simp
    have hd : d' = (l.foldl putP []).toArray := by rw [← hf]
    rw [hd]
    obtain ⟨q1, q2⟩ := own_sorted encP 2 (fun _ => rfl) (by decide) (base := base) (n := n) (os := os) hg hbg hc hm hs hl'
    rw [hl'] at q1
    exact ⟨rfl, q1, q2⟩
end Go.Proofs.Ytchpgkojlhipgaa.X
