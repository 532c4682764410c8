/- pairs.Through. -/
import Derived.Test.YtphmnjapjalfgaaGPairs2
namespace Go.Proofs.Ytphmnjapjalfgaa.X
open Go.RowKit Go.Maps Go.Proofs.YtphmnjapjalfgaaW.PrintWords Go.Proofs.Ytphmnjapjalfgaa.GMap
set_option linter.unusedVariables false

/-- Pairs' cells, one behind the other. -/
def cellsS (ps : List PS) : List Value := ps.flatMap fun p => [.int .i64 p.f0, .int .i64 p.f1]
theorem cellsS_snoc (ps : List PS) (p : PS) : cellsS (ps ++ [p]) = cellsS ps ++ [.int .i64 p.f0, .int .i64 p.f1] := by simp [cellsS]
theorem reps_cellsS {w : World} {base : Nat} {ok : Nat → Prop} (ps : List PS) : Reps (k37.M w base ok) 2 ps (cellsS ps) := by
  suffices h : ∀ (n : Nat) (ps : List PS), ps.length = n → Reps (k37.M w base ok) 2 ps (cellsS ps) from h _ ps rfl
  intro n
  induction n with
  | zero => intro ps h; obtain rfl := List.eq_nil_of_length_eq_zero h; exact Reps.none _ _
  | succ n ih =>
    intro ps h
    have hne : ps ≠ [] := by intro e; rw [e] at h; simp at h
    rw [← List.dropLast_concat_getLast hne, cellsS_snoc]
    exact (ih ps.dropLast (by simp [h])).snoc (k37_mkM w base ok _) rfl
theorem R_pairs {w' : World} {base : Nat} {v : Value} {ps : List PS} (ho : w'.ownsRow base 37 2 v ps.length (cellsS ps)) : Kd.R k37 37 w' base (fun _ => True) v ps :=
  ⟨fun _ _ => trivial, cellsS ps, ho, reps_cellsS _⟩
theorem row_step {w wr w1 : World} {vo : Value} {n e z : Nat} {xs : List Value} {o : Obj} (ho : wr.ownsRow w.heap.size e z vo n xs) (hb : Below w.heap.size w wr) (hg : (wr.alloc o).grownBy w1 vo.ownBlock) : Below w.heap.size w w1 :=
  (hb.alloc hb.size o).grown hg (by simp; have := hb.size; omega) (fun k hk => own_base ho k hk)

def thrAt (x : List PS) (q : PS) : List PS := match x.find? (fun p => p.f1 == q.f0) with
  | some p => [⟨p.f0, q.f1⟩]
  | none => []
def thr (x y : List PS) : List PS := y.flatMap (thrAt x)
theorem thr_snoc (x y : List PS) (q : PS) : thr x (y ++ [q]) = thr x y ++ thrAt x q := by simp [thr]
theorem thrAt_le (x : List PS) (q : PS) : (thrAt x q).length ≤ 1 := by unfold thrAt; split <;> simp
theorem thr_le (x : List PS) : ∀ y : List PS, (thr x y).length ≤ y.length
  | [] => by simp [thr]
  | q :: y => by
    have h1 := thrAt_le x q
    have h2 := thr_le x y
    show (thrAt x q ++ thr x y).length ≤ _
    rw [List.length_append, List.length_cons]; omega
theorem find_yes {x : List PS} {q : PS} {k : Nat} (hk : k < x.length) (hno : ∀ j, j < k → (rd_T37 x (j : Int)).f1 ≠ q.f0) (hyes : (rd_T37 x (k : Int)).f1 = q.f0) : thrAt x q = [⟨(rd_T37 x (k : Int)).f0, q.f1⟩] := by
  have hr : ∀ j (hj : j < x.length), rd_T37 x (j : Int) = x[j] := fun j hj => by
    unfold rd_T37
    rw [show ((j : Int)).toNat = j from rfl, List.getD_eq_getElem?_getD, List.getElem?_eq_getElem hj]; rfl
  have : x.find? (fun p => p.f1 == q.f0) = some x[k] := by
    rw [List.find?_eq_some_iff_getElem]
    refine ⟨by rw [← hr k hk]; simpa using hyes, k, hk, rfl, fun j hj => ?_⟩
    have := hno j hj
    rw [hr j (by omega)] at this
    simpa using this
  unfold thrAt
  rw [this, hr k hk]
theorem find_no {x : List PS} {q : PS} (hno : ∀ j, j < x.length → (rd_T37 x (j : Int)).f1 ≠ q.f0) : thrAt x q = [] := by
  have : x.find? (fun p => p.f1 == q.f0) = none := by
    rw [List.find?_eq_none]
    intro p hp
    obtain ⟨j, hj, rfl⟩ := List.getElem_of_mem hp
    have := hno j hj
    unfold rd_T37 at this
    rw [show ((j : Int)).toNat = j from rfl, List.getD_eq_getElem?_getD, List.getElem?_eq_getElem hj] at this
    simpa using this
  unfold thrAt
  rw [this]
theorem cell_two_at (w : World) (a b : Value) (t : TypeId) (B : Nat) (hB : B = w.heap.size) : ∀ j u, [a, b][j]? = some u → (w.alloc (.cells #[a, b] t)).cell? ((⟨B, 0, none⟩ : Addr).add j) = some u := by
  subst hB; exact cell_two_new w a b t
theorem blk_alloc {w : World} {B t : Nat} {cs : Array Value} (h : w.heap[B]? = some (.cells cs t (0, 0))) (o : Obj) : (w.alloc o).heap[B]? = some (.cells cs t (0, 0)) := by
  rw [ha, if_neg (by have := lt_of_block h; omega)]; exact h
def pairs_Through.f (x y : List PS) : Option (List PS) := if x.length ≤ 100000 ∧ y.length ≤ 100000 then some (thr x y) else none

set_option maxRecDepth 100000 in
set_option maxHeartbeats 1600000 in
theorem pairs_Through.calls (A0 : Option Addr) (c0 : Nat) (l0 : List PS) (A1 : Option Addr) (c1 : Nat) (l1 : List PS) (r : List PS) (w : World) (hr0 : Kd.C k37 w A0 l0.length l0) (hc0 : l0.length ≤ c0) (hr1 : Kd.C k37 w A1 l1.length l1) (hc1 : l1.length ≤ c1) (h : pairs_Through.f l0 l1 = some r) :
    Calls Try.prog 21 #[.slice A0 l0.length c0, .slice A1 l1.length c1] w fun e w' => ∃ v0_ : Value, e = .returned (v0_) ∧ Kd.R k37 37 w' w.heap.size (fun _ => True) v0_ r ∧ Below w.heap.size w w' := by
  unfold pairs_Through.f at h
  split at h
  · rename_i hok
    have H := Aside0.mk (Option.some.inj h)
    have HR0 := Aside0.mk hr0
    have HR1 := Aside0.mk hr1
    obtain ⟨hla, hlb⟩ := hok
    obtain ⟨i0, hi, hz0, hz1, hz2⟩ := info_parts info37
    clear h hr0 hr1 hc0 hc1
    go_enter Try.func21, Try.ntmps21
    go_wp2
    go_step3
    go_wp2
    go_step3
    go_wp2
    go_loopw [12, 5] (fun vi vo wr => ∃ t : Nat, vi = .int .i64 t ∧ t ≤ l1.length ∧ wr.ownsRow w.heap.size 37 2 vo (thr l0 (l1.take t)).length (cellsS (thr l0 (l1.take t))) ∧ Below w.heap.size w wr)
      (fun vi _ _ => l1.length - (intOf vi).toNat)
    case atStart => exact ⟨0, rfl, Nat.zero_le _, by simpa [thr, cellsS] using World.ownsRow_nil _ _ _ _, Below.refl _ _⟩
    case round =>
      obtain ⟨t, rfl, ht, ho, hb⟩ := hrel
      by_cases hlt : t < l1.length
      · have HR2 := Aside0.mk (Kd.C_below HR1.out hb)
        have htk := Aside0.mk (take_rdP hlt)
        obtain ⟨ad, eA, hx0, hx1⟩ := pairAt HR2.out hlt
        cases eA
        generalize hq : rd_T37 l1 (t : Int) = q at *
        have HQ := Aside0.mk hq
        clear hq
        have HO := Aside0.mk ho
        clear ho
        go_wp2
        have hB1 : Below w.heap.size w (wr.alloc (.cells #[.int .i64 q.f0, .int .i64 q.f1] 37)) := hb.alloc hb.size _
        have hbx : (wr.alloc (.cells #[.int .i64 q.f0, .int .i64 q.f1] 37)).heap[wr.heap.size]? = some (.cells #[.int .i64 q.f0, .int .i64 q.f1] 37 (0, 0)) := by rw [ha, if_pos rfl]
        have HO1 := Aside0.mk (HO.out.alloc (.cells #[.int .i64 q.f0, .int .i64 q.f1] 37))
        generalize wr.alloc (.cells #[.int .i64 q.f0, .int .i64 q.f1] 37) = W1 at *
        generalize wr.heap.size = B at *
        clear HO hx0 hx1 HR2 hb
        go_loopw [18, 5] (fun vk vo wk => ∃ k : Nat, vk = .int .i64 k ∧ vo = u5 ∧ k ≤ l0.length ∧ Aside0 (∀ j, j < k → (rd_T37 l0 (j : Int)).f1 ≠ q.f0) ∧ Below W1.heap.size W1 wk)
          (fun vk _ _ => l0.length - (intOf vk).toNat)
        case atStart => exact ⟨0, rfl, rfl, Nat.zero_le _, ⟨fun j hj => by omega⟩, Below.refl _ _⟩
        case round =>
          obtain ⟨k, rfl, rfl, hk, HN, hbk⟩ := hrel
          by_cases hlk : k < l0.length
          · have hBk : Below w.heap.size w wr := hB1.trans (hbk.mono hB1.size)
            have HR3 := Aside0.mk (Kd.C_below HR0.out hBk)
            obtain ⟨ad', eA', hy0, hy1⟩ := pairAt HR3.out hlk
            cases eA'
            have hbx2 : wr.heap[B]? = some (.cells #[.int .i64 q.f0, .int .i64 q.f1] 37 (0, 0)) := (hbk.block _ (lt_of_block hbx)).trans hbx
            have hBk2 := fun o => hBk.alloc hBk.size o
            have hz : w.heap.size ≤ wr.heap.size := hBk.size
            by_cases hc : (rd_T37 l0 (k : Int)).f1 = q.f0
            · have hf := Aside0.mk (find_yes hlk HN.out hc)
              rw [hc] at hy1
              generalize rd_T37 l0 (k : Int) = p at *
              have HO2 := Aside0.mk ((pw_own_below HO1.out hbk).alloc (.cells #[.int .i64 p.f0, .int .i64 q.f0] 37))
              have hbx3 := blk_alloc hbx2 (.cells #[.int .i64 p.f0, .int .i64 q.f0] 37)
              have hq0 : (wr.alloc (.cells #[.int .i64 p.f0, .int .i64 q.f0] 37)).cell? ⟨B, 0, none⟩ = some (.int .i64 q.f0) := by simp [World.cell?, hbx3]
              have hq1 : (wr.alloc (.cells #[.int .i64 p.f0, .int .i64 q.f0] 37)).cell? ⟨B, 1, none⟩ = some (.int .i64 q.f1) := by simp [World.cell?, hbx3]
              have hle := thr_le l0 (l1.take t)
              rw [List.length_take] at hle
              have hml : (thr l0 (l1.take t)).length + 1 ≤ maxLen := by unfold maxLen; omega
              clear hbx2 hbx3
              go_wp2_with (first
                | (at_builtin; refine wpList_append_own _ rfl _ _ 22 rfl w.heap.size 37 i0 _ 2 16 Try.underlying22 hi hz0 hz1 hz2 rfl (by decide) _ _ _ rfl (HO2.out.alloc _) ⟨wr.heap.size + 1, 0, none⟩ 1 1 [.int .i64 p.f0, .int .i64 q.f1] rfl rfl (cell_two_at _ _ _ _ _ (by simp)) (by simp [Value.oneCell']) hml (by omega) (by simp; omega) ?_; intro v' w1 hown' hgrow _))
              have e : thr l0 (l1.take (t + 1)) = thr l0 (l1.take t) ++ [⟨p.f0, q.f1⟩] := by rw [htk.out, thr_snoc, hf.out]
              have hb2 := row_step HO2.out (hBk2 _) hgrow
              go_roundw
              case rel => exact ⟨t + 1, by go_num, by omega, by rw [e, cellsS_snoc, List.length_append]; exact hown', hb2⟩
              case measure => simp [intOf]; omega
            · have hN2 := Aside0.mk (show ∀ j, j < k + 1 → (rd_T37 l0 (j : Int)).f1 ≠ q.f0 from fun j hj => by
                rcases Nat.lt_or_ge j k with h' | h'
                · exact HN.out j h'
                · obtain rfl : j = k := by omega
                  exact hc)
              generalize rd_T37 l0 (k : Int) = p at *
              have hbx3 := blk_alloc hbx2 (.cells #[.int .i64 p.f0, .int .i64 p.f1] 37)
              have hq0 : (wr.alloc (.cells #[.int .i64 p.f0, .int .i64 p.f1] 37)).cell? ⟨B, 0, none⟩ = some (.int .i64 q.f0) := by simp [World.cell?, hbx3]
              clear hbx2 hbx3
              go_wp2
              go_roundw
              case rel => exact ⟨k + 1, by go_num, rfl, by omega, hN2, hbk.alloc hbk.size _⟩
              case measure => simp [intOf]; omega
          · obtain rfl : k = l0.length := by omega
            have e : thr l0 (l1.take (t + 1)) = thr l0 (l1.take t) := by rw [htk.out, thr_snoc, find_no HN.out, List.append_nil]
            have ho := pw_own_below HO1.out hbk
            rw [← e] at ho
            have hBk : Below w.heap.size w wr := hB1.trans (hbk.mono hB1.size)
            clear HO1 e
            go_wp2
            go_roundw
            case rel => exact ⟨t + 1, by go_num, by omega, ho, hBk⟩
            case measure => simp [intOf]; omega
      · obtain rfl : t = l1.length := by omega
        rw [List.take_length] at ho
        go_wp2
        simp only [Exit.noGoto]
        refine bodyPost_ret (results_tmp rfl _ _ _) rfl ?_
        rw [← H.out]
        exact ⟨_, rfl, R_pairs ho, hb⟩
  · exact nomatch h
end Go.Proofs.Ytphmnjapjalfgaa.X
