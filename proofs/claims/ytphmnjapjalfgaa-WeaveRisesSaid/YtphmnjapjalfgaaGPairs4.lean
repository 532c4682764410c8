/- pairs.Turn. -/
import Derived.Test.YtphmnjapjalfgaaGPairs3
import Derived.Deep.RegionWith
namespace Go.Proofs.Ytphmnjapjalfgaa.X
open Go.RowKit Go.Maps Go.Proofs.YtphmnjapjalfgaaW.PrintWords Go.Proofs.Ytphmnjapjalfgaa.GMap
set_option linter.unusedVariables false

def swp (p : PS) : PS := ⟨p.f1, p.f0⟩
/-- One more, by B, behind those of the same B. -/
def putP (s : List PS) (p : PS) : List PS := s.takeWhile (fun q => decide (q.f1 ≤ p.f1)) ++ p :: s.dropWhile (fun q => decide (q.f1 ≤ p.f1))
def turnR (l : List PS) : List PS := (l.map swp).foldl putP []
def SortB (s : List PS) : Prop := s.Pairwise fun p q => p.f1 ≤ q.f1
theorem putP_len (s : List PS) (p : PS) : (putP s p).length = s.length + 1 := by
  unfold putP
  have := congrArg List.length (List.takeWhile_append_dropWhile (p := fun q : PS => decide (q.f1 ≤ p.f1)) (l := s))
  rw [List.length_append] at this
  rw [List.length_append, List.length_cons]; omega
theorem foldl_put_len : ∀ (ps s : List PS), (ps.foldl putP s).length = s.length + ps.length
  | [], _ => rfl
  | p :: ps, s => by rw [List.foldl_cons, foldl_put_len ps, putP_len, List.length_cons]; omega
theorem turnR_len (l : List PS) : (turnR l).length = l.length := by unfold turnR; rw [foldl_put_len]; simp
/-- Where the inner loop stops, it is put in. -/
theorem put_at (s : List PS) (p : PS) (hs : SortB s) (k : Nat) (hk : k ≤ s.length) (hhi : ∀ q ∈ s.drop k, p.f1 < q.f1) (hlo : k = 0 ∨ (rd_T37 s ((k - 1 : Nat) : Int)).f1 ≤ p.f1) : putP s p = s.take k ++ p :: s.drop k := by
  have hall : ∀ q ∈ s.take k, q.f1 ≤ p.f1 := by
    intro q hq
    rcases hlo with h0 | h0
    · subst h0; simp at hq
    · obtain ⟨j, hj, rfl⟩ := List.getElem_of_mem hq
      rw [List.length_take] at hj
      rw [List.getElem_take]
      have hk1 : k - 1 < s.length := by omega
      have e : rd_T37 s ((k - 1 : Nat) : Int) = s[k - 1] := by
        unfold rd_T37
        rw [show (((k - 1 : Nat) : Int)).toNat = k - 1 from rfl, List.getD_eq_getElem?_getD, List.getElem?_eq_getElem hk1]; rfl
      rw [e] at h0
      rcases Nat.lt_or_ge j (k - 1) with h1 | h1
      · have := List.pairwise_iff_getElem.1 hs j (k - 1) (by omega) hk1 h1
        omega
      · have : j = k - 1 := by omega
        subst this; exact h0
  have gen : ∀ (A D : List PS), (∀ q ∈ A, q.f1 ≤ p.f1) → (∀ q ∈ D, p.f1 < q.f1) → (A ++ D).takeWhile (fun q => decide (q.f1 ≤ p.f1)) = A ∧ (A ++ D).dropWhile (fun q => decide (q.f1 ≤ p.f1)) = D := by
    intro A D hA hD
    rw [List.takeWhile_append_of_pos (by intro q hq; exact decide_eq_true (hA q hq)), List.dropWhile_append_of_pos (by intro q hq; exact decide_eq_true (hA q hq))]
    cases D with
    | nil => simp
    | cons q t =>
      have := hD q List.mem_cons_self
      have hf : decide (q.f1 ≤ p.f1) = false := decide_eq_false (by omega)
      rw [List.takeWhile_cons, List.dropWhile_cons, hf]; simp
  have h1 := gen _ _ hall hhi
  rw [List.take_append_drop] at h1
  unfold putP
  rw [h1.1, h1.2]
theorem sort_put (s : List PS) (p : PS) (hs : SortB s) : SortB (putP s p) := by
  unfold putP SortB
  have e := List.takeWhile_append_dropWhile (p := fun q : PS => decide (q.f1 ≤ p.f1)) (l := s)
  have hlo : ∀ q ∈ s.takeWhile (fun q => decide (q.f1 ≤ p.f1)), q.f1 ≤ p.f1 := fun q hq => by simpa using List.all_eq_true.1 List.all_takeWhile q hq
  have hs' := hs
  unfold SortB at hs'
  rw [← e, List.pairwise_append] at hs'
  have hhi : ∀ q ∈ s.dropWhile (fun q => decide (q.f1 ≤ p.f1)), p.f1 ≤ q.f1 := by
    cases hd : s.dropWhile (fun q => decide (q.f1 ≤ p.f1)) with
    | nil => simp
    | cons q t =>
      have hq : ¬ q.f1 ≤ p.f1 := by
        have := List.head_dropWhile_not (fun q : PS => decide (q.f1 ≤ p.f1)) (l := s) (by rw [hd]; simp)
        simpa [hd] using this
      intro q' hq'
      have h2 := hs'.2.1
      rw [hd, List.pairwise_cons] at h2
      rcases List.mem_cons.1 hq' with rfl | h
      · omega
      · have := h2.1 q' h; omega
  rw [List.pairwise_append]
  refine ⟨hs'.1, ?_, fun a ha b hb => ?_⟩
  · rw [List.pairwise_cons]; exact ⟨hhi, hs'.2.1⟩
  · rcases List.mem_cons.1 hb with rfl | h
    · exact hlo a ha
    · exact hs'.2.2 a ha b h
theorem sort_fold : ∀ (ps s : List PS), SortB s → SortB (ps.foldl putP s)
  | [], _, h => h
  | p :: ps, s, h => sort_fold ps _ (sort_put s p h)

/-- A row of pairs that is written in place. -/
structure RowIn (w0 : World) (g cap : Nat) (ps : List PS) (W : World) : Prop where
  hg : w0.heap.size ≤ g
  blk : ∃ cur : Array Value, W.heap[g]? = some (.cells cur 46 (0, 0)) ∧ cur.size = cap * 2 ∧ cur.toList.take (ps.length * 2) = cellsS ps
  hcap : ps.length ≤ cap
  hmax : cap ≤ maxLen
  hb : Below w0.heap.size w0 W
theorem cellsS_len (ps : List PS) : (cellsS ps).length = ps.length * 2 := by
  induction ps with
  | nil => rfl
  | cons p ps ih => simp [cellsS] at ih ⊢; omega
theorem cellsS_get : ∀ (ps : List PS) (k : Nat), k < ps.length → (cellsS ps)[k * 2]? = some (.int .i64 (rd_T37 ps (k : Int)).f0) ∧ (cellsS ps)[k * 2 + 1]? = some (.int .i64 (rd_T37 ps (k : Int)).f1)
  | p :: ps, 0, _ => ⟨rfl, rfl⟩
  | p :: ps, k + 1, h => by
    have ih := cellsS_get ps k (by simpa using h)
    have e : rd_T37 (p :: ps) ((k + 1 : Nat) : Int) = rd_T37 ps (k : Int) := rfl
    rw [e]
    refine ⟨?_, ?_⟩
    · rw [← ih.1]; show ([Value.int .i64 p.f0, .int .i64 p.f1] ++ cellsS ps)[(k + 1) * 2]? = _
      rw [List.getElem?_append_right (by simp; omega)]; congr 1; simp; omega
    · rw [← ih.2]; show ([Value.int .i64 p.f0, .int .i64 p.f1] ++ cellsS ps)[(k + 1) * 2 + 1]? = _
      rw [List.getElem?_append_right (by simp; omega)]; congr 1; simp; omega
theorem cellsS_set : ∀ (ps : List PS) (k : Nat) (p : PS), k < ps.length → cellsS (ps.set k p) = ((cellsS ps).set (k * 2) (.int .i64 p.f0)).set (k * 2 + 1) (.int .i64 p.f1)
  | q :: ps, 0, p, _ => rfl
  | q :: ps, k + 1, p, h => by
    have ih := cellsS_set ps k p (by simpa using h)
    show [Value.int .i64 q.f0, .int .i64 q.f1] ++ cellsS (ps.set k p) = (([Value.int .i64 q.f0, .int .i64 q.f1] ++ cellsS ps).set ((k + 1) * 2) _).set ((k + 1) * 2 + 1) _
    rw [ih, show (k + 1) * 2 = k * 2 + 2 from by omega]
    rfl
theorem RowIn.at {w0 : World} {g cap : Nat} {ps : List PS} {W : World} (h : RowIn w0 g cap ps W) {k : Nat} (hk : k < ps.length) : W.cell? ⟨g, k * 2, none⟩ = some (.int .i64 (rd_T37 ps (k : Int)).f0) ∧ W.cell? ⟨g, k * 2 + 1, none⟩ = some (.int .i64 (rd_T37 ps (k : Int)).f1) ∧ W.frozen? ⟨g, k * 2, none⟩ = false ∧ W.frozen? ⟨g, k * 2 + 1, none⟩ = false := by
  obtain ⟨cur, h1, h2, h3⟩ := h.blk
  have hc := h.hcap
  obtain ⟨g1, g2⟩ := cellsS_get ps k hk
  rw [← h3, List.getElem?_take_of_lt (by omega)] at g1 g2
  refine ⟨?_, ?_, by simp [World.frozen?, h1], by simp [World.frozen?, h1]⟩
  · simp [World.cell?, h1]; rw [← g1]; simp
  · simp [World.cell?, h1]; rw [← g2]; simp
theorem blk_set {W : World} {g t : Nat} {cur : Array Value} (h : W.heap[g]? = some (.cells cur t (0, 0))) (j : Nat) (v : Value) : (W.setCell ⟨g, j, none⟩ v).heap[g]? = some (.cells (cur.setIfInBounds j v) t (0, 0)) := by
  obtain ⟨hlt, hk⟩ := Array.getElem?_eq_some_iff.1 h
  show (W.heap.modify g _)[g]? = _
  rw [Array.getElem?_eq_getElem (by rw [Array.size_modify]; exact hlt), Array.getElem_modify_self, hk]
  rfl
theorem RowIn.set {w0 : World} {g cap : Nat} {ps : List PS} {W : World} (h : RowIn w0 g cap ps W) {k : Nat} (hk : k < ps.length) (p : PS) : RowIn w0 g cap (ps.set k p) ((W.setCell ⟨g, k * 2, none⟩ (.int .i64 p.f0)).setCell ⟨g, k * 2 + 1, none⟩ (.int .i64 p.f1)) := by
  obtain ⟨cur, h1, h2, h3⟩ := h.blk
  have hc := h.hcap
  refine ⟨h.hg, ⟨_, blk_set (blk_set h1 _ _) _ _, by simp [h2], ?_⟩, by rw [List.length_set]; exact hc, h.hmax, (h.hb.setCell (by exact h.hg) _).setCell (by exact h.hg) _⟩
  rw [cellsS_set ps k p hk, List.length_set, ← h3]
  simp [List.take_set, Array.toList_setIfInBounds]
theorem RowIn.below {w0 : World} {g cap : Nat} {ps : List PS} {W W' : World} (h : RowIn w0 g cap ps W) (hb : Below W.heap.size W W') : RowIn w0 g cap ps W' := by
  obtain ⟨cur, h1, h2, h3⟩ := h.blk
  exact ⟨h.hg, ⟨cur, (hb.block _ (lt_of_block h1)).trans h1, h2, h3⟩, h.hcap, h.hmax, h.hb.trans (hb.mono h.hb.size)⟩
theorem RowIn.of {w0 W : World} {v : Value} {ps : List PS} (ho : W.ownsRow w0.heap.size 46 2 v ps.length (cellsS ps)) (hb : Below w0.heap.size w0 W) (hne : 0 < ps.length) : ∃ g cap, v = .slice (some ⟨g, 0, none⟩) ps.length cap ∧ RowIn w0 g cap ps W := by
  rcases ho.2 with ⟨_, h0⟩ | ⟨g, cap, cur, rfl, hg, hh, hc, hm, hs, ht⟩
  · omega
  · exact ⟨g, cap, rfl, hg, ⟨cur, hh, hs, ht⟩, hc, hm, hb⟩
theorem RowIn.grown {w0 : World} {g cap : Nat} {ps : List PS} {W W1 : World} (h : RowIn w0 g cap ps W) {o : Obj} {vo : Value} {n : Nat} {xs : List Value} (ho : W.ownsRow w0.heap.size 37 2 vo n xs) (hg : (W.alloc o).grownBy W1 vo.ownBlock) : RowIn w0 g cap ps W1 := by
  obtain ⟨cur, h1, h2, h3⟩ := h.blk
  refine ⟨h.hg, ⟨cur, (hg.block g (by simp; have := lt_of_block h1; omega) fun e => ?_).trans (blk_alloc h1 o), h2, h3⟩, h.hcap, h.hmax, row_step ho h.hb hg⟩
  obtain ⟨cells, hc⟩ := own_typed ho g e.symm
  rw [h1] at hc; simp at hc
theorem swap_two (A R : List PS) (s p : PS) : ((A ++ s :: p :: R).set (A.length + 1) s).set A.length p = A ++ p :: s :: R := by
  rw [List.set_append_right _ _ (by omega), List.set_append_right _ _ (by omega)]
  simp
theorem pturned_calls (x y : Int) (w : World) : Calls Try.prog 37 #[.agg #[.int .i64 x, .int .i64 y]] w fun e w' => e = .returned (.agg #[.int .i64 y, .int .i64 x]) ∧ Below w.heap.size w w' := by
  go_enter Try.func37, Try.ntmps37
  go_wp2
  refine bodyPost_ret (v := .agg #[.int .i64 y, .int .i64 x]) ?_ rfl ⟨rfl, ?_⟩
  · have hb : ((w.alloc (.cells #[.int .i64 x, .int .i64 y] 46)).alloc (.cells #[.int .i64 y, .int .i64 x] 46)).heap[w.heap.size + 1]? = some (.cells #[.int .i64 y, .int .i64 x] 46 (0, 0)) := by rw [ha, if_pos (by simp)]
    generalize (w.alloc (.cells #[.int .i64 x, .int .i64 y] 46)).alloc (.cells #[.int .i64 y, .int .i64 x] 46) = W2 at *
    have h0 : W2.cell? ⟨w.heap.size + 1, 0, none⟩ = some (.int .i64 y) := by simp [World.cell?, hb]
    have h1 : W2.cell? ⟨w.heap.size + 1, 1, none⟩ = some (.int .i64 x) := by simp [World.cell?, hb]
    simp [results, Try.results37, go_sem, h0, h1]
  · exact ((Below.refl _ _).alloc (Nat.le_refl _) _).alloc (by simp) _
theorem info46P : (Try.prog.info? 46).map (fun i => (i.zero, i.size, i.bytes)) = some (some (.agg #[(.int .i64 0), (.int .i64 0)]), 2, 16) := by kernel_rfl
def pairs_Turn.f (l : List PS) : Option (List PS) := if l.length ≤ 100000 then some (turnR l) else none

set_option maxRecDepth 100000 in
set_option maxHeartbeats 1600000 in
theorem pairs_Turn.calls (A0 : Option Addr) (c0 : Nat) (l0 : List PS) (r : List PS) (w : World) (hr0 : Kd.C k37 w A0 l0.length l0) (hc0 : l0.length ≤ c0) (h : pairs_Turn.f l0 = some r) :
    Calls Try.prog 19 #[.slice A0 l0.length c0] w fun e w' => ∃ v0_ : Value, e = .returned (v0_) ∧ Kd.R k37 37 w' w.heap.size (fun _ => True) v0_ r ∧ Below w.heap.size w w' := by
  unfold pairs_Turn.f at h
  split at h
  · rename_i hla
    have H := Aside0.mk (Option.some.inj h)
    have HR0 := Aside0.mk hr0
    obtain ⟨i0, hi, hz0, hz1, hz2⟩ := info_parts info37
    obtain ⟨j0, hj, hy0, hy1, hy2⟩ := info_parts info46P
    clear h hr0 hc0
    go_enter Try.func19, Try.ntmps19
    go_wp2
    go_loopw [13, 3] (fun vi vo wr => ∃ t : Nat, vi = .int .i64 t ∧ t ≤ l0.length ∧ wr.ownsRow w.heap.size 46 2 vo ((l0.map swp).take t).length (cellsS ((l0.map swp).take t)) ∧ Below w.heap.size w wr)
      (fun vi _ _ => l0.length - (intOf vi).toNat)
    case atStart => exact ⟨0, rfl, Nat.zero_le _, by simpa [cellsS] using World.ownsRow_nil _ _ _ _, Below.refl _ _⟩
    case round =>
      obtain ⟨t, rfl, ht, ho, hb⟩ := hrel
      by_cases hlt : t < l0.length
      · have HR2 := Aside0.mk (Kd.C_below HR0.out hb)
        have htk : (l0.map swp).take (t + 1) = (l0.map swp).take t ++ [swp (rd_T37 l0 (t : Int))] := by rw [← List.map_take, ← List.map_take, take_rdP hlt]; simp
        obtain ⟨ad, eA, hx0, hx1⟩ := pairAt HR2.out hlt
        cases eA
        generalize rd_T37 l0 (t : Int) = p at *
        have HTK := Aside0.mk htk
        clear htk
        have hml : ((l0.map swp).take t).length + 1 ≤ maxLen := by rw [List.length_take]; unfold maxLen; omega
        have hml2 : (((l0.map swp).take t).length + 1) * 16 ≤ 140737488355328 := by rw [List.length_take]; omega
        have HO := Aside0.mk ho
        clear ho
        go_wp2_with (first
          | (go_at_call 37; refine (pturned_calls _ _ _).mono ?_; rintro e w2 ⟨rfl, hb2⟩; have hbk := hb.trans ((((Below.refl _ _).alloc (Nat.le_refl _) _).trans (hb2.mono (by simp))).mono hb.size); have HO2 := Aside0.mk (pw_own_below HO.out (((Below.refl _ _).alloc (Nat.le_refl _) _).trans (hb2.mono (by simp)))))
          | (at_builtin; refine wpList_append_own _ rfl _ _ 48 rfl w.heap.size 46 j0 _ 2 16 Try.underlying48 hj hy0 hy1 hy2 rfl (by decide) _ _ _ rfl (HO2.out.alloc _) ⟨w2.heap.size, 0, none⟩ 1 1 [.int .i64 p.f1, .int .i64 p.f0] rfl rfl (cell_two_at _ _ _ _ _ rfl) (by simp [Value.oneCell']) hml hml2 (by simp; have := hbk.size; omega) ?_; intro v' w1 hown' hgrow _))
        have hbn := row_step HO2.out hbk hgrow
        have e : cellsS ((l0.map swp).take (t + 1)) = cellsS ((l0.map swp).take t) ++ [.int .i64 p.f1, .int .i64 p.f0] := by rw [HTK.out, cellsS_snoc]; rfl
        have e2 : ((l0.map swp).take (t + 1)).length = ((l0.map swp).take t).length + 1 := by rw [HTK.out]; simp
        rw [← e, ← e2] at hown'
        clear e e2
        go_roundw
        case rel => exact ⟨t + 1, by go_num, by omega, hown', hbn⟩
        case measure => simp [intOf]; omega
      · obtain rfl : t = l0.length := by omega
        have ho' : wr.ownsRow w.heap.size 46 2 u3 (l0.map swp).length (cellsS (l0.map swp)) := by
          rwa [show (l0.map swp).take l0.length = l0.map swp from List.take_of_length_le (by simp)] at ho
        clear ho
        by_cases h0 : l0.length = 0
        · have he : l0 = [] := List.eq_nil_of_length_eq_zero h0
          subst he
          rcases ho'.2 with ⟨rfl, _⟩ | ⟨g, cap, cur, rfl, hg, hh, hc, hm, hs, _⟩
          all_goals
            go_wp2
            go_loopw [25] (fun vi wk => vi = .int .i64 0 ∧ Below w.heap.size w wk) (fun _ _ => 0)
            case atStart => exact ⟨rfl, hb⟩
            case round =>
              obtain ⟨rfl, hb2⟩ := hrel
              go_wp2
              go_loopw [66, 8] (fun vi vo wk => vi = .int .i64 0 ∧ vo = .slice none 0 0 ∧ Below w.heap.size w wk) (fun _ _ _ => 0)
              case atStart => exact ⟨rfl, rfl, hb2⟩
              case round =>
                obtain ⟨rfl, rfl, hb3⟩ := hrel
                go_wp2
                go_ret
                rw [← H.out]
                exact ⟨_, rfl, Kd.R_nil _ _ _ _ _, hb3⟩
        · obtain ⟨g, cap, rfl, hrow⟩ := RowIn.of ho' hb (by simp; omega)
          clear ho' hb
          rw [List.length_map]
          go_wp2
          go_loopw [25] (fun vi wr => ∃ i : Nat, vi = .int .i64 i ∧ i ≤ l0.length ∧ RowIn w g cap (((l0.map swp).take i).foldl putP [] ++ (l0.map swp).drop i) wr)
            (fun vi _ => l0.length - (intOf vi).toNat)
          case atStart => exact ⟨0, rfl, Nat.zero_le _, by simpa using hrow⟩
          case round =>
            clear hrow
            obtain ⟨i, rfl, hi', hrow⟩ := hrel
            by_cases hlt : i < l0.length
            · have hS : SortB (((l0.map swp).take i).foldl putP []) := sort_fold _ _ List.Pairwise.nil
              have hSl : (((l0.map swp).take i).foldl putP []).length = i := by rw [foldl_put_len, List.length_take, List.length_map]; simp; omega
              have hd : (l0.map swp).drop i = swp (rd_T37 l0 (i : Int)) :: (l0.map swp).drop (i + 1) := by
                rw [List.drop_eq_getElem_cons (by simp; exact hlt), List.getElem_map]
                congr 2
                unfold rd_T37
                rw [show ((i : Int)).toNat = i from rfl, List.getD_eq_getElem?_getD, List.getElem?_eq_getElem hlt]; rfl
              have hnx : ((l0.map swp).take (i + 1)).foldl putP [] = putP (((l0.map swp).take i).foldl putP []) (swp (rd_T37 l0 (i : Int))) := by
                rw [← List.map_take, take_rdP hlt, List.map_append, List.foldl_append, List.map_take]; rfl
              rw [hd] at hrow
              generalize swp (rd_T37 l0 (i : Int)) = p at *
              generalize hRR : (l0.map swp).drop (i + 1) = R at *
              generalize hSS : ((l0.map swp).take i).foldl putP [] = S at *
              have HNX := Aside0.mk hnx
              have HRR := Aside0.mk hRR
              have HSo := Aside0.mk hS
              clear hnx hS hd hSS hRR
              go_wp2
              go_loopw [7] (fun vk wk => ∃ k : Nat, vk = .int .i64 k ∧ k ≤ i ∧ RowIn w g cap (S.take k ++ p :: (S.drop k ++ R)) wk ∧ Aside0 (∀ q ∈ S.drop k, p.f1 < q.f1))
                (fun vk _ => (intOf vk).toNat)
              case atStart => exact ⟨i, rfl, Nat.le_refl _, by rw [List.take_of_length_le (by omega), List.drop_eq_nil_of_le (by omega)]; exact hrow, ⟨by rw [List.drop_eq_nil_of_le (by omega)]; simp⟩⟩
              case round =>
                clear hrow
                obtain ⟨k, rfl, hk, hrow, HQ⟩ := hrel
                by_cases h0 : k = 0
                · subst h0
                  go_wp2
                  go_quiet (fail)
                  go_wp2
                  have HPA := put_at S p HSo.out 0 (Nat.zero_le _) HQ.out (.inl rfl)
                  go_roundw
                  case rel =>
                    refine ⟨i + 1, by go_num, by omega, ?_⟩
                    have h1 := hrow.below (pw_below_drewN (Below.refl _ _) nq)
                    rw [HNX.out, HRR.out, HPA]
                    simpa using h1
                  case measure => simp [intOf]; omega
                · obtain ⟨u, hu⟩ : ∃ u, k = u + 1 := ⟨k - 1, by omega⟩
                  have gtn : 0 < k := by omega
                  have gt : (0 : Int) < (k : Int) := by omega
                  have wu : IntKind.i64.wrap ((k : Int) - 1) = (u : Int) := by rw [IntWalk.i64_in _ (by omega)]; omega
                  have lk : (k : Int) < (l0.length : Int) := by omega
                  have lu : (u : Int) < (l0.length : Int) := by omega
                  have hus : u < S.length := by omega
                  have e1 : S.take k = S.take u ++ [rd_T37 S (u : Int)] := by rw [hu]; exact take_rdP hus
                  have e2 : S.drop u = rd_T37 S (u : Int) :: S.drop k := by
                    rw [hu, List.drop_eq_getElem_cons hus]
                    congr 1
                    unfold rd_T37
                    rw [show ((u : Int)).toNat = u from rfl, List.getD_eq_getElem?_getD, List.getElem?_eq_getElem hus]; rfl
                  have hrd : rd_T37 S ((k - 1 : Nat) : Int) = rd_T37 S (u : Int) := by rw [show k - 1 = u from by omega]
                  have HPA := Aside0.mk (put_at S p HSo.out k (by omega) HQ.out)
                  rw [hrd] at HPA
                  clear hrd
                  generalize rd_T37 S (u : Int) = s at *
                  have hAl : (S.take u).length = u := by rw [List.length_take]; omega
                  rw [e1, List.append_assoc] at hrow
                  have hrow2 : RowIn w g cap (S.take u ++ s :: p :: (S.drop k ++ R)) wr := hrow
                  have hu2 := hrow2.at (k := u) (by simp [hAl])
                  have hk2 := hrow2.at (k := k) (by simp [hAl]; omega)
                  have eu : rd_T37 (S.take u ++ s :: p :: (S.drop k ++ R)) (u : Int) = s := by
                    unfold rd_T37
                    rw [show ((u : Int)).toNat = u from rfl, List.getD_eq_getElem?_getD, List.getElem?_append_right (by omega), hAl]; simp
                  have ek : rd_T37 (S.take u ++ s :: p :: (S.drop k ++ R)) (k : Int) = p := by
                    unfold rd_T37
                    rw [show ((k : Int)).toNat = k from rfl, List.getD_eq_getElem?_getD, List.getElem?_append_right (by omega), hAl, hu]; simp
                  rw [eu] at hu2
                  rw [ek] at hk2
                  obtain ⟨hu0, hu1, fu0, fu1⟩ := hu2
                  obtain ⟨hk0, hk1, fk0, fk1⟩ := hk2
                  have HR := Aside0.mk hrow2
                  have HU := Aside0.mk hu
                  clear hrow hrow2 hu eu ek
                  by_cases hc : p.f1 < s.f1
                  · go_wp2
                    go_quiet (fail)
                    go_wp2
                    have n1 : ¬ u = k := by have := HU.out; omega
                    have n2 : ¬ k = u := by have := HU.out; omega
                    have n3 : ¬ u * 2 = k * 2 := by have := HU.out; omega
                    have n4 : ¬ k * 2 = u * 2 := by have := HU.out; omega
                    have n5 : ¬ u * 2 = k * 2 + 1 := by have := HU.out; omega
                    have n6 : ¬ k * 2 + 1 = u * 2 := by have := HU.out; omega
                    have n7 : ¬ u * 2 + 1 = k * 2 := by have := HU.out; omega
                    have n8 : ¬ k * 2 = u * 2 + 1 := by have := HU.out; omega
                    go_region_with (fail)
                    all_goals
                      go_step
                      go_wp2
                      go_roundw
                      case rel =>
                        refine ⟨u, by go_num, by omega, ?_, ⟨fun q hq => ?_⟩⟩
                        · have h1 := (HR.out.below (pw_below_drewN (Below.refl _ _) (nq + 1))).set (k := k) (by simp [hAl]; have := HU.out; omega) s
                          have h2 := h1.set (k := u) (by simp [hAl]) p
                          have e := swap_two (S.take u) (S.drop k ++ R) s p
                          rw [hAl, ← HU.out] at e
                          rw [e] at h2
                          rw [e2]
                          exact h2
                        · rw [e2] at hq
                          rcases List.mem_cons.1 hq with rfl | h'
                          · exact hc
                          · exact HQ.out q h'
                      case measure => simp [intOf]; have := HU.out; omega
                  · go_wp2
                    go_quiet (fail)
                    go_wp2
                    go_roundw
                    case rel =>
                      refine ⟨i + 1, by go_num, by omega, ?_⟩
                      have h1 := HR.out.below (pw_below_drewN (Below.refl _ _) nq)
                      rw [HNX.out, HRR.out, HPA.out (.inr (by omega)), e1]
                      simpa using h1
                    case measure => simp [intOf]; omega
            · obtain rfl : i = l0.length := by omega
              have e : ((l0.map swp).take l0.length).foldl putP [] ++ (l0.map swp).drop l0.length = turnR l0 := by
                rw [List.take_of_length_le (by simp), List.drop_eq_nil_of_le (by simp), List.append_nil]; rfl
              rw [e] at hrow
              clear e
              have htl := turnR_len l0
              go_wp2
              go_loopw [66, 8] (fun vi vo wr => ∃ t : Nat, vi = .int .i64 t ∧ t ≤ l0.length ∧ wr.ownsRow w.heap.size 37 2 vo ((turnR l0).take t).length (cellsS ((turnR l0).take t)) ∧ RowIn w g cap (turnR l0) wr)
                (fun vi _ _ => l0.length - (intOf vi).toNat)
              case atStart => exact ⟨0, rfl, Nat.zero_le _, by simpa [cellsS] using World.ownsRow_nil _ _ _ _, hrow⟩
              case round =>
                clear hrow
                obtain ⟨t, rfl, ht, ho, hrow⟩ := hrel
                by_cases hlt3 : t < l0.length
                · obtain ⟨hx0, hx1, _, _⟩ := hrow.at (k := t) (by omega)
                  have htk := Aside0.mk (take_rdP (l := turnR l0) (t := t) (by omega))
                  generalize rd_T37 (turnR l0) (t : Int) = p at *
                  have hml : ((turnR l0).take t).length + 1 ≤ maxLen := by rw [List.length_take]; unfold maxLen; omega
                  have hml2 : (((turnR l0).take t).length + 1) * 16 ≤ 140737488355328 := by rw [List.length_take]; omega
                  have HO2 := Aside0.mk (ho.alloc (.cells #[.int .i64 p.f0, .int .i64 p.f1] 46))
                  have HRW := Aside0.mk (hrow.below ((Below.refl _ _).alloc (Nat.le_refl _) (.cells #[.int .i64 p.f0, .int .i64 p.f1] 46)))
                  have hz := hrow.hb.size
                  clear ho hrow
                  go_wp2_with (first
                    | (at_builtin; refine wpList_append_own _ rfl _ _ 22 rfl w.heap.size 37 i0 _ 2 16 Try.underlying22 hi hz0 hz1 hz2 rfl (by decide) _ _ _ rfl (HO2.out.alloc _) ⟨wr.heap.size + 1, 0, none⟩ 1 1 [.int .i64 p.f0, .int .i64 p.f1] rfl rfl (cell_two_at _ _ _ _ _ (by simp)) (by simp [Value.oneCell']) hml hml2 (by simp; omega) ?_; intro v' w1 hown' hgrow _))
                  have hrn := HRW.out.grown HO2.out hgrow
                  have e : cellsS ((turnR l0).take (t + 1)) = cellsS ((turnR l0).take t) ++ [.int .i64 p.f0, .int .i64 p.f1] := by rw [htk.out, cellsS_snoc]
                  have e2 : ((turnR l0).take (t + 1)).length = ((turnR l0).take t).length + 1 := by rw [htk.out]; simp
                  rw [← e, ← e2] at hown'
                  clear e e2
                  go_roundw
                  case rel => exact ⟨t + 1, by go_num, by omega, hown', hrn⟩
                  case measure => simp [intOf]; omega
                · obtain rfl : t = l0.length := by omega
                  rw [show (turnR l0).take l0.length = turnR l0 from List.take_of_length_le (by omega)] at ho
                  go_wp2
                  go_ret
                  rw [← H.out]
                  exact ⟨_, rfl, R_pairs ho, hrow.hb⟩
  · exact nomatch h
end Go.Proofs.Ytphmnjapjalfgaa.X
