/- weave.Split. -/
import Derived.Test.YtphmnjapjalfgaaGPairs5
import Derived.Maps.AppendAt
import Derived.Deep.RegionWith
namespace Go.Proofs.Ytphmnjapjalfgaa.X
open Go.RowKit Go.Maps Go.Proofs.YtphmnjapjalfgaaW.PrintWords Go.Proofs.YtphmnjapjalfgaaW.PrintLast Go.Proofs.YtphmnjapjalfgaaW.PrintMore Go.Proofs.Ytphmnjapjalfgaa.GMap
set_option linter.unusedVariables false

theorem own_heap {W W' : World} {base n z : Nat} {e : TypeId} {v : Value} {xs : List Value} (ho : W.ownsRow base e z v n xs) (h : ∀ g, v.ownBlock = some g → W'.heap[g]? = W.heap[g]?) : W'.ownsRow base e z v n xs := by
  refine ⟨ho.1, ?_⟩
  rcases ho.2 with h1 | ⟨g, cap, cur, hv, hb, hh, rest⟩
  · exact .inl h1
  · exact .inr ⟨g, cap, cur, hv, hb, (h g (by rw [hv]; rfl)).trans hh, rest⟩
theorem heap_set_other (W : World) (X j : Nat) (v : Value) {g : Nat} (h : g ≠ X) : (W.setCell ⟨X, j, none⟩ v).heap[g]? = W.heap[g]? := by
  show (W.heap.modify X _)[g]? = _
  rw [Array.getElem?_modify, if_neg (fun e => h e.symm)]
theorem blk_set3 {W : World} {g t : Nat} {cur : Array Value} (h : W.heap[g]? = some (.cells cur t (0, 0))) (j : Nat) (v : Value) : (W.setCell ⟨g, j, none⟩ v).heap[g]? = some (.cells (cur.setIfInBounds j v) t (0, 0)) := blk_set h j v
/-- The parts, in memory. -/
structure Sp (base X : Nat) (ps : List PS) (as_ bs : List Int) (v0 v1 v2 : Value) (W : World) : Prop where
  blk : W.heap[X]? = some (.cells #[v0, v1, v2] 61 (0, 0))
  o0 : W.ownsRow base 37 2 v0 ps.length (cellsS ps)
  o1 : W.ownsRow base 3 1 v1 as_.length (encs (Value.int .i64) as_)
  o2 : W.ownsRow base 3 1 v2 bs.length (encs (Value.int .i64) bs)
  dis : ∀ b, v1.ownBlock = some b → v2.ownBlock ≠ some b
section
variable {base X : Nat} {ps : List PS} {as_ bs : List Int} {v0 v1 v2 : Value} {W W' : World}
theorem Sp.below (h : Sp base X ps as_ bs v0 v1 v2 W) (hb : Below W.heap.size W W') : Sp base X ps as_ bs v0 v1 v2 W' :=
  ⟨(hb.block _ (lt_of_block h.blk)).trans h.blk, pw_own_below h.o0 hb, pw_own_below h.o1 hb, pw_own_below h.o2 hb, h.dis⟩
theorem Sp.n0 (h : Sp base X ps as_ bs v0 v1 v2 W) : v0.ownBlock ≠ some X := fun e => by
  obtain ⟨cells, hc⟩ := own_typed h.o0 X e
  rw [h.blk] at hc; simp at hc
theorem Sp.n1 (h : Sp base X ps as_ bs v0 v1 v2 W) : v1.ownBlock ≠ some X := fun e => by
  obtain ⟨cells, hc⟩ := own_typed h.o1 X e
  rw [h.blk] at hc; simp at hc
theorem Sp.n2 (h : Sp base X ps as_ bs v0 v1 v2 W) : v2.ownBlock ≠ some X := fun e => by
  obtain ⟨cells, hc⟩ := own_typed h.o2 X e
  rw [h.blk] at hc; simp at hc
theorem Sp.d01 (h : Sp base X ps as_ bs v0 v1 v2 W) : ∀ b, v0.ownBlock = some b → v1.ownBlock ≠ some b := fun b e e' => by
  obtain ⟨cells, hc⟩ := own_typed h.o0 b e
  obtain ⟨cells', hc'⟩ := own_typed h.o1 b e'
  rw [hc] at hc'; simp at hc'
theorem Sp.d02 (h : Sp base X ps as_ bs v0 v1 v2 W) : ∀ b, v0.ownBlock = some b → v2.ownBlock ≠ some b := fun b e e' => by
  obtain ⟨cells, hc⟩ := own_typed h.o0 b e
  obtain ⟨cells', hc'⟩ := own_typed h.o2 b e'
  rw [hc] at hc'; simp at hc'
end
theorem own_lt {W : World} {base n z : Nat} {e : TypeId} {v : Value} {xs : List Value} (ho : W.ownsRow base e z v n xs) {g : Nat} (hg : v.ownBlock = some g) : g < W.heap.size := by
  obtain ⟨cells, hc⟩ := own_typed ho g hg
  exact lt_of_block hc
theorem own_slice {W : World} {base n z : Nat} {e : TypeId} {v : Value} {xs : List Value} (ho : W.ownsRow base e z v n xs) : ∃ A c, v = .slice A n c := by
  rcases ho.2 with ⟨rfl, h0⟩ | ⟨g, cap, cur, hv, _⟩
  · exact ⟨none, 0, by rw [h0]⟩
  · exact ⟨_, _, hv⟩
/-- A row grows; another one is as it was. -/
theorem own_other {W W5 : World} {base n z : Nat} {e : TypeId} {v u : Value} {xs : List Value} {o : Obj} (ho : W.ownsRow base e z v n xs) (hg : (W.alloc o).grownBy W5 u.ownBlock) (hne : ∀ b, v.ownBlock = some b → u.ownBlock ≠ some b) : W5.ownsRow base e z v n xs := by
  refine own_heap ho fun g hgv => ?_
  have hlt := own_lt ho hgv
  rw [hg.block g (by simp; omega) (fun e => hne g hgv e.symm), ha, if_neg (by omega)]

section
variable {base X : Nat} {ps : List PS} {as_ bs : List Int} {v0 v1 v2 : Value} {W w5 : World} {o : Obj}
theorem Sp.blk5 (h : Sp base X ps as_ bs v0 v1 v2 W) {u : Value} (hu : u.ownBlock ≠ some X) (hg : (W.alloc o).grownBy w5 u.ownBlock) : w5.heap[X]? = some (.cells #[v0, v1, v2] 61 (0, 0)) := by
  have hlt := lt_of_block h.blk
  exact (hg.block X (by rw [World.size_alloc]; omega) (fun e => hu e.symm)).trans (by rw [ha, if_neg (by omega)]; exact h.blk)
theorem at_ne {W : World} {o : Obj} {v' v : Value} {X : Nat} (hat : v'.ownBlock = v.ownBlock ∨ v'.ownBlock = some (W.alloc o).heap.size) (hv : v.ownBlock ≠ some X) (hX : X < W.heap.size) : v'.ownBlock ≠ some X := by
  rcases hat with e | e
  · rw [e]; exact hv
  · rw [e, World.size_alloc]; intro h; injection h with h; omega
theorem at_dis {W : World} {o : Obj} {v' v u : Value} {base n z : Nat} {e : TypeId} {xs : List Value} (hat : v'.ownBlock = v.ownBlock ∨ v'.ownBlock = some (W.alloc o).heap.size) (hu : W.ownsRow base e z u n xs) (hd : ∀ b, v.ownBlock = some b → u.ownBlock ≠ some b) : ∀ b, v'.ownBlock = some b → u.ownBlock ≠ some b := by
  intro b hb hub
  rcases hat with e | e
  · exact hd b (by rw [← e]; exact hb) hub
  · rw [e, World.size_alloc] at hb
    injection hb with hb
    have := own_lt hu hub
    omega
theorem Sp.grow1 (h : Sp base X ps as_ bs v0 v1 v2 W) {a : Int} {v' : Value} (hown : w5.ownsRow base 3 1 v' (as_.length + 1) (encs (Value.int .i64) as_ ++ [.int .i64 a])) (hg : (W.alloc o).grownBy w5 v1.ownBlock) (hat : v'.ownBlock = v1.ownBlock ∨ v'.ownBlock = some (W.alloc o).heap.size) :
    Sp base X ps (as_ ++ [a]) bs v0 v' v2 (w5.setCell ⟨X, 1, none⟩ v') := by
  have hlt := lt_of_block h.blk
  have hb5 := h.blk5 h.n1 hg
  refine ⟨(blk_set3 hb5 1 v').trans (by simp), ?_, ?_, ?_, ?_⟩
  · exact own_heap (own_other h.o0 hg h.d01) fun g hgv => heap_set_other _ _ _ _ (fun e => h.n0 (by rw [hgv, e]))
  · rw [encs_snoc, len_snoc]
    exact own_heap hown fun g hgv => heap_set_other _ _ _ _ (fun e => at_ne hat h.n1 hlt (by rw [hgv, e]))
  · exact own_heap (own_other h.o2 hg (fun b e e' => h.dis b e' e)) fun g hgv => heap_set_other _ _ _ _ (fun e => h.n2 (by rw [hgv, e]))
  · exact at_dis hat h.o2 h.dis
theorem Sp.grow2 (h : Sp base X ps as_ bs v0 v1 v2 W) {a : Int} {v' : Value} (hown : w5.ownsRow base 3 1 v' (bs.length + 1) (encs (Value.int .i64) bs ++ [.int .i64 a])) (hg : (W.alloc o).grownBy w5 v2.ownBlock) (hat : v'.ownBlock = v2.ownBlock ∨ v'.ownBlock = some (W.alloc o).heap.size) :
    Sp base X ps as_ (bs ++ [a]) v0 v1 v' (w5.setCell ⟨X, 2, none⟩ v') := by
  have hlt := lt_of_block h.blk
  have hb5 := h.blk5 h.n2 hg
  refine ⟨(blk_set3 hb5 2 v').trans (by simp), ?_, ?_, ?_, ?_⟩
  · exact own_heap (own_other h.o0 hg h.d02) fun g hgv => heap_set_other _ _ _ _ (fun e => h.n0 (by rw [hgv, e]))
  · exact own_heap (own_other h.o1 hg h.dis) fun g hgv => heap_set_other _ _ _ _ (fun e => h.n1 (by rw [hgv, e]))
  · rw [encs_snoc, len_snoc]
    exact own_heap hown fun g hgv => heap_set_other _ _ _ _ (fun e => at_ne hat h.n2 hlt (by rw [hgv, e]))
  · intro b e e'
    exact at_dis hat h.o1 (fun b e e' => h.dis b e' e) b e' e
theorem Sp.grow0 (h : Sp base X ps as_ bs v0 v1 v2 W) {p : PS} {v' : Value} (hown : w5.ownsRow base 37 2 v' (ps.length + 1) (cellsS ps ++ [.int .i64 p.f0, .int .i64 p.f1])) (hg : (W.alloc o).grownBy w5 v0.ownBlock) (hat : v'.ownBlock = v0.ownBlock ∨ v'.ownBlock = some (W.alloc o).heap.size) :
    Sp base X (ps ++ [p]) as_ bs v' v1 v2 (w5.setCell ⟨X, 0, none⟩ v') := by
  have hlt := lt_of_block h.blk
  have hb5 := h.blk5 h.n0 hg
  refine ⟨(blk_set3 hb5 0 v').trans (by simp), ?_, ?_, ?_, h.dis⟩
  · rw [cellsS_snoc, show (ps ++ [p]).length = ps.length + 1 from by simp]
    exact own_heap hown fun g hgv => heap_set_other _ _ _ _ (fun e => at_ne hat h.n0 hlt (by rw [hgv, e]))
  · exact own_heap (own_other h.o1 hg (fun b e e' => h.d01 b e' e)) fun g hgv => heap_set_other _ _ _ _ (fun e => h.n1 (by rw [hgv, e]))
  · exact own_heap (own_other h.o2 hg (fun b e e' => h.d02 b e' e)) fun g hgv => heap_set_other _ _ _ _ (fun e => h.n2 (by rw [hgv, e]))
end

theorem append_step {P : Program} {ops : Array Oper} {o : Oper} {a : Act} {Kc : Act → World → Prop} {Q : Exit → Act → World → Prop} {W : World} (hw : Region.wanted o (yielded ops a.tmps) = true) {N : Option Tmp} (hN : o.dst = N) (s x : Operand) (t : TypeId)
    (ho : o.op = .call { callee := .builtin .append, args := #[s, x], argTypes := #[t, t] })
    (base : Nat) (e : TypeId) (i : TypeInfo) (z : Value) (size bytes : Nat) (ht : P.underlying t = some (.slice e)) (hi : P.info? e = some i) (hz : i.zero = some z)
    (hsize : i.size = size) (hby : i.bytes = bytes) (hzs : z.cells.size = size) (hsz : 0 < size)
    (v : Value) (n : Nat) (xs : List Value) (hs : a.eval s = v) (hown : W.ownsRow base e size v n xs)
    (ad : Addr) (m c : Nat) (news : List Value) (hx : a.eval x = .slice (some ad) m c) (hl : news.length = m * size) (hnews : ∀ j u, news[j]? = some u → W.cell? (ad.add j) = some u) (h1 : ∀ u ∈ news, u.oneCell' = true)
    (h63 : n + m ≤ maxLen) (hbytes : (n + m) * bytes ≤ 140737488355328) (hbase : base ≤ W.heap.size)
    (h : ∀ v' w', w'.ownsRow base e size v' (n + m) (xs ++ news) → W.grownBy w' v.ownBlock → (v'.ownBlock = v.ownBlock ∨ v'.ownBlock = some W.heap.size) → Kc (a.put N v') w') :
    if Region.wanted o (yielded ops a.tmps) = true then Oper.wp P o a W Kc Q else Kc (a.put N undef) W := by
  subst hN
  rw [if_pos hw]
  obtain ⟨v', w', hr, h2, h3, h4, h5⟩ := run_append_own_at (P := P) W base t o.type e i z size bytes ht hi hz hsize hby hzs hsz v n xs hown ad m c news hl hnews h1 h63 hbytes hbase
  unfold Oper.wp execOp
  simp only [ho, resolve, invoke, builtin, Sem.run_bind, Sem.run_pure, Result.andThen_ok, List.map_toArray, List.map_cons, List.map_nil, hs, hx, hr]
  exact h v' w' h2 h3 h5
theorem lay_step {P : Program} {ops : Array Oper} {o : Oper} {a : Act} {Kc : Act → World → Prop} {Q : Exit → Act → World → Prop} {W : World} {cs : Array Value} {e : TypeId} (hw : Region.wanted o (yielded ops a.tmps) = true) {N : Option Tmp} (hN : o.dst = N)
    (hrun : (execOp a.eval o).run P W = .ok (.value (.slice (some ⟨W.heap.size, 0, none⟩) 1 1)) (W.alloc (.cells cs e)))
    (h : Kc (a.put N (.slice (some ⟨W.heap.size, 0, none⟩) 1 1)) (W.alloc (.cells cs e))) : if Region.wanted o (yielded ops a.tmps) = true then Oper.wp P o a W Kc Q else Kc (a.put N undef) W := by
  subst hN
  rw [if_pos hw]
  unfold Oper.wp
  rw [hrun]
  exact h

set_option maxRecDepth 100000 in
set_option maxHeartbeats 1600000 in
theorem gadd_calls (a : Int) {base X : Nat} {ps : List PS} {as_ bs : List Int} {v0 v1 v2 : Value} (W : World) (h : Sp base X ps as_ bs v0 v1 v2 W) (hX : base ≤ X) (hl : as_.length ≤ 200000) :
    Calls Try.prog 71 #[.int .i64 a, .pointer (some ⟨X, 0, none⟩)] W fun e w' => e = .returned (.tuple #[]) ∧ Below base W w' ∧ ∃ v1', Sp base X ps (as_ ++ [a]) bs v0 v1' v2 w' := by
  obtain ⟨i0, hi, hz0, hz1, hz2⟩ := info_parts info3
  have HS := Aside0.mk h
  have hc1 : W.cell? ⟨X, 1, none⟩ = some v1 := by simp [World.cell?, h.blk]
  have hlt := lt_of_block h.blk
  have hml : as_.length + 1 ≤ maxLen := by unfold maxLen; omega
  have hml2 : (as_.length + 1) * 8 ≤ 140737488355328 := by omega
  have q3 : base ≤ (W.alloc (.cells #[.int .i64 a] 3)).heap.size := by rw [World.size_alloc]; omega
  clear h
  go_enter Try.func71, Try.ntmps71
  go_wp2_with (first
    | (at_builtin; refine wpList_append_own_at _ rfl _ _ 31 rfl base 3 i0 (.int .i64 0) 1 8 Try.underlying31 hi hz0 hz1 hz2 rfl (by decide) _ _ _ rfl (HS.out.o1.alloc _) ⟨W.heap.size, 0, none⟩ 1 1 [.int .i64 a] rfl rfl (cell_one_new _ _ _) (by simp [Value.oneCell']) hml hml2 q3 ?_; intro v' w5 hown' hgrow _ hat; have hX5 : w5.heap[X]? = some (.cells #[v0, v1, v2] 61 (0, 0)) := (hgrow.block X (by rw [World.size_alloc]; omega) (fun e => HS.out.n1 e.symm)).trans (by rw [ha, if_neg (by omega)]; exact HS.out.blk); have hc5 : w5.cell? ⟨X, 1, none⟩ = some v1 := blk_cell hX5 1; have hf5 := blk_frozen hX5 1; obtain ⟨A', c', rfl⟩ := own_slice hown'))
  go_end0
  exact ⟨rfl, (((Below.refl base W).alloc (by omega) _).grown hgrow q3 (fun k hk => own_base HS.out.o1 k hk)).setCell (by exact hX) _, _, HS.out.grow1 hown' hgrow hat⟩

set_option maxRecDepth 100000 in
set_option maxHeartbeats 1600000 in
theorem fadd_calls (a : Int) {base X : Nat} {ps : List PS} {as_ bs : List Int} {v0 v1 v2 : Value} (W : World) (h : Sp base X ps as_ bs v0 v1 v2 W) (hX : base ≤ X) (hl : bs.length ≤ 200000) :
    Calls Try.prog 72 #[.int .i64 a, .pointer (some ⟨X, 0, none⟩)] W fun e w' => e = .returned (.tuple #[]) ∧ Below base W w' ∧ ∃ v2', Sp base X ps as_ (bs ++ [a]) v0 v1 v2' w' := by
  obtain ⟨i0, hi, hz0, hz1, hz2⟩ := info_parts info3
  have HS := Aside0.mk h
  have hc1 : W.cell? ⟨X, 2, none⟩ = some v2 := by simp [World.cell?, h.blk]
  have hlt := lt_of_block h.blk
  have hml : bs.length + 1 ≤ maxLen := by unfold maxLen; omega
  have hml2 : (bs.length + 1) * 8 ≤ 140737488355328 := by omega
  have q3 : base ≤ (W.alloc (.cells #[.int .i64 a] 3)).heap.size := by rw [World.size_alloc]; omega
  clear h
  go_enter Try.func72, Try.ntmps72
  go_wp2_with (first
    | (at_builtin; refine wpList_append_own_at _ rfl _ _ 31 rfl base 3 i0 (.int .i64 0) 1 8 Try.underlying31 hi hz0 hz1 hz2 rfl (by decide) _ _ _ rfl (HS.out.o2.alloc _) ⟨W.heap.size, 0, none⟩ 1 1 [.int .i64 a] rfl rfl (cell_one_new _ _ _) (by simp [Value.oneCell']) hml hml2 q3 ?_; intro v' w5 hown' hgrow _ hat; have hX5 : w5.heap[X]? = some (.cells #[v0, v1, v2] 61 (0, 0)) := (hgrow.block X (by rw [World.size_alloc]; omega) (fun e => HS.out.n2 e.symm)).trans (by rw [ha, if_neg (by omega)]; exact HS.out.blk); have hc5 : w5.cell? ⟨X, 2, none⟩ = some v2 := blk_cell hX5 2; have hf5 := blk_frozen hX5 2; obtain ⟨A', c', rfl⟩ := own_slice hown'))
  go_end0
  exact ⟨rfl, (((Below.refl base W).alloc (by omega) _).grown hgrow q3 (fun k hk => own_base HS.out.o2 k hk)).setCell (by exact hX) _, _, HS.out.grow2 hown' hgrow hat⟩

set_option maxRecDepth 100000 in
set_option maxHeartbeats 4000000 in
theorem badd_calls (p : PS) {base X : Nat} {ps : List PS} {as_ bs : List Int} {v0 v1 v2 : Value} (W : World) (h : Sp base X ps as_ bs v0 v1 v2 W) (hX : base ≤ X) (hl : ps.length ≤ 200000) :
    Calls Try.prog 70 #[.agg #[.int .i64 p.f0, .int .i64 p.f1], .pointer (some ⟨X, 0, none⟩)] W fun e w' => e = .returned (.tuple #[]) ∧ Below base W w' ∧ ∃ v0', Sp base X (ps ++ [p]) as_ bs v0' v1 v2 w' := by
  obtain ⟨i0, hi, hz0, hz1, hz2⟩ := info_parts info37
  have hlt := lt_of_block h.blk
  have hsz := World.size_alloc W (.cells #[.int .i64 p.f0, .int .i64 p.f1] 67)
  have HS := Aside0.mk (h.below ((Below.refl _ W).alloc (Nat.le_refl _) (.cells #[.int .i64 p.f0, .int .i64 p.f1] 67)))
  have HB := Aside0.mk ((Below.refl base W).alloc (Nat.le_trans hX (Nat.le_of_lt hlt)) (.cells #[.int .i64 p.f0, .int .i64 p.f1] 67))
  have hbx : (W.alloc (.cells #[.int .i64 p.f0, .int .i64 p.f1] 67)).heap[W.heap.size]? = some (.cells #[.int .i64 p.f0, .int .i64 p.f1] 67 (0, 0)) := by rw [ha, if_pos rfl]
  have hml : ps.length + 1 ≤ maxLen := by unfold maxLen; omega
  have hml2 : (ps.length + 1) * 16 ≤ 140737488355328 := by omega
  clear h
  go_enter Try.func70, Try.ntmps70
  go_wp2
  generalize W.alloc (.cells #[.int .i64 p.f0, .int .i64 p.f1] 67) = W1 at *
  generalize W.heap.size = B at *
  have hq0 := (cell2 hbx).1
  have hq1 := (cell2 hbx).2
  have hc0 : W1.cell? ⟨X, 0, none⟩ = some v0 := blk_cell HS.out.blk 0
  have HBX := Aside0.mk hbx
  clear hbx
  -- REGION
  refine start_ (n := 11) (S := fun w' => w'.cell? ⟨X, 0, none⟩ = some v0 ∧ w'.cell? ⟨B, 0, none⟩ = some (.int .i64 p.f0) ∧ w'.cell? ⟨B, 1, none⟩ = some (.int .i64 p.f1)) (ds := [10]) #[false, false, false, false, false, false, false, false, false, false, false] (by kernel_rfl) rfl rfl ⟨hc0, hq0, hq1⟩ (fun hHeld => ?_)
  have HS2 := Aside0.mk (HS.out.below (below_drew (Below.refl _ _)))
  have HB2 := Aside0.mk (below_drew HB.out)
  have HX2 := Aside0.mk (blk_drew HBX.out)
  clear HS HB HBX hc0 hq0 hq1
  generalize W1.drew = W2 at *
  refine pure_ (i := 0) (N := some 4) (v := ?_) (a' := ?_) #[true, false, false, false, false, false, false, false, false, false, false] rfl rfl (by kernel_rfl) (fun _ _ _ h => h) (Or.inl ⟨by rfl, ?_⟩) ?_ ?_
  rotate_left
  · intro w'
    go_simp
    with_reducible rfl
  rotate_left
  · simp only [Act.put, List.setIfInBounds_toArray, List.set_cons_zero, List.set_cons_succ]
    rfl
  refine pure_ (i := 1) (N := some 5) (v := ?_) (a' := ?_) #[true, true, false, false, false, false, false, false, false, false, false] rfl rfl (by kernel_rfl) (fun _ _ _ h => h) (Or.inl ⟨by rfl, ?_⟩) ?_ ?_
  rotate_left
  · intro w'
    go_simp
    with_reducible rfl
  rotate_left
  · simp only [Act.put, List.setIfInBounds_toArray, List.set_cons_zero, List.set_cons_succ]
    rfl
  refine pure_ (i := 2) (N := some 6) (v := ?_) (a' := ?_) #[true, true, true, false, false, false, false, false, false, false, false] rfl rfl (by kernel_rfl) (fun _ _ _ h => h) (Or.inl ⟨by rfl, ?_⟩) ?_ ?_
  rotate_left
  · intro w'
    go_simp
    with_reducible rfl
  rotate_left
  · simp only [Act.put, List.setIfInBounds_toArray, List.set_cons_zero, List.set_cons_succ]
    rfl
  refine pure_ (i := 3) (N := some 7) (v := ?_) (a' := ?_) #[true, true, true, true, false, false, false, false, false, false, false] rfl rfl (by kernel_rfl) (fun _ _ _ h => h) (Or.inl ⟨by rfl, ?_⟩) ?_ ?_
  rotate_left
  · intro w'
    go_simp
    with_reducible rfl
  rotate_left
  · simp only [Act.put, List.setIfInBounds_toArray, List.set_cons_zero, List.set_cons_succ]
    rfl
  refine take_ (i := 4) (N := some 8) (v := ?_) (a' := ?_) #[true, true, true, true, true, false, false, false, false, false, false] rfl rfl (by kernel_rfl) (fun _ _ _ h => h) (Or.inl ⟨by rfl, ?_⟩) hHeld ?_ ?_
  rotate_left
  · rintro w' ⟨s0, s1, s2⟩
    go_simp
    with_reducible rfl
  rotate_left
  · simp only [Act.put, List.setIfInBounds_toArray, List.set_cons_zero, List.set_cons_succ]
    rfl
  refine take_ (i := 5) (N := some 9) (v := ?_) (a' := ?_) #[true, true, true, true, true, true, false, false, false, false, false] rfl rfl (by kernel_rfl) (fun _ _ _ h => h) (Or.inl ⟨by rfl, ?_⟩) hHeld ?_ ?_
  rotate_left
  · rintro w' ⟨s0, s1, s2⟩
    go_simp
    with_reducible rfl
  rotate_left
  · simp only [Act.put, List.setIfInBounds_toArray, List.set_cons_zero, List.set_cons_succ]
    rfl
  refine one_ (i := 6) (N := some 10) #[true, true, true, true, true, true, true, false, false, false, false] rfl rfl (by kernel_rfl) (by decide) (fun K hK => ?_)
  refine lay_step (cs := #[.int .i64 p.f0, .int .i64 p.f1]) (e := 37) rfl rfl ?hr ?_
  case hr => first | (go_simp; done) | (go_simp; rfl)
  obtain ⟨s0, s1, s2⟩ := hHeld
  refine hK.out _ _ ⟨pw_cell_below ((Below.refl _ _).alloc (Nat.le_refl _) _) s0, pw_cell_below ((Below.refl _ _).alloc (Nat.le_refl _) _) s1, pw_cell_below ((Below.refl _ _).alloc (Nat.le_refl _) _) s2⟩ (fun hHeld => ?_)
  clear hK K
  refine norm_ (a' := ?_) ?_ ?_
  rotate_left
  · show Act.put _ (some 10) _ = _
    simp only [Act.put, List.setIfInBounds_toArray, List.set_cons_zero, List.set_cons_succ]
    rfl
  refine one_ (i := 7) (N := some 11) #[true, true, true, true, true, true, true, true, false, false, false] rfl rfl (by kernel_rfl) (by decide) (fun K hK => ?_)
  have q3 : base ≤ (W2.alloc (.cells #[.int .i64 p.f0, .int .i64 p.f1] 37)).heap.size := by have h1 := lt_of_block HS2.out.blk; rw [World.size_alloc]; omega
  refine append_step rfl rfl _ _ 22 rfl base 37 i0 _ 2 16 Try.underlying22 hi hz0 hz1 hz2 rfl (by decide) _ _ _ rfl (HS2.out.o0.alloc _) ⟨W2.heap.size, 0, none⟩ 1 1 [.int .i64 p.f0, .int .i64 p.f1] rfl rfl (cell_two_at _ _ _ _ _ rfl) (by simp [Value.oneCell']) hml hml2 q3 ?_
  intro v' w5 hown' hgrow hat
  have hX5 := HS2.out.blk5 HS2.out.n0 hgrow
  have hB5 : w5.heap[B]? = some (.cells #[.int .i64 p.f0, .int .i64 p.f1] 67 (0, 0)) := by
    have h1 := lt_of_block HX2.out
    refine (hgrow.block B (by rw [World.size_alloc]; omega) (fun e => ?_)).trans (by rw [ha, if_neg (by omega)]; exact HX2.out)
    obtain ⟨cells, hc⟩ := own_typed HS2.out.o0 B e.symm
    rw [HX2.out] at hc; simp at hc
  obtain ⟨A', c', rfl⟩ := own_slice hown'
  have hc5 := blk_cell hX5 0
  have hf5 := blk_frozen hX5 0
  refine hK.out _ _ ⟨hc5, blk_cell hB5 0, blk_cell hB5 1⟩ (fun hHeld => ?_)
  clear hK K
  refine norm_ (a' := ?_) ?_ ?_
  rotate_left
  · show Act.put _ (some 11) _ = _
    simp only [Act.put, List.setIfInBounds_toArray, List.set_cons_zero, List.set_cons_succ]
    rfl
  refine pure_ (i := 8) (N := some 12) (v := ?_) (a' := ?_) #[true, true, true, true, true, true, true, true, true, false, false] rfl rfl (by kernel_rfl) (fun _ _ _ h => h) (Or.inl ⟨by rfl, ?_⟩) ?_ ?_
  rotate_left
  · intro w'
    go_simp
    with_reducible rfl
  rotate_left
  · simp only [Act.put, List.setIfInBounds_toArray, List.set_cons_zero, List.set_cons_succ]
    rfl
  refine pure_ (i := 9) (N := some 13) (v := ?_) (a' := ?_) #[true, true, true, true, true, true, true, true, true, true, false] rfl rfl (by kernel_rfl) (fun _ _ _ h => h) (Or.inl ⟨by rfl, ?_⟩) ?_ ?_
  rotate_left
  · intro w'
    go_simp
    with_reducible rfl
  rotate_left
  · simp only [Act.put, List.setIfInBounds_toArray, List.set_cons_zero, List.set_cons_succ]
    rfl
  refine last_ (i := 10) (N := none) #[true, true, true, true, true, true, true, true, true, true, true] rfl rfl (by kernel_rfl) (by decide) (fun K hK => ?_)
  refine skip_ (w1 := w5.setCell ⟨X, 0, none⟩ (.slice A' (ps.length + 1) c')) rfl rfl ?hr2 ?_
  case hr2 => first | (go_simp; done) | (go_simp; rfl)
  refine hK.out _ _ ?_
  clear hK K
  refine done_ (by kernel_rfl) ?_
  go_end0
  exact ⟨rfl, ((HB2.out.alloc (by have h1 := lt_of_block HS2.out.blk; omega) _).grown hgrow q3 (fun k hk => own_base HS2.out.o0 k hk)).setCell (by exact hX) _, _, HS2.out.grow0 hown' hgrow hat⟩

theorem nadd_calls (X : Nat) (W : World) : Calls Try.prog 73 #[.agg #[], .pointer (some ⟨X, 0, none⟩)] W fun e w' => e = .returned (.tuple #[]) ∧ Below W.heap.size W w' := by
  go_enter Try.func73, Try.ntmps73
  go_wp2
  go_end0
  exact ⟨rfl, by repeat (first | (with_reducible exact Below.refl _ _) | apply below_alloc)⟩
def spP (l : List PS) : List PS := l.filter fun p => decide (0 ≤ p.f0 ∧ 0 ≤ p.f1)
def spA (l : List PS) : List Int := (l.filter fun p => decide (0 ≤ p.f0 ∧ p.f1 < 0)).map (·.f0)
def spB (l : List PS) : List Int := (l.filter fun p => decide (p.f0 < 0 ∧ 0 ≤ p.f1)).map (·.f1)
theorem spP_snoc (l : List PS) (p : PS) : spP (l ++ [p]) = if 0 ≤ p.f0 ∧ 0 ≤ p.f1 then spP l ++ [p] else spP l := by
  unfold spP; rw [List.filter_append]; by_cases h : 0 ≤ p.f0 ∧ 0 ≤ p.f1 <;> simp [h]
theorem spA_snoc (l : List PS) (p : PS) : spA (l ++ [p]) = if 0 ≤ p.f0 ∧ p.f1 < 0 then spA l ++ [p.f0] else spA l := by
  unfold spA; rw [List.filter_append]; by_cases h : 0 ≤ p.f0 ∧ p.f1 < 0 <;> simp [h]
theorem spB_snoc (l : List PS) (p : PS) : spB (l ++ [p]) = if p.f0 < 0 ∧ 0 ≤ p.f1 then spB l ++ [p.f1] else spB l := by
  unfold spB; rw [List.filter_append]; by_cases h : p.f0 < 0 ∧ 0 ≤ p.f1 <;> simp [h]
theorem spP_le (l : List PS) : (spP l).length ≤ l.length := List.length_filter_le _ _
theorem spA_le (l : List PS) : (spA l).length ≤ l.length := by unfold spA; rw [List.length_map]; exact List.length_filter_le _ _
theorem spB_le (l : List PS) : (spB l).length ≤ l.length := by unfold spB; rw [List.length_map]; exact List.length_filter_le _ _

set_option maxRecDepth 100000 in
set_option maxHeartbeats 1600000 in
theorem split_calls (A0 : Option Addr) (c0 : Nat) (l0 : List PS) (w : World) (hr0 : Kd.C k37 w A0 l0.length l0) (hla : l0.length ≤ 100000) :
    Calls Try.prog 33 #[.slice A0 l0.length c0] w fun e w' => ∃ v0 v1 v2, e = .returned (.tuple #[v0, v1, v2]) ∧ Sp w.heap.size w.heap.size (spP l0) (spA l0) (spB l0) v0 v1 v2 w' ∧ Below w.heap.size w w' := by
  have HR0 := Aside0.mk hr0
  have hm0 : ∀ (v : Value) (W : World), Sem.run Try.prog (method 188 67 v "tartan/weave.add") W = .ok (70, v) W := by intro v W; kernel_rfl
  have hm1 : ∀ (v : Value) (W : World), Sem.run Try.prog (method 188 68 v "tartan/weave.add") W = .ok (71, v) W := by intro v W; kernel_rfl
  have hm2 : ∀ (v : Value) (W : World), Sem.run Try.prog (method 188 69 v "tartan/weave.add") W = .ok (72, v) W := by intro v W; kernel_rfl
  have hm3 : ∀ (v : Value) (W : World), Sem.run Try.prog (method 188 71 v "tartan/weave.add") W = .ok (73, v) W := by intro v W; kernel_rfl
  clear hr0
  go_enter Try.func33, Try.ntmps33
  go_wp2
  go_loopw [12] (fun vi wr => ∃ t : Nat, vi = .int .i64 t ∧ t ≤ l0.length ∧ (∃ v0 v1 v2, Sp w.heap.size w.heap.size (spP (l0.take t)) (spA (l0.take t)) (spB (l0.take t)) v0 v1 v2 wr) ∧ Below w.heap.size w wr)
    (fun vi _ => l0.length - (intOf vi).toNat)
  case atStart =>
    refine ⟨0, rfl, Nat.zero_le _, ⟨.slice none 0 0, .slice none 0 0, .slice none 0 0, ?_⟩, (Below.refl _ _).alloc (Nat.le_refl _) _⟩
    refine ⟨by rw [ha, if_pos rfl], ?_, ?_, ?_, fun b h => by simp [Value.ownBlock] at h⟩
    · simpa [spP, cellsS] using World.ownsRow_nil _ _ _ _
    · simpa [spA, encs] using World.ownsRow_nil _ _ _ _
    · simpa [spB, encs] using World.ownsRow_nil _ _ _ _
  case round =>
    obtain ⟨t, rfl, ht, ⟨v0, v1, v2, hsp⟩, hb⟩ := hrel
    by_cases hlt : t < l0.length
    · have HR2 := Aside0.mk (Kd.C_below HR0.out hb)
      obtain ⟨ad, eA, hx0, hx1⟩ := pairAt HR2.out hlt
      cases eA
      have htk := Aside0.mk (take_rdP hlt)
      have q0 := spP_le (l0.take t)
      have q1 := spA_le (l0.take t)
      have q2 := spB_le (l0.take t)
      rw [List.length_take] at q0 q1 q2
      generalize rd_T37 l0 (t : Int) = p at *
      have HS := Aside0.mk hsp
      clear hsp
      by_cases k0 : 0 ≤ p.f0
      · by_cases k1 : 0 ≤ p.f1
        · have f0 : spP (l0.take (t + 1)) = spP (l0.take t) ++ [p] := by rw [htk.out, spP_snoc, if_pos ⟨k0, k1⟩]
          have f1 : spA (l0.take (t + 1)) = spA (l0.take t) := by rw [htk.out, spA_snoc, if_neg (by omega)]
          have f2 : spB (l0.take (t + 1)) = spB (l0.take t) := by rw [htk.out, spB_snoc, if_neg (by omega)]
          have F0 := Aside0.mk f0
          have F1 := Aside0.mk f1
          have F2 := Aside0.mk f2
          clear f0 f1 f2
          go_wp2_with (first
            | (go_at_call 70; (with_reducible refine (badd_calls p _ (HS.out.below (by repeat (first | (with_reducible exact Below.refl _ _) | apply below_alloc))) (Nat.le_refl _) (by omega)).mono ?_); rintro e w5 ⟨rfl, hb5, u', hsp'⟩)
            | go_in)
          go_roundw
          case rel =>
            refine ⟨t + 1, by go_num, by omega, ?_, (show Below w.heap.size w _ from by repeat (first | (with_reducible exact hb) | apply below_alloc)).trans hb5⟩
            rw [F0.out, F1.out, F2.out]
            exact ⟨_, _, _, hsp'⟩
          case measure => simp [intOf]; omega
        · have f0 : spP (l0.take (t + 1)) = spP (l0.take t) := by rw [htk.out, spP_snoc, if_neg (by omega)]
          have f1 : spA (l0.take (t + 1)) = spA (l0.take t) ++ [p.f0] := by rw [htk.out, spA_snoc, if_pos (by omega)]
          have f2 : spB (l0.take (t + 1)) = spB (l0.take t) := by rw [htk.out, spB_snoc, if_neg (by omega)]
          have F0 := Aside0.mk f0
          have F1 := Aside0.mk f1
          have F2 := Aside0.mk f2
          clear f0 f1 f2
          go_wp2_with (first
            | (go_at_call 71; (with_reducible refine (gadd_calls p.f0 _ (HS.out.below (by repeat (first | (with_reducible exact Below.refl _ _) | apply below_alloc))) (Nat.le_refl _) (by omega)).mono ?_); rintro e w5 ⟨rfl, hb5, u', hsp'⟩)
            | go_in)
          go_roundw
          case rel =>
            refine ⟨t + 1, by go_num, by omega, ?_, (show Below w.heap.size w _ from by repeat (first | (with_reducible exact hb) | apply below_alloc)).trans hb5⟩
            rw [F0.out, F1.out, F2.out]
            exact ⟨_, _, _, hsp'⟩
          case measure => simp [intOf]; omega
      · by_cases k1 : 0 ≤ p.f1
        · have f0 : spP (l0.take (t + 1)) = spP (l0.take t) := by rw [htk.out, spP_snoc, if_neg (by omega)]
          have f1 : spA (l0.take (t + 1)) = spA (l0.take t) := by rw [htk.out, spA_snoc, if_neg (by omega)]
          have f2 : spB (l0.take (t + 1)) = spB (l0.take t) ++ [p.f1] := by rw [htk.out, spB_snoc, if_pos (by omega)]
          have F0 := Aside0.mk f0
          have F1 := Aside0.mk f1
          have F2 := Aside0.mk f2
          clear f0 f1 f2
          go_wp2_with (first
            | (go_at_call 72; (with_reducible refine (fadd_calls p.f1 _ (HS.out.below (by repeat (first | (with_reducible exact Below.refl _ _) | apply below_alloc))) (Nat.le_refl _) (by omega)).mono ?_); rintro e w5 ⟨rfl, hb5, u', hsp'⟩)
            | go_in)
          go_roundw
          case rel =>
            refine ⟨t + 1, by go_num, by omega, ?_, (show Below w.heap.size w _ from by repeat (first | (with_reducible exact hb) | apply below_alloc)).trans hb5⟩
            rw [F0.out, F1.out, F2.out]
            exact ⟨_, _, _, hsp'⟩
          case measure => simp [intOf]; omega
        · have f0 : spP (l0.take (t + 1)) = spP (l0.take t) := by rw [htk.out, spP_snoc, if_neg (by omega)]
          have f1 : spA (l0.take (t + 1)) = spA (l0.take t) := by rw [htk.out, spA_snoc, if_neg (by omega)]
          have f2 : spB (l0.take (t + 1)) = spB (l0.take t) := by rw [htk.out, spB_snoc, if_neg (by omega)]
          have F0 := Aside0.mk f0
          have F1 := Aside0.mk f1
          have F2 := Aside0.mk f2
          clear f0 f1 f2
          go_wp2_with (first
            | (go_at_call 73; (with_reducible refine (nadd_calls _ _).mono ?_); rintro e w5 ⟨rfl, hb5⟩; have hbn : Below wr.heap.size wr w5 := Below.trans (by repeat (first | (with_reducible exact Below.refl _ _) | apply below_alloc)) (hb5.mono (by simp; omega)))
            | go_in)
          go_roundw
          case rel =>
            refine ⟨t + 1, by go_num, by omega, ?_, hb.trans (hbn.mono hb.size)⟩
            rw [F0.out, F1.out, F2.out]
            exact ⟨_, _, _, HS.out.below hbn⟩
          case measure => simp [intOf]; omega
    · obtain rfl : t = l0.length := by omega
      rw [List.take_length] at hsp
      have HS := Aside0.mk hsp
      clear hsp
      have c0_ := blk_cell HS.out.blk 0
      have c1_ := blk_cell HS.out.blk 1
      have c2_ := blk_cell HS.out.blk 2
      go_wp2
      go_quiet (fail)
      go_wp2
      refine bodyPost_ret (v := .tuple #[v0, v1, v2]) (by simp [results, Try.results33, go_sem]) rfl ?_
      exact ⟨_, _, _, rfl, HS.out.below (pw_below_drewN (Below.refl _ _) _), pw_below_drewN hb _⟩

def weave_Split.f (l0 : List PS) : Option (List PS × List Int × List Int) := if l0.length ≤ 100000 then some (spP l0, spA l0, spB l0) else none
theorem weave_Split.calls (A0 : Option Addr) (c0 : Nat) (l0 : List PS) (r1 : List PS) (r2 r3 : List Int) (w : World) (hr0 : Kd.C k37 w A0 l0.length l0) (hc0 : l0.length ≤ c0) (h : weave_Split.f l0 = some (r1, r2, r3)) :
    Calls Try.prog 33 #[.slice A0 l0.length c0] w fun e w' => ∃ v0_ v1_ v2_ : Value, e = .returned (.tuple #[v0_, v1_, v2_]) ∧ Kd.R k37 37 w' w.heap.size (fun _ => True) v0_ r1 ∧ Kd.R (Kd.int .i64) 3 w' w.heap.size (fun k_ => some k_ ≠ (v2_ : Value).ownBlock) v1_ r2 ∧ Kd.R (Kd.int .i64) 3 w' w.heap.size (fun k_ => some k_ ≠ (v1_ : Value).ownBlock) v2_ r3 ∧ Below w.heap.size w w' := by
  unfold weave_Split.f at h
  split at h
  · rename_i hla
    have h1 := Option.some.inj h
    injection h1 with e1 h1
    injection h1 with e2 e3
    subst e1; subst e2; subst e3
    refine (split_calls A0 c0 l0 w hr0 hla).mono ?_
    rintro e w' ⟨v0, v1, v2, rfl, hs, hb⟩
    exact ⟨v0, v1, v2, rfl, R_pairs hs.o0, Kd.R_of_own hs.o1 (fun k hk e => hs.dis k hk e.symm), Kd.R_of_own hs.o2 (fun k hk e => hs.dis k e.symm hk), hb⟩
  · exact nomatch h
end Go.Proofs.Ytphmnjapjalfgaa.X
