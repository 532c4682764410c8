/- Package pairs: Check, with what it computes. -/
import Derived.Test.YtchpgkojlhipgaaGMap
import Derived.Test.YtchpgkojlhipgaaWMore
import Derived.Test.YtchpgkojlhipgaaGSort2
import Derived.WalkKit
import Derived.WalkSpells
import Derived.Outline
import Derived.OneCell
import Derived.Laws.EntriesVeiled
import Derived.Deep.RegionHeld3
import Derived.Deep.QuietTactic
import Derived.BigQuiet
namespace Go.Proofs.Ytchpgkojlhipgaa.X
open Go.RowKit Go.WideMaps Go.Maps Go.Proofs.YtchpgkojlhipgaaW.PrintWords Go.Proofs.Ytchpgkojlhipgaa.GMap
set_option linter.unusedVariables false

theorem lawI : Keyed Try.prog 3 := int_keyed Try.underlying3
theorem zeroI (w : World) : (zeroValue 3).run Try.prog w = .ok (.int .i64 0) w := by kernel_rfl
abbrev MapI (w : World) (b s : Nat) (f : Int → Option Int) : Prop := MapO Try.prog 3 3 Go.Proofs.Ytchpgkojlhipgaa.GMap.encI w b s f
theorem keyI {x : Int} (hx : (Lit.int .i64 x).wf = true) : keyOf Try.prog 3 (.int .i64 x) = some (Go.Proofs.Ytchpgkojlhipgaa.GMap.encI.lit x) := keyOf_int_mk Try.underlying3 hx
theorem ha (w : World) (o : Obj) (i : Nat) : (w.alloc o).heap[i]? = if i = w.heap.size then some o else w.heap[i]? := Array.getElem?_push

/-- How often each number came, and how many came. -/
def cntI (xs : List Int) : Int → Option Int := fun x => if xs.count x = 0 then none else some (xs.count x : Nat)
theorem cntI_getD (xs : List Int) (x : Int) : (cntI xs x).getD 0 = (xs.count x : Nat) := by unfold cntI; split <;> simp_all
theorem cntI_snoc (xs : List Int) (x : Int) : cntI (xs ++ [x]) = upd (cntI xs) x ((cntI xs x).getD 0 + 1) := by
  funext y
  unfold upd
  rw [cntI_getD]
  unfold cntI
  rw [List.count_append, List.count_singleton]
  by_cases h : y = x
  · subst h; simp
  · have h' : ¬ x = y := fun e => h e.symm
    simp [h, h']
def dsz (xs : List Int) : Nat := (xs.foldl (fun (acc : List Int) x => if x ∈ acc then acc else acc ++ [x]) []).length
theorem dsz_mem (xs : List Int) (y : Int) : y ∈ xs.foldl (fun (acc : List Int) x => if x ∈ acc then acc else acc ++ [x]) [] ↔ y ∈ xs := by
  suffices h : ∀ (xs acc : List Int), y ∈ xs.foldl (fun (acc : List Int) x => if x ∈ acc then acc else acc ++ [x]) acc ↔ y ∈ acc ∨ y ∈ xs by simpa using h xs []
  intro xs
  induction xs with
  | nil => simp
  | cons x xs ih =>
    intro acc
    rw [List.foldl_cons, ih]
    by_cases hx : x ∈ acc
    · rw [if_pos hx, List.mem_cons]
      constructor
      · rintro (h | h)
        · exact .inl h
        · exact .inr (.inr h)
      · rintro (h | rfl | h)
        · exact .inl h
        · exact .inl hx
        · exact .inr h
    · rw [if_neg hx]; simp [or_assoc]
theorem dsz_snoc (xs : List Int) (x : Int) : dsz (xs ++ [x]) = if x ∈ xs then dsz xs else dsz xs + 1 := by
  unfold dsz
  rw [List.foldl_append, List.foldl_cons, List.foldl_nil]
  by_cases h : x ∈ xs
  · rw [if_pos ((dsz_mem xs x).2 h), if_pos h]
  · rw [if_neg (fun k => h ((dsz_mem xs x).1 k)), if_neg h]; simp
theorem dsz_grow (xs : List Int) (x : Int) : grow (cntI xs) x (dsz xs) = dsz (xs ++ [x]) := by
  have e : (cntI xs x).isSome = decide (x ∈ xs) := by
    unfold cntI
    by_cases h : x ∈ xs
    · have h1 : ¬ xs.count x = 0 := fun k => List.count_eq_zero.1 k h
      rw [if_neg h1, decide_eq_true h]; rfl
    · rw [if_pos (List.count_eq_zero.2 h), decide_eq_false h]; rfl
  rw [dsz_snoc]
  unfold grow
  rw [e]
  by_cases h : x ∈ xs <;> simp [h]
theorem dsz_le (xs : List Int) : dsz xs ≤ xs.length := by
  suffices h : ∀ (n : Nat) (xs : List Int), xs.length = n → dsz xs ≤ xs.length from h _ xs rfl
  intro n
  induction n with
  | zero => intro xs h; rw [List.eq_nil_of_length_eq_zero h]; exact Nat.le_refl _
  | succ n ih =>
    intro xs h
    have hne : xs ≠ [] := by intro e; rw [e] at h; simp at h
    rw [← List.dropLast_concat_getLast hne, dsz_snoc]
    have := ih xs.dropLast (by simp [h])
    split <;> simp <;> simp at this <;> omega
theorem bounds_i64 {n : Int} (h : (Lit.int .i64 n).wf = true) : -9223372036854775808 ≤ n ∧ n ≤ 9223372036854775807 := by
  simp [Lit.wf, IntKind.min, IntKind.max, IntKind.signed, IntKind.bits] at h
  omega
theorem cntI_step {xs : List Int} {x : Int} (hl : xs.length ≤ 100000) : upd (cntI xs) x (wrap64 ((cntI xs x).getD 0 + 1)) = cntI (xs ++ [x]) := by
  rw [cntI_snoc, cntI_getD]
  have := List.count_le_length (a := x) (l := xs)
  rw [show wrap64 ((xs.count x : Nat) + 1 : Int) = (xs.count x : Nat) + 1 from by unfold wrap64; omega]
theorem infoC : (Try.prog.info? 58).map (fun i => (i.zero, i.size, i.bytes)) = some (some (.agg #[(.int .i64 0), (.int .i64 0), (.int .i64 0)]), 3, 24) := by kernel_rfl
theorem infoP : (Try.prog.info? 32).map (fun i => (i.zero, i.size, i.bytes)) = some (some (.agg #[(.int .i64 0), (.int .i64 0)]), 2, 16) := by kernel_rfl
theorem rdC_mem {l : List SC} {t : Nat} (h : t < l.length) : rd_T24 l (t : Int) ∈ l := by
  unfold rd_T24
  rw [show (t : Int).toNat = t from rfl, List.getD_eq_getElem?_getD, List.getElem?_eq_getElem h]
  exact List.getElem_mem h
theorem take_rdC {l : List SC} {t : Nat} (h : t < l.length) : l.take (t + 1) = l.take t ++ [rd_T24 l (t : Int)] := by
  unfold rd_T24
  rw [show (t : Int).toNat = t from rfl, List.getD_eq_getElem?_getD, List.getElem?_eq_getElem h, List.take_succ_eq_append_getElem h]; rfl
theorem choiceAt {w : World} {A : Option Addr} {l : List SC} (h : Kd.C k24 w A l.length l) {t : Nat} (ht : t < l.length) : ∃ ad, A = some ad ∧ w.cell? (ad.add (t * 3)) = some (.int .i64 (rd_T24 l (t : Int)).f0) ∧
    w.cell? ⟨(ad.add (t * 3)).block, (ad.add (t * 3)).off + 1, none⟩ = some (.int .i64 (rd_T24 l (t : Int)).f1) ∧ w.cell? ⟨(ad.add (t * 3)).block, (ad.add (t * 3)).off + 2, none⟩ = some (.int .i64 (rd_T24 l (t : Int)).f2) := by
  obtain ⟨ad, e, h0, h1, h2⟩ := at_T24 h (t : Int) (by omega) (by omega)
  exact ⟨ad, e, h0, h1, h2⟩
theorem cellsC_snoc (l : List SC) (x : SC) : cellsC (l ++ [x]) = cellsC l ++ [.int .i64 x.f0, .int .i64 x.f1, .int .i64 x.f2] := by simp [cellsC, encC]
theorem cellsP_snoc (l : List PS) (x : PS) : cellsP (l ++ [x]) = cellsP l ++ [.int .i64 x.f0, .int .i64 x.f1] := by simp [cellsP, encP]
theorem reps_cellsC {w : World} {base : Nat} {ok : Nat → Prop} (ps : List SC) : Reps (k24.M w base ok) 3 ps (cellsC ps) := by
  suffices h : ∀ (n : Nat) (ps : List SC), ps.length = n → Reps (k24.M w base ok) 3 ps (cellsC ps) from h _ ps rfl
  intro n
  induction n with
  | zero => intro ps h; obtain rfl := List.eq_nil_of_length_eq_zero h; exact Reps.none _ _
  | succ n ih =>
    intro ps h
    have hne : ps ≠ [] := by intro e; rw [e] at h; simp at h
    rw [← List.dropLast_concat_getLast hne, cellsC_snoc]
    exact (ih ps.dropLast (by simp [h])).snoc (k24_mkM w base ok _) rfl
theorem reps_cellsP {w : World} {base : Nat} {ok : Nat → Prop} (ps : List PS) : Reps (k32.M w base ok) 2 ps (cellsP ps) := by
  suffices h : ∀ (n : Nat) (ps : List PS), ps.length = n → Reps (k32.M w base ok) 2 ps (cellsP ps) from h _ ps rfl
  intro n
  induction n with
  | zero => intro ps h; obtain rfl := List.eq_nil_of_length_eq_zero h; exact Reps.none _ _
  | succ n ih =>
    intro ps h
    have hne : ps ≠ [] := by intro e; rw [e] at h; simp at h
    rw [← List.dropLast_concat_getLast hne, cellsP_snoc]
    exact (ih ps.dropLast (by simp [h])).snoc (k32_mkM w base ok _) rfl
theorem R_choices {w' : World} {base : Nat} {v : Value} {ps : List SC} (ho : w'.ownsRow base 58 3 v ps.length (cellsC ps)) : Kd.R k24 58 w' base (fun _ => True) v ps :=
  ⟨fun _ _ => trivial, cellsC ps, ho, reps_cellsC _⟩
theorem R_pairs {w' : World} {base : Nat} {v : Value} {ps : List PS} (ho : w'.ownsRow base 32 2 v ps.length (cellsP ps)) : Kd.R k32 32 w' base (fun _ => True) v ps :=
  ⟨fun _ _ => trivial, cellsP ps, ho, reps_cellsP _⟩
theorem row_step {w wr w1 : World} {vo : Value} {n e z : Nat} {xs : List Value} {o : Obj} (ho : wr.ownsRow w.heap.size e z vo n xs) (hb : Below w.heap.size w wr) (hg : (wr.alloc o).grownBy w1 vo.ownBlock) : Below w.heap.size w w1 :=
  (hb.alloc hb.size o).grown hg (by simp; have := hb.size; omega) (fun k hk => own_base ho k hk)
theorem cell_at3 (w : World) (a b c : Value) (t : TypeId) (B : Nat) (hB : B = w.heap.size) : ∀ j u, [a, b, c][j]? = some u → (w.alloc (.cells #[a, b, c] t)).cell? ((⟨B, 0, none⟩ : Addr).add j) = some u := by
  subst hB
  intro j u hu
  have h := blk_new w (.cells #[a, b, c] t)
  have h2 : (w.alloc (.cells #[a, b, c] t)).cell? ((⟨w.heap.size, 0, none⟩ : Addr).add j) = #[a, b, c][j]? := by
    by_cases hj : j = 0
    · subst hj; exact blk_cell h 0
    · have : (⟨w.heap.size, 0, none⟩ : Addr).add j = ⟨w.heap.size, j, none⟩ := by simp [Addr.add, hj]
      rw [this]; exact blk_cell h j
  rw [h2]
  simpa using hu
theorem cell_at2 (w : World) (a b : Value) (t : TypeId) (B : Nat) (hB : B = w.heap.size) : ∀ j u, [a, b][j]? = some u → (w.alloc (.cells #[a, b] t)).cell? ((⟨B, 0, none⟩ : Addr).add j) = some u := by
  subst hB
  intro j u hu
  have h := blk_new w (.cells #[a, b] t)
  have h2 : (w.alloc (.cells #[a, b] t)).cell? ((⟨w.heap.size, 0, none⟩ : Addr).add j) = #[a, b][j]? := by
    by_cases hj : j = 0
    · subst hj; exact blk_cell h 0
    · have : (⟨w.heap.size, 0, none⟩ : Addr).add j = ⟨w.heap.size, j, none⟩ := by simp [Addr.add, hj]
      rw [this]; exact blk_cell h j
  rw [h2]
  simpa using hu

/-- One choice is looked at. -/
def stepK (out : List PS) (x : SC) : List PS := if x.f0 < 0 ∨ x.f1 < 0 ∨ 0 < (out.map (·.f0)).count x.f0 ∨ 0 < (out.map (·.f1)).count x.f1 then out else out ++ [⟨x.f0, x.f1⟩]
def pickL (l : List SC) : List PS := (sortC l).foldl stepK []
def pickR (l : List SC) : List PS := (pickL l).foldl putP []
def okC (l : List SC) : Bool := decide (l.length ≤ 100000) && l.all fun p => (Lit.int .i64 p.f0).wf && (Lit.int .i64 p.f1).wf
theorem okC_len {l : List SC} (h : okC l = true) : l.length ≤ 100000 := by
  simp only [okC, Bool.and_eq_true, decide_eq_true_eq] at h; exact h.1
theorem okC_mem {l : List SC} (h : okC l = true) : ∀ p ∈ l, (Lit.int .i64 p.f0).wf = true ∧ (Lit.int .i64 p.f1).wf = true := by
  simp only [okC, Bool.and_eq_true, List.all_eq_true, decide_eq_true_eq] at h; exact h.2
theorem stepK_len (out : List PS) (x : SC) : (stepK out x).length ≤ out.length + 1 := by unfold stepK; split <;> simp
theorem stepK_nd {out : List PS} (h : (out.map (·.f1)).Nodup) (x : SC) : ((stepK out x).map (·.f1)).Nodup := by
  unfold stepK
  split
  · exact h
  · rename_i hc
    rw [List.map_append]
    refine List.nodup_append.2 ⟨h, by simp, fun a ha b hb e => ?_⟩
    simp only [List.map_cons, List.map_nil, List.mem_singleton] at hb
    subst hb; subst e
    exact hc (.inr (.inr (.inr (List.count_pos_iff.2 ha))))
def atK (l : List SC) (t : Nat) : List PS := ((sortC l).take t).foldl stepK []
theorem atK_len (l : List SC) : ∀ t, (atK l t).length ≤ t := by
  intro t
  unfold atK
  suffices h : ∀ (xs : List SC) (out : List PS), (xs.foldl stepK out).length ≤ out.length + xs.length by
    have := h ((sortC l).take t) []
    rw [List.length_take] at this
    simp at this; omega
  intro xs
  induction xs with
  | nil => intro out; exact Nat.le_refl _
  | cons x xs ih => intro out; have := ih (stepK out x); have := stepK_len out x; rw [List.foldl_cons, List.length_cons]; omega
theorem atK_nd (l : List SC) (t : Nat) : ((atK l t).map (·.f1)).Nodup := by
  unfold atK
  suffices h : ∀ (xs : List SC) (out : List PS), (out.map (·.f1)).Nodup → ((xs.foldl stepK out).map (·.f1)).Nodup from h _ [] List.nodup_nil
  intro xs
  induction xs with
  | nil => intro out h; exact h
  | cons x xs ih => intro out h; exact ih _ (stepK_nd h x)
theorem atK_succ (l : List SC) {t : Nat} (ht : t < l.length) : atK l (t + 1) = stepK (atK l t) (rd_T24 (sortC l) (t : Int)) := by
  unfold atK
  rw [take_rdC (by rw [sortC_len]; exact ht), List.foldl_append]; rfl
theorem atK_all (l : List SC) : atK l l.length = pickL l := by
  unfold atK pickL
  rw [List.take_of_length_le (by rw [sortC_len]; omega)]
/-- Where the second loop stands. -/
structure PkAt (w2 : World) (out : List PS) (wr : World) : Prop where
  ma : MapI wr w2.heap.size (dsz (out.map (·.f0))) (cntI (out.map (·.f0)))
  mb : MapI wr (w2.heap.size + 1) (dsz (out.map (·.f1))) (cntI (out.map (·.f1)))
  hb : Below w2.heap.size w2 wr
theorem PkAt.start (w2 : World) : PkAt w2 [] ((w2.alloc (.map #[] 0)).alloc (.map #[] 0)) := by
  refine ⟨?_, ?_, ((Below.refl _ _).alloc (Nat.le_refl _) _).alloc (by simp) _⟩
  · have h := (MapO.made Try.prog 3 3 Go.Proofs.Ytchpgkojlhipgaa.GMap.encI w2).alloc (.map #[] 0)
    have e : cntI (([] : List PS).map (·.f0)) = fun _ => none := by funext k; simp [cntI]
    rw [e]; exact h
  · have h := MapO.made Try.prog 3 3 Go.Proofs.Ytchpgkojlhipgaa.GMap.encI (w2.alloc (.map #[] 0))
    have e : cntI (([] : List PS).map (·.f1)) = fun _ => none := by funext k; simp [cntI]
    rw [e]; rw [heapsz_alloc] at h; exact h
theorem PkAt.below {w2 wr wr' : World} {out : List PS} (h : PkAt w2 out wr) (hb : Below wr.heap.size wr wr') : PkAt w2 out wr' := ⟨h.ma.below hb, h.mb.below hb, h.hb.trans (hb.mono h.hb.size)⟩
theorem PkAt.alloc {w2 wr : World} {out : List PS} (h : PkAt w2 out wr) (o : Obj) : PkAt w2 out (wr.alloc o) := h.below ((Below.refl _ wr).alloc (Nat.le_refl _) o)
/-- A look-up, wherever it is asked. -/
theorem look_any {α : Type} {P : Program} {k e t : TypeId} {E : Enc α} {w : World} {m sz : Nat} {f : α → Option Int} (law : Keyed P k) (ht : P.underlying t = some (.map k e)) (he : P.underlying e = some (.int .i64)) (hz : ∀ w, (zeroValue e).run P w = .ok (.int .i64 0) w)
    (H : MapO P k e E w m sz f) {key : Value} {y : α} (hkey : keyOf P k key = some (E.lit y)) : Sem.run P (Instr.lookup t (.map (some m)) key false) w = .ok (.int .i64 ((f y).getD 0)) w := by
  obtain ⟨D, hown, hs, hD, hf⟩ := H
  obtain ⟨c, hrun, hat, hwc⟩ := hown.lookup_int law ht he (hz _) hkey
  have h := (hf y).2
  rw [hat] at h
  injection h with h1
  injection h1 with h1 h2
  subst h2
  exact hrun
theorem look_run {w : World} {m sz : Nat} {xs : List Int} {y : Int} (H : MapI w m sz (cntI xs)) (hy : (Lit.int .i64 y).wf = true) : Sem.run Try.prog (Instr.lookup 62 (.map (some m)) (.int .i64 y) false) w = .ok (.int .i64 (xs.count y : Nat)) w := by
  have h := look_any lawI Try.underlying62 Try.underlying3 zeroI H (keyI hy)
  rwa [cntI_getD] at h
theorem cnt_new {xs : List Int} {x : Int} (h : xs.count x = 0) : upd (cntI xs) x 1 = cntI (xs ++ [x]) := by
  rw [cntI_snoc, cntI_getD, h]; rfl
/-- A row is kept where a map grows. -/
theorem own_kept {w w' : World} {base n z m sz : Nat} {e : TypeId} {v : Value} {xs : List Value} {f : Int → Option Int} (ho : w.ownsRow base e z v n xs) (hm : MapI w m sz f) (hg : w.grownBy w' (some m)) : w'.ownsRow base e z v n xs := by
  refine ⟨ho.1, ?_⟩
  rcases ho.2 with h | ⟨g, cap, cur, hv, hb, hh, rest⟩
  · exact .inl h
  · refine .inr ⟨g, cap, cur, hv, hb, ?_, rest⟩
    refine (hg.block g (lt_of_block hh) fun e => ?_).trans hh
    obtain rfl : g = m := by simpa using e
    exact hm.noCells hh
theorem map_kept {w w' : World} {base n z m sz : Nat} {e : TypeId} {v : Value} {xs : List Value} {f : Int → Option Int} {o : Obj} (ho : w.ownsRow base e z v n xs) (hm : MapI w m sz f) (hg : (w.alloc o).grownBy w' v.ownBlock) : MapI w' m sz f := by
  refine (hm.alloc o).kept hg fun e => ?_
  obtain ⟨cells, hc⟩ := own_typed ho m e.symm
  exact hm.noCells hc
theorem PkAt.put1 {w2 W w3 : World} {out : List PS} {B : Nat} {p : SC} {fr : Nat × Nat} (h : PkAt w2 out W) (hbx : W.heap[B]? = some (.cells #[.int .i64 p.f0, .int .i64 p.f1, .int .i64 p.f2] 58 fr)) (hg : W.grownBy w3 (some w2.heap.size)) :
    w3.cell? ⟨B, 0, none⟩ = some (.int .i64 p.f0) ∧ w3.cell? ⟨B, 1, none⟩ = some (.int .i64 p.f1) ∧ w3.heap[B]? = some (.cells #[.int .i64 p.f0, .int .i64 p.f1, .int .i64 p.f2] 58 fr) ∧ MapI w3 (w2.heap.size + 1) (dsz (out.map (·.f1))) (cntI (out.map (·.f1))) := by
  have hne : B ≠ w2.heap.size := fun e => by subst e; exact h.ma.noCells hbx
  have hb3 := (hg.block _ (lt_of_block hbx) (by simpa using hne)).trans hbx
  exact ⟨by simp [World.cell?, hb3], by simp [World.cell?, hb3], hb3, h.mb.kept hg (by simp)⟩
theorem put2 {w2 w3 w4 : World} {sz : Nat} {f : Int → Option Int} {B : Nat} {p : SC} {fr : Nat × Nat} (hmb : MapI w3 (w2.heap.size + 1) sz f) (hbx : w3.heap[B]? = some (.cells #[.int .i64 p.f0, .int .i64 p.f1, .int .i64 p.f2] 58 fr)) (hg : w3.grownBy w4 (some (w2.heap.size + 1))) :
    w4.cell? ⟨B, 0, none⟩ = some (.int .i64 p.f0) ∧ w4.cell? ⟨B, 1, none⟩ = some (.int .i64 p.f1) := by
  have hne : B ≠ w2.heap.size + 1 := fun e => by subst e; exact hmb.noCells hbx
  have hb3 := (hg.block _ (lt_of_block hbx) (by simpa using hne)).trans hbx
  exact ⟨by simp [World.cell?, hb3], by simp [World.cell?, hb3]⟩
theorem PkAt.next {w2 W w3 w4 w5 : World} {out : List PS} {p : SC} {vo : Value} {n : Nat} {xs : List Value} {o : Obj} (h : PkAt w2 out W)
    (hm1 : MapI w3 w2.heap.size (GMap.grow (cntI (out.map (·.f0))) p.f0 (dsz (out.map (·.f0)))) (upd (cntI (out.map (·.f0))) p.f0 1)) (hg1 : W.grownBy w3 (some w2.heap.size))
    (hm2 : MapI w4 (w2.heap.size + 1) (GMap.grow (cntI (out.map (·.f1))) p.f1 (dsz (out.map (·.f1)))) (upd (cntI (out.map (·.f1))) p.f1 1)) (hg2 : w3.grownBy w4 (some (w2.heap.size + 1)))
    (ho4 : w4.ownsRow w2.heap.size 32 2 vo n xs) (hg3 : (w4.alloc o).grownBy w5 vo.ownBlock) (e0 : (out.map (·.f0)).count p.f0 = 0) (e1 : (out.map (·.f1)).count p.f1 = 0) : PkAt w2 (out ++ [⟨p.f0, p.f1⟩]) w5 := by
  rw [cnt_new e0, dsz_grow] at hm1
  rw [cnt_new e1, dsz_grow] at hm2
  have hb3 := h.hb.grown hg1 h.hb.size (fun j hj => by cases hj; exact Nat.le_refl _)
  have hb4 := hb3.grown hg2 hb3.size (fun j hj => by cases hj; omega)
  refine ⟨?_, ?_, row_step ho4 hb4 hg3⟩
  · rw [List.map_append]; exact map_kept ho4 (hm1.kept hg2 (by simp)) hg3
  · rw [List.map_append]; exact map_kept ho4 hm2 hg3
def greedy_Pick.f (l : List SC) : Option (List PS) := if okC l = true then some (pickR l) else none

set_option maxRecDepth 100000 in
set_option maxHeartbeats 1600000 in
theorem greedy_Pick.calls (A0 : Option Addr) (c0 : Nat) (l0 : List SC) (r : List PS) (w : World) (hr0 : Kd.C k24 w A0 l0.length l0) (hc0 : l0.length ≤ c0) (h : greedy_Pick.f l0 = some r) :
    Calls Try.prog 16 #[.slice A0 l0.length c0] w fun e w' => ∃ v0_ : Value, e = .returned (v0_) ∧ Kd.R k32 32 w' w.heap.size (fun _ => True) v0_ r ∧ Below w.heap.size w w' := by
  unfold greedy_Pick.f at h
  split at h
  · rename_i hok
    have H := Aside0.mk (Option.some.inj h)
    have HR0 := Aside0.mk hr0
    have HL := Aside0.mk hok
    have hla := okC_len hok
    have hmm := @run_makeMap Try.prog
    obtain ⟨i0, hi, hz0, hz1, hz2⟩ := info_parts infoC
    obtain ⟨j0, hj, hy0, hy1, hy2⟩ := info_parts infoP
    clear h hr0 hc0 hok
    go_enter Try.func16, Try.ntmps16
    go_wp2
    go_step3
    go_wp2
    go_loopw [13, 3] (fun vi vo wr => ∃ t : Nat, vi = .int .i64 t ∧ t ≤ l0.length ∧ wr.ownsRow w.heap.size 58 3 vo (l0.take t).length (cellsC (l0.take t)) ∧ Below w.heap.size w wr)
      (fun vi _ _ => l0.length - (intOf vi).toNat)
    case atStart => exact ⟨0, rfl, Nat.zero_le _, by simpa [cellsC] using World.ownsRow_nil _ _ _ _, Below.refl _ _⟩
    case round =>
      obtain ⟨t, rfl, ht, ho, hb⟩ := hrel
      by_cases hlt : t < l0.length
      · have HR2 := Aside0.mk (Kd.C_below HR0.out hb)
        have htk := Aside0.mk (take_rdC hlt)
        obtain ⟨ad, eA, hx0, hx1, hx2⟩ := choiceAt HR2.out hlt
        cases eA
        generalize rd_T24 l0 (t : Int) = p at *
        have hml : (l0.take t).length + 1 ≤ maxLen := by rw [List.length_take]; unfold maxLen; omega
        have hml2 : ((l0.take t).length + 1) * 24 ≤ 140737488355328 := by rw [List.length_take]; omega
        have HO2 := Aside0.mk (ho.alloc (.cells #[.int .i64 p.f0, .int .i64 p.f1, .int .i64 p.f2] 24))
        have hbA := hb.alloc hb.size (.cells #[.int .i64 p.f0, .int .i64 p.f1, .int .i64 p.f2] 24)
        have hz := hb.size
        have q3 : w.heap.size ≤ ((wr.alloc (.cells #[.int .i64 p.f0, .int .i64 p.f1, .int .i64 p.f2] 24)).alloc (.cells #[.int .i64 p.f0, .int .i64 p.f1, .int .i64 p.f2] 58)).heap.size := by rw [heapsz_alloc, heapsz_alloc]; omega
        clear ho
        go_wp2_with (first
          | (at_builtin; refine wpList_append_own _ rfl _ _ 57 rfl w.heap.size 58 i0 _ 3 24 Try.underlying57 hi hz0 hz1 hz2 rfl (by decide) _ _ _ rfl (HO2.out.alloc _) ⟨wr.heap.size + 1, 0, none⟩ 1 1 [.int .i64 p.f0, .int .i64 p.f1, .int .i64 p.f2] rfl rfl (cell_at3 _ _ _ _ _ _ (by rw [heapsz_alloc])) (by simp [Value.oneCell']) hml hml2 q3 ?_; intro v' w1 hown' hgrow _))
        have hbn := (hbA.alloc hbA.size (.cells #[.int .i64 p.f0, .int .i64 p.f1, .int .i64 p.f2] 58)).grown hgrow q3 (fun k hk => own_base HO2.out k hk)
        have e : cellsC (l0.take (t + 1)) = cellsC (l0.take t) ++ [.int .i64 p.f0, .int .i64 p.f1, .int .i64 p.f2] := by rw [htk.out, cellsC_snoc]
        have e2 : (l0.take (t + 1)).length = (l0.take t).length + 1 := by rw [htk.out]; simp
        rw [← e, ← e2] at hown'
        clear e e2
        go_roundw
        case rel => exact ⟨t + 1, by go_num, by omega, hown', hbn⟩
        case measure => simp [intOf]; omega
      · obtain rfl : t = l0.length := by omega
        have ho' : wr.ownsRow w.heap.size 58 3 u3 l0.length (cellsC l0) := by rwa [List.take_length] at ho
        clear ho
        have HO := Aside0.mk ho'
        clear ho'
        go_wp2_with (first
          | (go_at_call 33; (with_reducible refine (sortC_calls l0 _ w.heap.size _ HO.out hla).mono ?_); rintro e w2 ⟨rfl, ho2, hb2⟩))
        have HW := Aside0.mk (hb.trans hb2)
        clear HR0 HO hb
        have hls := sortC_len l0
        have ho3 : w2.ownsRow w.heap.size 58 3 u3 (sortC l0).length (cellsC (sortC l0)) := by rw [hls]; exact ho2
        obtain ⟨As, cs, rfl, hcs, hCs⟩ := Kd.R_reads (R_choices ho3)
        have HS := Aside0.mk hCs
        clear hCs ho2 ho3 hb2
        go_step3
        go_wp2
        go_loopw [28, 8] (fun vi vo wr => ∃ t : Nat, vi = .int .i64 t ∧ t ≤ l0.length ∧ wr.ownsRow w2.heap.size 32 2 vo (atK l0 t).length (cellsP (atK l0 t)) ∧ PkAt w2 (atK l0 t) wr)
          (fun vi _ _ => l0.length - (intOf vi).toNat)
        case atStart => exact ⟨0, rfl, Nat.zero_le _, by simpa [cellsP, atK] using World.ownsRow_nil _ _ _ _, PkAt.start w2⟩
        case round =>
          obtain ⟨t, rfl, ht, ho, hpk⟩ := hrel
          by_cases hlt : t < l0.length
          · have HS2 := Aside0.mk (Kd.C_below HS.out hpk.hb)
            obtain ⟨ad, eA, hx0, hx1, hx2⟩ := choiceAt HS2.out (t := t) (by omega)
            cases eA
            have hwf := okC_mem HL.out _ ((perm_isort leC l0).mem_iff.1 (rdC_mem (l := sortC l0) (t := t) (by omega)))
            have hsu := Aside0.mk (atK_succ l0 hlt)
            have lt1 : (t : Int) < ((sortC l0).length : Int) := by omega
            have hlk := atK_len l0 t
            generalize rd_T24 (sortC l0) (t : Int) = p at *
            generalize hout : atK l0 t = out at *
            have HPK := Aside0.mk hpk
            have HO := Aside0.mk ho
            have hbx : (wr.alloc (.cells #[.int .i64 p.f0, .int .i64 p.f1, .int .i64 p.f2] 58)).heap[wr.heap.size]? = some (.cells #[.int .i64 p.f0, .int .i64 p.f1, .int .i64 p.f2] 58 (0, 0)) := by rw [ha, if_pos rfl]
            have HPA := Aside0.mk (HPK.out.alloc (.cells #[.int .i64 p.f0, .int .i64 p.f1, .int .i64 p.f2] 58))
            have HOA := Aside0.mk (HO.out.alloc (.cells #[.int .i64 p.f0, .int .i64 p.f1, .int .i64 p.f2] 58))
            clear hpk ho
            by_cases k0 : p.f0 < 0
            · have e : atK l0 (t + 1) = out := by rw [hsu.out]; unfold stepK; rw [if_pos (.inl k0)]
              have HE := Aside0.mk e
              clear e hsu hout
              go_wp2
              go_roundw
              case rel => exact ⟨t + 1, by go_num, by omega, by rw [HE.out]; exact HOA.out, by rw [HE.out]; exact HPA.out⟩
              case measure => simp [intOf]; omega
            by_cases k1 : p.f1 < 0
            · have e : atK l0 (t + 1) = out := by rw [hsu.out]; unfold stepK; rw [if_pos (.inr (.inl k1))]
              have HE := Aside0.mk e
              clear e hsu hout
              go_wp2
              go_roundw
              case rel => exact ⟨t + 1, by go_num, by omega, by rw [HE.out]; exact HOA.out, by rw [HE.out]; exact HPA.out⟩
              case measure => simp [intOf]; omega
            have r1 := look_run HPA.out.ma hwf.1
            have r2 := look_run HPA.out.mb hwf.2
            by_cases k2 : 0 < (out.map (·.f0)).count p.f0
            · have e : atK l0 (t + 1) = out := by rw [hsu.out]; unfold stepK; rw [if_pos (.inr (.inr (.inl k2)))]
              have HE := Aside0.mk e
              have k2' : (0 : Int) < (((out.map (·.f0)).count p.f0 : Nat) : Int) := by omega
              clear e hsu hout
              generalize (((out.map (·.f0)).count p.f0 : Nat) : Int) = n1 at *
              go_wp2
              go_roundw
              case rel => exact ⟨t + 1, by go_num, by omega, by rw [HE.out]; exact HOA.out, by rw [HE.out]; exact HPA.out⟩
              case measure => simp [intOf]; omega
            by_cases k3 : 0 < (out.map (·.f1)).count p.f1
            · have e : atK l0 (t + 1) = out := by rw [hsu.out]; unfold stepK; rw [if_pos (.inr (.inr (.inr k3)))]
              have HE := Aside0.mk e
              have k2' : ¬ (0 : Int) < (((out.map (·.f0)).count p.f0 : Nat) : Int) := by omega
              have k3' : (0 : Int) < (((out.map (·.f1)).count p.f1 : Nat) : Int) := by omega
              clear e hsu hout
              generalize (((out.map (·.f0)).count p.f0 : Nat) : Int) = n1 at *
              generalize (((out.map (·.f1)).count p.f1 : Nat) : Int) = n2 at *
              go_wp2
              go_roundw
              case rel => exact ⟨t + 1, by go_num, by omega, by rw [HE.out]; exact HOA.out, by rw [HE.out]; exact HPA.out⟩
              case measure => simp [intOf]; omega
            have e : atK l0 (t + 1) = out ++ [⟨p.f0, p.f1⟩] := by rw [hsu.out]; unfold stepK; rw [if_neg (by omega)]
            have HE := Aside0.mk e
            have e2 : (out.map (·.f0)).count p.f0 = 0 := by omega
            have e3 : (out.map (·.f1)).count p.f1 = 0 := by omega
            rw [e2] at r1
            rw [e3] at r2
            clear e hsu hout
            have sa : dsz (out.map (·.f0)) < maxLen := by have := dsz_le (out.map (·.f0)); rw [List.length_map] at this; unfold maxLen; omega
            have sb : dsz (out.map (·.f1)) < maxLen := by have := dsz_le (out.map (·.f1)); rw [List.length_map] at this; unfold maxLen; omega
            have hml : out.length + 1 ≤ maxLen := by unfold maxLen; omega
            have hml2 : (out.length + 1) * 16 ≤ 140737488355328 := by omega
            go_wp2_with (first
              | (at_mapUpdate; refine store_arm lawI Try.underlying62 Try.underlying3 rfl _ _ _ rfl _ _ _ rfl HPA.out.ma sa _ _ rfl (keyI hwf.1) _ rfl (by decide) ?_; intro w3 hm1 hg1; obtain ⟨c30, c31, hbx3, hmb3⟩ := HPA.out.put1 hbx hg1; have r3 := look_run hmb3 hwf.2; rw [e3] at r3; have HO3 := Aside0.mk (own_kept HOA.out HPA.out.ma hg1))
              | (at_mapUpdate; refine store_arm lawI Try.underlying62 Try.underlying3 rfl _ _ _ rfl _ _ _ rfl hmb3 sb _ _ rfl (keyI hwf.2) _ rfl (by decide) ?_; intro w4 hm2 hg2; obtain ⟨c40, c41⟩ := put2 hmb3 hbx3 hg2; have HO4 := Aside0.mk (own_kept HO3.out hmb3 hg2); have hz4 : w2.heap.size ≤ (w4.alloc (.cells #[.int .i64 p.f0, .int .i64 p.f1] 32)).heap.size := by rw [heapsz_alloc]; have := hg1.size; have := hg2.size; have := HPA.out.hb.size; omega)
              | (at_builtin; refine wpList_append_own _ rfl _ _ 27 rfl w2.heap.size 32 j0 _ 2 16 Try.underlying27 hj hy0 hy1 hy2 rfl (by decide) _ _ _ rfl (HO4.out.alloc _) ⟨w4.heap.size, 0, none⟩ 1 1 [.int .i64 p.f0, .int .i64 p.f1] rfl rfl (cell_at2 _ _ _ _ _ rfl) (by simp [Value.oneCell']) hml hml2 hz4 ?_; intro v' w5 hown' hgrow _))
            have hn := HPA.out.next hm1 hg1 hm2 hg2 HO4.out hgrow e2 e3
            have el : (out ++ [(⟨p.f0, p.f1⟩ : PS)]).length = out.length + 1 := by simp
            rw [← cellsP_snoc out ⟨p.f0, p.f1⟩, ← el] at hown'
            go_roundw
            case rel => exact ⟨v', _, .int .i64 ((t : Int) + 1), ⟨t + 1, by go_num, by omega, by rw [HE.out]; exact hown', by rw [HE.out]; exact hn⟩, rfl, rfl, rfl⟩
            case measure => simp [intOf]; omega
          · obtain rfl : t = l0.length := by omega
            have HPK := Aside0.mk hpk
            have ho' : wr.ownsRow w2.heap.size 32 2 u8 (pickL l0).length (cellsP (pickL l0)) := by rw [← atK_all]; exact ho
            have hnd := atK_nd l0 l0.length
            have hlp := atK_len l0 l0.length
            rw [atK_all] at hnd hlp
            have HO := Aside0.mk ho'
            have HN := Aside0.mk hnd
            clear ho ho' hpk hnd
            go_wp2_with (first
              | (go_at_call 35; (with_reducible refine (sortP_calls (pickL l0) _ w2.heap.size _ HO.out (by omega) HN.out).mono ?_); rintro e w6 ⟨rfl, ho6, hb6⟩))
            simp only [Exit.noGoto]
            refine bodyPost_ret (results_tmp rfl _ _ _) rfl ?_
            have hl6 : (pickR l0).length = (pickL l0).length := by unfold pickR; rw [foldl_put_len]; simp
            have ho7 : w6.ownsRow w2.heap.size 32 2 u8 (pickR l0).length (cellsP (pickR l0)) := by rw [hl6]; exact ho6
            rw [← H.out]
            exact ⟨_, rfl, Kd.R_lower (R_pairs ho7) HW.out.size, HW.out.trans ((HPK.out.hb.trans hb6).mono HW.out.size)⟩
  · exact nomatch h
end Go.Proofs.Ytchpgkojlhipgaa.X
