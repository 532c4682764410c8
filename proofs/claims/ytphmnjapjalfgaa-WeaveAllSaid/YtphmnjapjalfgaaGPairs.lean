/- Package pairs: Check, with what it computes. -/
import Derived.Test.YtphmnjapjalfgaaGMap
import Derived.Test.YtphmnjapjalfgaaWMore
import Derived.Test.YtphmnjapjalfgaaX0
import Derived.WalkKit
import Derived.WalkSpells
import Derived.Outline
import Derived.OneCell
import Derived.Laws.EntriesVeiled
import Derived.Deep.RegionHeld3
import Derived.Deep.QuietTactic
import Derived.BigQuiet
namespace Go.Proofs.Ytphmnjapjalfgaa.X
open Go.RowKit Go.WideMaps Go.Maps Go.Proofs.YtphmnjapjalfgaaW.PrintWords Go.Proofs.Ytphmnjapjalfgaa.GMap
set_option linter.unusedVariables false

theorem lawI : Keyed Try.prog 3 := int_keyed Try.underlying3
theorem zeroI (w : World) : (zeroValue 3).run Try.prog w = .ok (.int .i64 0) w := by kernel_rfl
abbrev MapI (w : World) (b s : Nat) (f : Int → Option Int) : Prop := MapO Try.prog 3 3 encI w b s f
theorem keyI {x : Int} (hx : (Lit.int .i64 x).wf = true) : keyOf Try.prog 3 (.int .i64 x) = some (encI.lit x) := keyOf_int_mk Try.underlying3 hx
theorem ha (w : World) (o : Obj) (i : Nat) : (w.alloc o).heap[i]? = if i = w.heap.size then some o else w.heap[i]? := Array.getElem?_push

abbrev PS := S37
/-- A pair's two cells. -/
theorem pairAt {w : World} {A : Option Addr} {l : List PS} (h : Kd.C k37 w A l.length l) {t : Nat} (ht : t < l.length) : ∃ ad, A = some ad ∧ w.cell? (ad.add (t * 2)) = some (.int .i64 (rd_T37 l (t : Int)).f0) ∧
    w.cell? ⟨(ad.add (t * 2)).block, (ad.add (t * 2)).off + 1, none⟩ = some (.int .i64 (rd_T37 l (t : Int)).f1) := by
  obtain ⟨ad, e, h0, h1⟩ := at_T37 h (t : Int) (by omega) (by omega)
  exact ⟨ad, e, h0, h1⟩

def okP (l : List PS) : Bool := decide (l.length ≤ 100000) && l.all fun p => (Lit.int .i64 p.f0).wf && (Lit.int .i64 p.f1).wf
theorem okP_len {l : List PS} (h : okP l = true) : l.length ≤ 100000 := by
  simp only [okP, Bool.and_eq_true, decide_eq_true_eq] at h; exact h.1
theorem okP_mem {l : List PS} (h : okP l = true) : ∀ p ∈ l, (Lit.int .i64 p.f0).wf = true ∧ (Lit.int .i64 p.f1).wf = true := by
  simp only [okP, Bool.and_eq_true, List.all_eq_true, decide_eq_true_eq] at h; exact h.2
theorem rdP_mem {l : List PS} {t : Nat} (h : t < l.length) : rd_T37 l (t : Int) ∈ l := by
  unfold rd_T37
  rw [show (t : Int).toNat = t from rfl, List.getD_eq_getElem?_getD, List.getElem?_eq_getElem h]
  exact List.getElem_mem h
theorem take_rdP {l : List PS} {t : Nat} (h : t < l.length) : l.take (t + 1) = l.take t ++ [rd_T37 l (t : Int)] := by
  unfold rd_T37
  rw [show (t : Int).toNat = t from rfl, List.getD_eq_getElem?_getD, List.getElem?_eq_getElem h, List.take_succ_eq_append_getElem h]; rfl

/-- How often each number came, and how many came. -/
def cntI (xs : List Int) : Int → Option Int := fun x => if xs.count x = 0 then none else some (xs.count x : Nat)
theorem cntI_getD (xs : List Int) (x : Int) : (cntI xs x).getD 0 = (xs.count x : Nat) := by unfold cntI; split <;> simp_all
theorem cntI_snoc (xs : List Int) (x : Int) : cntI (xs ++ [x]) = upd (cntI xs) x ((cntI xs x).getD 0 + 1) := by
  funext y
  unfold upd
  rw [cntI_getD]
  unfold cntI
  rw [List.count_append, List.count_singleton]
  by_cases h : y = x
  · subst h; simp
  · have h' : ¬ x = y := fun e => h e.symm
    simp [h, h']
def dsz (xs : List Int) : Nat := (xs.foldl (fun (acc : List Int) x => if x ∈ acc then acc else acc ++ [x]) []).length
theorem dsz_mem (xs : List Int) (y : Int) : y ∈ xs.foldl (fun (acc : List Int) x => if x ∈ acc then acc else acc ++ [x]) [] ↔ y ∈ xs := by
  suffices h : ∀ (xs acc : List Int), y ∈ xs.foldl (fun (acc : List Int) x => if x ∈ acc then acc else acc ++ [x]) acc ↔ y ∈ acc ∨ y ∈ xs by simpa using h xs []
  intro xs
  induction xs with
  | nil => simp
  | cons x xs ih =>
    intro acc
    rw [List.foldl_cons, ih]
    by_cases hx : x ∈ acc
    · rw [if_pos hx, List.mem_cons]
      constructor
      · rintro (h | h)
        · exact .inl h
        · exact .inr (.inr h)
      · rintro (h | rfl | h)
        · exact .inl h
        · exact .inl hx
        · exact .inr h
    · rw [if_neg hx]; simp [or_assoc]
theorem dsz_snoc (xs : List Int) (x : Int) : dsz (xs ++ [x]) = if x ∈ xs then dsz xs else dsz xs + 1 := by
  unfold dsz
  rw [List.foldl_append, List.foldl_cons, List.foldl_nil]
  by_cases h : x ∈ xs
  · rw [if_pos ((dsz_mem xs x).2 h), if_pos h]
  · rw [if_neg (fun k => h ((dsz_mem xs x).1 k)), if_neg h]; simp
theorem dsz_grow (xs : List Int) (x : Int) : grow (cntI xs) x (dsz xs) = dsz (xs ++ [x]) := by
  have e : (cntI xs x).isSome = decide (x ∈ xs) := by
    unfold cntI
    by_cases h : x ∈ xs
    · have h1 : ¬ xs.count x = 0 := fun k => List.count_eq_zero.1 k h
      rw [if_neg h1, decide_eq_true h]; rfl
    · rw [if_pos (List.count_eq_zero.2 h), decide_eq_false h]; rfl
  rw [dsz_snoc]
  unfold grow
  rw [e]
  by_cases h : x ∈ xs <;> simp [h]
theorem dsz_le (xs : List Int) : dsz xs ≤ xs.length := by
  suffices h : ∀ (n : Nat) (xs : List Int), xs.length = n → dsz xs ≤ xs.length from h _ xs rfl
  intro n
  induction n with
  | zero => intro xs h; rw [List.eq_nil_of_length_eq_zero h]; exact Nat.le_refl _
  | succ n ih =>
    intro xs h
    have hne : xs ≠ [] := by intro e; rw [e] at h; simp at h
    rw [← List.dropLast_concat_getLast hne, dsz_snoc]
    have := ih xs.dropLast (by simp [h])
    split <;> simp <;> simp at this <;> omega
theorem dsz_nodup (xs : List Int) : dsz xs = xs.length ↔ xs.Nodup := by
  suffices h : ∀ (n : Nat) (xs : List Int), xs.length = n → (dsz xs = xs.length ↔ xs.Nodup) from h _ xs rfl
  intro n
  induction n with
  | zero => intro xs h; rw [List.eq_nil_of_length_eq_zero h]; simp [dsz]
  | succ n ih =>
    intro xs h
    have hne : xs ≠ [] := by intro e; rw [e] at h; simp at h
    rw [← List.dropLast_concat_getLast hne]
    generalize xs.getLast hne = x
    have hl : xs.dropLast.length = n := by simp [h]
    generalize xs.dropLast = ys at *
    have h1 := ih ys hl
    have h2 := dsz_le ys
    rw [dsz_snoc, List.nodup_append]
    by_cases hx : x ∈ ys
    · rw [if_pos hx]
      constructor
      · intro e; simp at e; omega
      · rintro ⟨_, _, h3⟩; exact absurd rfl (h3 x hx x (by simp))
    · rw [if_neg hx]
      constructor
      · intro e
        refine ⟨h1.1 (by simp at e; omega), by simp, fun a ha b hb => ?_⟩
        simp at hb; subst hb
        exact fun e => hx (e ▸ ha)
      · rintro ⟨h3, _, _⟩
        rw [h1.2 h3]; simp

def inP (na nb : Int) (p : PS) : Bool := decide (0 ≤ p.f0 ∧ p.f0 < na ∧ 0 ≤ p.f1 ∧ p.f1 < nb)
theorem pin_calls (x y na nb : Int) (w : World) : Calls Try.prog 34 #[.agg #[.int .i64 x, .int .i64 y], .int .i64 na, .int .i64 nb] w fun e w' => e = .returned (.bool (inP na nb ⟨x, y⟩)) ∧ Below w.heap.size w w' := by
  go_enter Try.func34, Try.ntmps34
  by_cases h1 : 0 ≤ x
  · by_cases h2 : x < na
    · by_cases h3 : 0 ≤ y
      · by_cases h4 : y < nb
        · go_wp2
          go_ret
          exact ⟨by simp [inP, h1, h2, h3, h4], ((Below.refl _ _).alloc (Nat.le_refl _) _)⟩
        · go_wp2
          go_ret
          exact ⟨by simp [inP, h1, h2, h3, h4], ((Below.refl _ _).alloc (Nat.le_refl _) _)⟩
      · go_wp2
        go_ret
        exact ⟨by simp [inP]; omega, ((Below.refl _ _).alloc (Nat.le_refl _) _)⟩
    · go_wp2
      go_ret
      exact ⟨by simp [inP]; omega, ((Below.refl _ _).alloc (Nat.le_refl _) _)⟩
  · go_wp2
    go_ret
    exact ⟨by simp [inP]; omega, ((Below.refl _ _).alloc (Nat.le_refl _) _)⟩
theorem pby_calls (x y x' y' : Int) (w : World) : Calls Try.prog 35 #[.agg #[.int .i64 x, .int .i64 y], .agg #[.int .i64 x', .int .i64 y']] w fun e w' => e = .returned (.int .i64 (wrap64 (y - y'))) ∧ Below w.heap.size w w' := by
  go_enter Try.func35, Try.ntmps35
  go_wp2
  go_ret
  exact ⟨by simp, by first | exact (((Below.refl _ _).alloc (Nat.le_refl _) _).alloc (by simp) _)⟩

/-- What Check computes. -/
def checkR (l : List PS) (na nb : Int) : Int :=
  if na < 0 ∨ nb < 0 then 1 else if l.all (inP na nb) = false then 11 else if ¬ ((l.map (·.f0)).Nodup ∧ (l.map (·.f1)).Nodup) then 10
  else if (List.range (l.length - 1)).all (fun t => decide ((rd_T37 l (t : Int)).f1 ≤ (rd_T37 l ((t + 1 : Nat) : Int)).f1)) = true then 0 else 12
def pairs_Check.f (l : List PS) (na nb : Int) : Option Int := if okP l = true then some (checkR l na nb) else none

/-- Where the first loop stands. -/
structure ChkAt (w : World) (l : List PS) (na nb : Int) (t : Nat) (wr : World) : Prop where
  ht : t ≤ l.length
  hin : (l.take t).all (inP na nb) = true
  ma : MapI wr w.heap.size (dsz ((l.map (·.f0)).take t)) (cntI ((l.map (·.f0)).take t))
  mb : MapI wr (w.heap.size + 1) (dsz ((l.map (·.f1)).take t)) (cntI ((l.map (·.f1)).take t))
  hb : Below w.heap.size w wr
theorem ChkAt.below {w : World} {l : List PS} {na nb : Int} {t : Nat} {wr wr' : World} (h : ChkAt w l na nb t wr) (hb : Below wr.heap.size wr wr') : ChkAt w l na nb t wr' :=
  ⟨h.ht, h.hin, h.ma.below hb, h.mb.below hb, h.hb.trans (hb.mono h.hb.size)⟩
theorem ChkAt.sa {w : World} {l : List PS} {na nb : Int} {t : Nat} {wr : World} (h : ChkAt w l na nb t wr) (hl : l.length ≤ 100000) : dsz ((l.map (·.f0)).take t) < maxLen := by
  have := dsz_le ((l.map (·.f0)).take t)
  rw [List.length_take, List.length_map] at this
  unfold maxLen; omega
theorem ChkAt.sb {w : World} {l : List PS} {na nb : Int} {t : Nat} {wr : World} (h : ChkAt w l na nb t wr) (hl : l.length ≤ 100000) : dsz ((l.map (·.f1)).take t) < maxLen := by
  have := dsz_le ((l.map (·.f1)).take t)
  rw [List.length_take, List.length_map] at this
  unfold maxLen; omega
theorem ChkAt.box {w : World} {l : List PS} {na nb : Int} {t : Nat} {wr w2 : World} (h : ChkAt w l na nb t wr) (p : PS)
    (hb2 : Below (wr.alloc (Obj.cells #[Value.int IntKind.i64 p.f0, Value.int IntKind.i64 p.f1] 37)).heap.size (wr.alloc (Obj.cells #[Value.int IntKind.i64 p.f0, Value.int IntKind.i64 p.f1] 37)) w2) :
    ChkAt w l na nb t w2 ∧ w2.cell? ⟨wr.heap.size, 0, none⟩ = some (.int .i64 p.f0) ∧ w2.cell? ⟨wr.heap.size, 1, none⟩ = some (.int .i64 p.f1) ∧ w2.heap[wr.heap.size]? = some (.cells #[.int .i64 p.f0, .int .i64 p.f1] 37 (0, 0)) := by
  have hbx : w2.heap[wr.heap.size]? = some (.cells #[.int .i64 p.f0, .int .i64 p.f1] 37 (0, 0)) := (hb2.block _ (by simp)).trans (by rw [ha, if_pos rfl])
  exact ⟨h.below (((Below.refl _ wr).alloc (Nat.le_refl _) _).trans (hb2.mono (by simp))), by simp [World.cell?, hbx], by simp [World.cell?, hbx], hbx⟩
theorem ChkAt.boxa {w : World} {l : List PS} {na nb : Int} {t B : Nat} {w2 w3 : World} (h : ChkAt w l na nb t w2) {p : PS} (hbx : w2.heap[B]? = some (.cells #[.int .i64 p.f0, .int .i64 p.f1] 37 (0, 0))) (hg : w2.grownBy w3 (some w.heap.size)) :
    w3.cell? ⟨B, 0, none⟩ = some (.int .i64 p.f0) ∧ w3.cell? ⟨B, 1, none⟩ = some (.int .i64 p.f1) ∧ MapI w3 (w.heap.size + 1) (dsz ((l.map (·.f1)).take t)) (cntI ((l.map (·.f1)).take t)) := by
  have hne : B ≠ w.heap.size := fun e => by subst e; exact h.ma.noCells hbx
  have hbx' : w3.heap[B]? = some (.cells #[.int .i64 p.f0, .int .i64 p.f1] 37 (0, 0)) := (hg.block _ (lt_of_block hbx) (by simpa using hne)).trans hbx
  exact ⟨by simp [World.cell?, hbx'], by simp [World.cell?, hbx'], h.mb.kept hg (by simp)⟩
theorem cntI_step {xs : List Int} {x : Int} (hl : xs.length ≤ 100000) : upd (cntI xs) x (wrap64 ((cntI xs x).getD 0 + 1)) = cntI (xs ++ [x]) := by
  rw [cntI_snoc, cntI_getD]
  have := List.count_le_length (a := x) (l := xs)
  rw [show wrap64 ((xs.count x : Nat) + 1 : Int) = (xs.count x : Nat) + 1 from by unfold wrap64; omega]
theorem ChkAt.next {w : World} {l : List PS} {na nb : Int} {t : Nat} {w2 w3 w4 : World} {p : PS} (h : ChkAt w l na nb t w2) (hl : l.length ≤ 100000) (hin : inP na nb p = true) (htk : l.take (t + 1) = l.take t ++ [p]) (hlt : t < l.length)
    (hm1 : MapI w3 w.heap.size (grow (cntI ((l.map (·.f0)).take t)) p.f0 (dsz ((l.map (·.f0)).take t))) (upd (cntI ((l.map (·.f0)).take t)) p.f0 (wrap64 ((cntI ((l.map (·.f0)).take t) p.f0).getD 0 + 1)))) (hg1 : w2.grownBy w3 (some w.heap.size))
    (hm2 : MapI w4 (w.heap.size + 1) (grow (cntI ((l.map (·.f1)).take t)) p.f1 (dsz ((l.map (·.f1)).take t))) (upd (cntI ((l.map (·.f1)).take t)) p.f1 (wrap64 ((cntI ((l.map (·.f1)).take t) p.f1).getD 0 + 1)))) (hg2 : w3.grownBy w4 (some (w.heap.size + 1))) :
    ChkAt w l na nb (t + 1) w4 := by
  have hl1 : ((l.map (·.f0)).take t).length ≤ 100000 := by rw [List.length_take, List.length_map]; omega
  have hl2 : ((l.map (·.f1)).take t).length ≤ 100000 := by rw [List.length_take, List.length_map]; omega
  rw [cntI_step hl1, dsz_grow] at hm1
  rw [cntI_step hl2, dsz_grow] at hm2
  have e0 : (l.map (·.f0)).take (t + 1) = (l.map (·.f0)).take t ++ [p.f0] := by rw [← List.map_take, ← List.map_take, htk]; simp
  have e1 : (l.map (·.f1)).take (t + 1) = (l.map (·.f1)).take t ++ [p.f1] := by rw [← List.map_take, ← List.map_take, htk]; simp
  have hb3 := h.hb.grown hg1 h.hb.size (fun j hj => by cases hj; exact Nat.le_refl _)
  refine ⟨hlt, by rw [htk, List.all_append, h.hin]; simpa using hin, ?_, ?_, hb3.grown hg2 hb3.size (fun j hj => by cases hj; omega)⟩
  · rw [e0]; exact hm1.kept hg2 (by simp)
  · rw [e1]; exact hm2
theorem ChkAt.done {w : World} {l : List PS} {na nb : Int} {wr : World} (h : ChkAt w l na nb l.length wr) : l.all (inP na nb) = true ∧ MapI wr w.heap.size (dsz (l.map (·.f0))) (cntI (l.map (·.f0))) ∧ MapI wr (w.heap.size + 1) (dsz (l.map (·.f1))) (cntI (l.map (·.f1))) := by
  have h1 := h.hin
  have h2 := h.ma
  have h3 := h.mb
  rw [List.take_length] at h1
  rw [show (l.map (·.f0)).take l.length = l.map (·.f0) from List.take_of_length_le (by simp)] at h2
  rw [show (l.map (·.f1)).take l.length = l.map (·.f1) from List.take_of_length_le (by simp)] at h3
  exact ⟨h1, h2, h3⟩
theorem bounds_i64 {n : Int} (h : (Lit.int .i64 n).wf = true) : -9223372036854775808 ≤ n ∧ n ≤ 9223372036854775807 := by
  simp [Lit.wf, IntKind.min, IntKind.max, IntKind.signed, IntKind.bits] at h
  omega
theorem sub_sign {l : List PS} {na nb : Int} (h : l.all (inP na nb) = true) (hw : ∀ p ∈ l, (Lit.int .i64 p.f0).wf = true ∧ (Lit.int .i64 p.f1).wf = true) {t u : Nat} (ht : t < l.length) (hu : u < l.length) :
    ((rd_T37 l (t : Int)).f1 < (rd_T37 l (u : Int)).f1 → wrap64 ((rd_T37 l (t : Int)).f1 - (rd_T37 l (u : Int)).f1) < 0) ∧
    ((rd_T37 l (u : Int)).f1 ≤ (rd_T37 l (t : Int)).f1 → 0 ≤ wrap64 ((rd_T37 l (t : Int)).f1 - (rd_T37 l (u : Int)).f1)) := by
  have h1 := List.all_eq_true.1 h _ (rdP_mem ht)
  have h2 := List.all_eq_true.1 h _ (rdP_mem hu)
  have w1 := (hw _ (rdP_mem ht)).2
  have w2 := (hw _ (rdP_mem hu)).2
  generalize rd_T37 l (t : Int) = p at *
  generalize rd_T37 l (u : Int) = q at *
  unfold inP at h1 h2
  rw [decide_eq_true_eq] at h1 h2
  have b1 := bounds_i64 w1
  have b2 := bounds_i64 w2
  unfold wrap64
  constructor <;> intro hx <;> omega

set_option maxRecDepth 100000 in
set_option maxHeartbeats 1600000 in
theorem pairs_Check.calls (A0 : Option Addr) (c0 : Nat) (l0 : List PS) (a1 : Int) (a2 : Int) (r : Int) (w : World) (hr0 : Kd.C k37 w A0 l0.length l0) (hc0 : l0.length ≤ c0) (h : pairs_Check.f l0 a1 a2 = some r) :
    Calls Try.prog 16 #[.slice A0 l0.length c0, .int .i64 a1, .int .i64 a2] w fun e w' => e = .returned (.int .i64 r) ∧ Below w.heap.size w w' := by
  unfold pairs_Check.f at h
  split at h
  · rename_i hok
    have H := Aside0.mk (Option.some.inj h)
    have HR := Aside0.mk hr0
    have HL := Aside0.mk hok
    have hlen := okP_len hok
    have hmm := @run_makeMap Try.prog
    clear h hr0 hok hc0
    go_enter Try.func16, Try.ntmps16
    by_cases hna : a1 < 0
    · by_cases hnb : a2 < 0
      all_goals
        go_wp2
        go_ret
        exact ⟨by rw [← H.out, checkR, if_pos (.inl hna)]; rfl, Below.refl _ _⟩
    by_cases hnb : a2 < 0
    · go_wp2
      go_ret
      exact ⟨by rw [← H.out, checkR, if_pos (.inr hnb)]; rfl, Below.refl _ _⟩
    go_wp2
    go_loopw [23] (fun vi wr => ∃ t : Nat, vi = .int .i64 t ∧ ChkAt w l0 a1 a2 t wr)
      (fun vi _ => l0.length - (intOf vi).toNat)
    case atStart =>
      refine ⟨0, rfl, Nat.zero_le _, by simp, ?_, ?_, ((Below.refl _ _).alloc (Nat.le_refl _) _).alloc (by simp) _⟩
      · have h := (MapO.made Try.prog 3 3 encI w).alloc (.map #[] 0)
        have e : cntI ((l0.map (·.f0)).take 0) = fun _ => none := by funext k; simp [cntI]
        rw [e]; exact h
      · have h := MapO.made Try.prog 3 3 encI (w.alloc (.map #[] 0))
        have e : cntI ((l0.map (·.f1)).take 0) = fun _ => none := by funext k; simp [cntI]
        rw [e]; rw [World.size_alloc] at h; exact h
    case round =>
      obtain ⟨t, rfl, hch⟩ := hrel
      by_cases hlt : t < l0.length
      · have HR2 := Aside0.mk (Kd.C_below HR.out hch.hb)
        have hwf := okP_mem HL.out _ (rdP_mem hlt)
        have htk := Aside0.mk (take_rdP hlt)
        obtain ⟨ad, eA, hx0, hx1⟩ := pairAt HR2.out hlt
        cases eA
        generalize hp : rd_T37 l0 (t : Int) = p at *
        have HP := Aside0.mk hp
        clear hp
        have HC := Aside0.mk hch
        clear hch
        by_cases hin : inP a1 a2 p = true
        · go_wp2_with (first
            | (go_at_call 34; refine (pin_calls _ _ _ _ _).mono ?_; rintro e w2 ⟨rfl, hb2⟩; obtain ⟨HC2, hk0, hk1, hbx⟩ := HC.out.box p hb2; rw [show (⟨p.f0, p.f1⟩ : PS) = p from rfl, hin])
            | (at_lookup; refine lookup_arm lawI Try.underlying45 Try.underlying3 zeroI rfl _ _ rfl _ _ _ rfl HC2.ma _ _ rfl (keyI hwf.1) ?_; intro hwc)
            | (at_mapUpdate; refine store_arm lawI Try.underlying45 Try.underlying3 rfl _ _ _ rfl _ _ _ rfl HC2.ma (HC2.sa hlen) _ _ rfl (keyI hwf.1) _ rfl (wrap64_wf _) ?_; intro w3 hm1 hg1; obtain ⟨hk0', hk1', hmb⟩ := HC2.boxa hbx hg1)
            | (at_lookup; refine lookup_arm lawI Try.underlying45 Try.underlying3 zeroI rfl _ _ rfl _ _ _ rfl hmb _ _ rfl (keyI hwf.2) ?_; intro hwc2)
            | (at_mapUpdate; refine store_arm lawI Try.underlying45 Try.underlying3 rfl _ _ _ rfl _ _ _ rfl hmb (HC2.sb hlen) _ _ rfl (keyI hwf.2) _ rfl (wrap64_wf _) ?_; intro w4 hm2 hg2))
          have hn := HC2.next hlen hin htk.out hlt hm1 hg1 hm2 hg2
          go_roundw
          case rel => exact ⟨t + 1, by go_num, hn⟩
          case measure => simp [intOf]; omega
        · have hin' : inP a1 a2 p = false := by simpa using hin
          go_wp2_with (first
            | (go_at_call 34; refine (pin_calls _ _ _ _ _).mono ?_; rintro e w2 ⟨rfl, hb2⟩; obtain ⟨HC2, hk0, hk1, hbx⟩ := HC.out.box p hb2; rw [show (⟨p.f0, p.f1⟩ : PS) = p from rfl, hin']))
          go_ret
          refine ⟨?_, HC2.hb⟩
          rw [← H.out, checkR, if_neg (by omega), if_pos ?_]
          · rfl
          · rw [List.all_eq_false]
            exact ⟨p, by rw [← HP.out]; exact rdP_mem hlt, by rw [hin']; decide⟩
      · obtain rfl : t = l0.length := by have := hch.ht; omega
        have HC := Aside0.mk hch
        have hD := HC.out.done
        clear hch
        by_cases hd0 : (l0.map (·.f0)).Nodup
        · by_cases hd1 : (l0.map (·.f1)).Nodup
          · have hla := hD.2.1.len Try.underlying45 3
            have hlb := hD.2.2.len Try.underlying45 3
            rw [(dsz_nodup _).2 hd0, List.length_map] at hla
            rw [(dsz_nodup _).2 hd1, List.length_map] at hlb
            go_wp2
            have hall := Aside0.mk hD.1
            have hb1 := HC.out.hb
            clear hla hlb hD
            go_loopw [57] (fun vi wr => ∃ t : Nat, vi = .int .i64 t ∧ t ≤ l0.length ∧ Aside0 (∀ u : Nat, u + 1 < t → (rd_T37 l0 (u : Int)).f1 ≤ (rd_T37 l0 ((u + 1 : Nat) : Int)).f1) ∧ Below w.heap.size w wr)
              (fun vi _ => l0.length - (intOf vi).toNat)
            case atStart => exact ⟨0, rfl, Nat.zero_le _, ⟨fun u hu => by omega⟩, hb1⟩
            case round =>
              clear hlt HC hb1
              obtain ⟨t, rfl, ht, HS, hb⟩ := hrel
              by_cases hlt : t < l0.length
              · have HR2 := Aside0.mk (Kd.C_below HR.out hb)
                obtain ⟨ad, eA, hx0, hx1⟩ := pairAt HR2.out hlt
                cases eA
                by_cases h0 : t = 0
                · subst h0
                  have ez : ad.add (0 * 2) = ad := rfl
                  rw [ez] at hx0 hx1
                  go_wp2
                  go_quiet (fail)
                  go_wp2
                  go_roundw
                  case rel => exact ⟨1, by go_num, by omega, ⟨fun u hu => by omega⟩, by first | exact hb | exact hb.alloc hb.size _ | exact (pw_below_drewN (hb.alloc hb.size _) _)⟩
                  case measure => simp [intOf]; omega
                · obtain ⟨u, hu⟩ : ∃ u, t = u + 1 := ⟨t - 1, by omega⟩
                  obtain ⟨ad', eA', hy0, hy1⟩ := pairAt HR2.out (t := u) (by omega)
                  cases eA'
                  have wu : IntKind.i64.wrap ((t : Int) - 1) = (u : Int) := by rw [IntWalk.i64_in _ (by omega)]; omega
                  have gt : (0 : Int) < (t : Int) := by omega
                  have gtn : 0 < t := by omega
                  have lu : (u : Int) < (l0.length : Int) := by omega
                  have HU := Aside0.mk hu
                  clear hu
                  generalize hp : rd_T37 l0 (t : Int) = p at *
                  generalize hq : rd_T37 l0 (u : Int) = q at *
                  have HP := Aside0.mk hp
                  have HQ := Aside0.mk hq
                  clear hp hq
                  go_wp2
                  have hB1 : Below w.heap.size w (wr.alloc (.cells #[.int .i64 p.f0, .int .i64 p.f1] 37)) := hb.alloc hb.size _
                  have HS1 : Aside0 (∀ W, Below (wr.alloc (.cells #[.int .i64 p.f0, .int .i64 p.f1] 37)).heap.size (wr.alloc (.cells #[.int .i64 p.f0, .int .i64 p.f1] 37)) W →
                      W.cell? ⟨wr.heap.size, 0, none⟩ = some (.int .i64 p.f0) ∧ W.cell? ⟨wr.heap.size, 1, none⟩ = some (.int .i64 p.f1) ∧ W.cell? (ad.add (u * 2)) = some (.int .i64 q.f0) ∧ W.cell? ⟨(ad.add (u * 2)).block, (ad.add (u * 2)).off + 1, none⟩ = some (.int .i64 q.f1)) := ⟨fun W hW => by
    have hbx : W.heap[wr.heap.size]? = some (.cells #[.int .i64 p.f0, .int .i64 p.f1] 37 (0, 0)) := (hW.block _ (by simp)).trans (by rw [ha, if_pos rfl])
    have hbw : Below wr.heap.size wr W := ((Below.refl _ wr).alloc (Nat.le_refl _) _).trans (hW.mono (by simp))
    exact ⟨by simp [World.cell?, hbx], by simp [World.cell?, hbx], pw_cell_below hbw hy0, pw_cell_below hbw hy1⟩⟩
                  clear hx0 hx1 hy0 hy1
                  generalize hW1 : wr.alloc (.cells #[.int .i64 p.f0, .int .i64 p.f1] 37) = W1 at *
                  clear hW1
                  have hsub := sub_sign hall.out (okP_mem HL.out) (show t < l0.length from hlt) (show u < l0.length by omega)
                  rw [HP.out, HQ.out] at hsub
                  by_cases hc : p.f1 < q.f1
                  · have hcv := hsub.1 hc
                    go_region_held3 (fun W => W.cell? ⟨wr.heap.size, 0, none⟩ = some (.int .i64 p.f0) ∧ W.cell? ⟨wr.heap.size, 1, none⟩ = some (.int .i64 p.f1) ∧ W.cell? (ad.add (u * 2)) = some (.int .i64 q.f0) ∧ W.cell? ⟨(ad.add (u * 2)).block, (ad.add (u * 2)).off + 1, none⟩ = some (.int .i64 q.f1))
                      (first | exact HS1.out _ (below_drew (Below.refl _ _)) | exact HS1.out _ (pw_below_drewN (Below.refl _ _) _) | exact HS1.out _ HFa)
                      (first | (go_at_call 35; (with_reducible refine (pby_calls _ _ _ _ _).mono ?_); rintro e w2 ⟨rfl, hbc⟩; (have HFa : Below W1.heap.size W1 w2 := by first | exact (below_drew (Below.refl _ _)).trans (hbc.mono (Nat.le_refl _)) | exact (pw_below_drewN (Below.refl _ _) _).trans (hbc.mono (Nat.le_refl _)))))
                    go_step
                    go_wp2
                    go_ret
                    refine ⟨?_, hB1.trans (HFa.mono hB1.size)⟩
                    rw [← H.out, checkR, if_neg (by omega), hall.out, if_neg (by decide), if_neg (by simp [hd0, hd1]), if_neg ?_]
                    · rfl
                    · rw [List.all_eq_true]
                      intro hx
                      have := hx u (by rw [List.mem_range]; have := HU.out; omega)
                      rw [decide_eq_true_eq, ← HU.out, HP.out, HQ.out] at this
                      omega
                  · have hcv := hsub.2 (by omega)
                    go_region_held3 (fun W => W.cell? ⟨wr.heap.size, 0, none⟩ = some (.int .i64 p.f0) ∧ W.cell? ⟨wr.heap.size, 1, none⟩ = some (.int .i64 p.f1) ∧ W.cell? (ad.add (u * 2)) = some (.int .i64 q.f0) ∧ W.cell? ⟨(ad.add (u * 2)).block, (ad.add (u * 2)).off + 1, none⟩ = some (.int .i64 q.f1))
                      (first | exact HS1.out _ (below_drew (Below.refl _ _)) | exact HS1.out _ (pw_below_drewN (Below.refl _ _) _) | exact HS1.out _ HFa)
                      (first | (go_at_call 35; (with_reducible refine (pby_calls _ _ _ _ _).mono ?_); rintro e w2 ⟨rfl, hbc⟩; (have HFa : Below W1.heap.size W1 w2 := by first | exact (below_drew (Below.refl _ _)).trans (hbc.mono (Nat.le_refl _)) | exact (pw_below_drewN (Below.refl _ _) _).trans (hbc.mono (Nat.le_refl _)))))
                    go_step
                    go_wp2
                    go_roundw
                    case rel =>
                      refine ⟨t + 1, by go_num, by omega, ⟨fun v hv => ?_⟩, hB1.trans (HFa.mono hB1.size)⟩
                      rcases Nat.lt_or_ge (v + 1) t with h' | h'
                      · exact HS.out v h'
                      · have : v = u := by have := HU.out; omega
                        subst this
                        rw [← HU.out, HP.out, HQ.out]; omega
                    case measure => simp [intOf]; omega
              · obtain rfl : t = l0.length := by omega
                go_wp2
                go_ret
                refine ⟨?_, hb⟩
                rw [← H.out, checkR, if_neg (by omega), hall.out, if_neg (by decide), if_neg (by simp [hd0, hd1]), if_pos ?_]
                · rfl
                · rw [List.all_eq_true]
                  intro u hu
                  rw [List.mem_range] at hu
                  exact decide_eq_true (HS.out u (by omega))
          · have hla := hD.2.1.len Try.underlying45 3
            have hlb := hD.2.2.len Try.underlying45 3
            rw [(dsz_nodup _).2 hd0, List.length_map] at hla
            have hlt2 : dsz (l0.map (·.f1)) < l0.length := by
              have h1 := dsz_le (l0.map (·.f1))
              have h2 := mt (dsz_nodup (l0.map (·.f1))).1 hd1
              rw [List.length_map] at h1 h2
              omega
            have hall := hD.1
            go_wp2
            go_ret
            refine ⟨?_, HC.out.hb⟩
            rw [← H.out, checkR, if_neg (by omega), hall, if_neg (by decide), if_pos (by simp [hd1])]
            rfl
        · have hla := hD.2.1.len Try.underlying45 3
          have hlt2 : dsz (l0.map (·.f0)) < l0.length := by
            have h1 := dsz_le (l0.map (·.f0))
            have h2 := mt (dsz_nodup (l0.map (·.f0))).1 hd0
            rw [List.length_map] at h1 h2
            omega
          have hlb := hD.2.2.len Try.underlying45 3
          have hall := hD.1
          by_cases hlt3 : dsz (l0.map (·.f1)) < l0.length
          all_goals
            go_wp2
            go_ret
            refine ⟨?_, HC.out.hb⟩
            rw [← H.out, checkR, if_neg (by omega), hall, if_neg (by decide), if_pos (by simp [hd0])]
            rfl
  · exact nomatch h
end Go.Proofs.Ytphmnjapjalfgaa.X
