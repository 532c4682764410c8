/- index.Find. -/
import Derived.Test.YtchpgkojlhipgaaGBuild
namespace Go.Proofs.Ytchpgkojlhipgaa.X
open Go.RowKit Go.Maps Go.Sort Go.Proofs.YtchpgkojlhipgaaW.PrintWords Go.Proofs.YtchpgkojlhipgaaW.PrintLast Go.Proofs.YtchpgkojlhipgaaW.PrintMore
set_option linter.unusedVariables false

/-- Where a row of falses begins, if it is halved. -/
def bis (p : Nat → Bool) : Nat → Nat → Nat → Nat
  | 0, lo, _ => lo
  | d + 1, lo, hi => if lo < hi then (if p (lo + (hi - lo) / 2) = true then bis p d (lo + (hi - lo) / 2 + 1) hi else bis p d lo (lo + (hi - lo) / 2)) else lo
theorem bis_end (p : Nat → Bool) (d lo hi : Nat) (h : ¬ lo < hi) : bis p d lo hi = lo := by cases d <;> simp [bis, h]
theorem bis_enough (p : Nat → Bool) : ∀ (d lo hi : Nat), hi - lo ≤ d → bis p (d + 1) lo hi = bis p d lo hi
  | 0, lo, hi, h => by rw [bis_end _ _ _ _ (by omega), bis_end _ _ _ _ (by omega)]
  | d + 1, lo, hi, h => by
    by_cases hlt : lo < hi
    · show (if lo < hi then (if p (lo + (hi - lo) / 2) = true then bis p (d + 1) (lo + (hi - lo) / 2 + 1) hi else bis p (d + 1) lo (lo + (hi - lo) / 2)) else lo) = (if lo < hi then (if p (lo + (hi - lo) / 2) = true then bis p d (lo + (hi - lo) / 2 + 1) hi else bis p d lo (lo + (hi - lo) / 2)) else lo)
      rw [if_pos hlt, if_pos hlt, bis_enough p d _ _ (by omega), bis_enough p d _ _ (by omega)]
    · rw [bis_end _ _ _ _ hlt, bis_end _ _ _ _ hlt]
theorem bis_fuel (p : Nat → Bool) (lo hi : Nat) : ∀ d, hi - lo ≤ d → bis p d lo hi = bis p (hi - lo) lo hi := by
  intro d h
  obtain ⟨e, rfl⟩ : ∃ e, d = (hi - lo) + e := ⟨d - (hi - lo), by omega⟩
  clear h
  induction e with
  | zero => rfl
  | succ e ih => rw [← Nat.add_assoc, bis_enough p _ _ _ (by omega), ih]
def bisL (p : Nat → Bool) (lo hi : Nat) : Nat := bis p (hi - lo) lo hi
theorem bisL_lo {p : Nat → Bool} {lo hi : Nat} (h : lo < hi) (hp : p (lo + (hi - lo) / 2) = true) : bisL p lo hi = bisL p (lo + (hi - lo) / 2 + 1) hi := by
  unfold bisL
  obtain ⟨d, hd⟩ : ∃ d, hi - lo = d + 1 := ⟨hi - lo - 1, by omega⟩
  rw [← bis_fuel p (lo + (hi - lo) / 2 + 1) hi d (by omega)]
  generalize hm : lo + (hi - lo) / 2 = m at *
  rw [hd]
  show (if lo < hi then (if p (lo + (hi - lo) / 2) = true then bis p d (lo + (hi - lo) / 2 + 1) hi else bis p d lo (lo + (hi - lo) / 2)) else lo) = _
  rw [hm, if_pos h, if_pos hp]
theorem bisL_hi {p : Nat → Bool} {lo hi : Nat} (h : lo < hi) (hp : ¬ p (lo + (hi - lo) / 2) = true) : bisL p lo hi = bisL p lo (lo + (hi - lo) / 2) := by
  unfold bisL
  obtain ⟨d, hd⟩ : ∃ d, hi - lo = d + 1 := ⟨hi - lo - 1, by omega⟩
  rw [← bis_fuel p lo (lo + (hi - lo) / 2) d (by omega)]
  generalize hm : lo + (hi - lo) / 2 = m at *
  rw [hd]
  show (if lo < hi then (if p (lo + (hi - lo) / 2) = true then bis p d (lo + (hi - lo) / 2 + 1) hi else bis p d lo (lo + (hi - lo) / 2)) else lo) = _
  rw [hm, if_pos h, if_neg hp]
theorem bisL_end {p : Nat → Bool} {lo hi : Nat} (h : ¬ lo < hi) : bisL p lo hi = lo := by unfold bisL; exact bis_end _ _ _ _ h
/-- Where the key is looked for. -/
def lowP (rows : List (List ByteArray)) (cols order : List Int) (key : List ByteArray) (m : Nat) : Bool := decide (cmpS (keyR rows (rd order (m : Int)) cols) key < 0)
def lowR (rows : List (List ByteArray)) (cols order : List Int) (key : List ByteArray) : Nat := bisL (lowP rows cols order key) 0 order.length
def findR (rows : List (List ByteArray)) (cols order : List Int) (key : List ByteArray) : Int × Bool :=
  if lowR rows cols order key < order.length ∧ cmpS (keyR rows (rd order (lowR rows cols order key : Int)) cols) key = 0 then (rd order (lowR rows cols order key : Int), true) else (0, false)
def index_Find.f (l0_0 : List ByteArray) (l0_1 : List (List ByteArray)) (l1 l2 : List Int) (l3 : List ByteArray) : Option (Int × Bool) := if l1.length ≤ 1000000 ∧ l2.length ≤ 1000000 ∧ l3.length ≤ 1000000 then some (findR l0_1 l1 l2 l3) else none
structure FAt (w : World) (P : Nat → Bool) (n L : Nat) (T : Value × Value × Value) (lo hi : Nat) (wr : World) : Prop where
  le : lo ≤ hi
  hn : hi ≤ n
  L : bisL P lo hi = L
  b : Below w.heap.size w wr
  T : wr.heap[w.heap.size]? = some (.cells #[T.1, T.2.1] 41 (0, 0))

theorem ordAt {w : World} {A : Option Addr} {l : List Int} (h : Kd.C (Kd.int .i64) w A l.length l) {t : Nat} (ht : t < l.length) : ∃ ad, A = some ad ∧ w.cell? (ad.add t) = some (.int .i64 (rd l (t : Int))) := by
  obtain ⟨ad, e, hx⟩ := Kd.at_int h (t : Int) (by omega) (by omega)
  exact ⟨ad, e, hx⟩
set_option maxRecDepth 100000 in
set_option maxHeartbeats 8000000 in
theorem index_Find.calls (A0_0 : Option Addr) (c0_0 : Nat) (l0_0 : List ByteArray) (A0_1 : Option Addr) (c0_1 : Nat) (l0_1 : List (List ByteArray)) (A1 : Option Addr) (c1 : Nat) (l1 : List Int) (A2 : Option Addr) (c2 : Nat) (l2 : List Int) (A3 : Option Addr) (c3 : Nat) (l3 : List ByteArray) (r1 : Int) (r2 : Bool) (w : World)
    (hr0_0 : Kd.C Kd.string w A0_0 l0_0.length l0_0) (hc0_0 : l0_0.length ≤ c0_0) (hr0_1 : Kd.C (Kd.slice 9 Kd.string) w A0_1 l0_1.length l0_1) (hc0_1 : l0_1.length ≤ c0_1) (hr1 : Kd.C (Kd.int .i64) w A1 l1.length l1) (hc1 : l1.length ≤ c1) (hr2 : Kd.C (Kd.int .i64) w A2 l2.length l2) (hc2 : l2.length ≤ c2) (hr3 : Kd.C Kd.string w A3 l3.length l3) (hc3 : l3.length ≤ c3) (h : index_Find.f l0_0 l0_1 l1 l2 l3 = some (r1, r2)) :
    Calls Try.prog 28 #[.agg #[.slice A0_0 l0_0.length c0_0, .slice A0_1 l0_1.length c0_1], .slice A1 l1.length c1, .slice A2 l2.length c2, .slice A3 l3.length c3] w fun e w' => e = .returned (.tuple #[.int .i64 r1, .bool r2]) ∧ Below w.heap.size w w' := by
  unfold index_Find.f at h
  split at h
  · rename_i hok
    have H := Aside0.mk (Option.some.inj h)
    have HR := Aside0.mk (And.intro hr0_0 (And.intro hr0_1 (And.intro hr1 (And.intro hr2 hr3))))
    have HL := Aside0.mk hok
    have hl2 := hok.2.1
    clear h hr0_0 hr0_1 hr1 hr2 hr3 hok
    go_enter Try.func28, Try.ntmps28
    go_wp2
    go_step3
    go_wp2
    go_step3
    go_wp2
    go_loopw [10, 11] (fun vl vh wr => ∃ lo hi : Nat, vl = .int .i64 lo ∧ vh = .int .i64 hi ∧ FAt w (lowP l0_1 l1 l2 l3) l2.length (lowR l0_1 l1 l2 l3) (.slice A0_0 l0_0.length c0_0, .slice A0_1 l0_1.length c0_1, undef) lo hi wr)
      (fun vl vh _ => (intOf vh).toNat - (intOf vl).toNat)
    case atStart => exact ⟨0, l2.length, rfl, rfl, Nat.zero_le _, Nat.le_refl _, rfl, below_alloc (Below.refl _ _) _, blk_new w _⟩
    case round =>
      obtain ⟨lo, hi, rfl, rfl, hch⟩ := hrel
      have HC := Aside0.mk hch
      have hle := hch.le
      have hhi := hch.hn
      clear hch
      by_cases hlt : lo < hi
      · have hlt' : (lo : Int) < (hi : Int) := by omega
        obtain ⟨mid, hmid⟩ : ∃ mid, mid = lo + (hi - lo) / 2 := ⟨_, rfl⟩
        have hm : mid < l2.length := by omega
        have hmI : (mid : Int) < (l2.length : Int) := by omega
        have hb0 : wr.cell? ⟨w.heap.size, 0, none⟩ = some (.slice A0_0 l0_0.length c0_0) := blk_cell HC.out.T 0
        have hb1 : wr.cell? ⟨w.heap.size, 1, none⟩ = some (.slice A0_1 l0_1.length c0_1) := blk_cell HC.out.T 1
        have hf0 := blk_frozen HC.out.T 0
        have hf1 := blk_frozen HC.out.T 1
        obtain ⟨ad, eA, hx⟩ := ordAt (Kd.C_below HR.out.2.2.2.1 HC.out.b) hm
        cases eA
        have HMI := Aside0.mk hmid
        clear hmid
        go_wp2
        have hmid := HMI.out
        have hmi : (lo : Int) + ((hi : Int) - (lo : Int)) / 2 = (mid : Int) := by omega
        rw [hmi]
        clear hmi hmid
        refine start_ (n := 10) (S := fun w' => w'.cell? ⟨w.heap.size, 0, none⟩ = some (.slice A0_0 l0_0.length c0_0) ∧ w'.cell? ⟨w.heap.size, 1, none⟩ = some (.slice A0_1 l0_1.length c0_1) ∧ w'.cell? (ad.add mid) = some (.int .i64 (rd l2 (mid : Int)))) (ds := []) #[false, false, false, false, false, false, false, false, false, false] (by kernel_rfl) rfl rfl ⟨hb0, hb1, hx⟩ (fun hHeld => ?_)
        have HB : Aside0 (Below w.heap.size w wr.drew) := ⟨below_drew1 HC.out.b⟩
        have HTb : Aside0 (wr.drew.heap[w.heap.size]? = some (.cells #[.slice A0_0 l0_0.length c0_0, .slice A0_1 l0_1.length c0_1] 41 (0, 0))) := ⟨HC.out.T⟩
        generalize wr.drew = W3 at hHeld HB HTb ⊢
        clear hx hb0 hb1 hf0 hf1
        refine pure_ (i := 1) (N := some 25) (v := ?_) (a' := ?_) #[false, true, false, false, false, false, false, false, false, false] rfl rfl (by kernel_rfl) (fun _ _ _ h => h) (Or.inl ⟨by rfl, ?_⟩) ?_ ?_
        rotate_left
        · intro w'
          go_simp
          with_reducible rfl
        rotate_left
        · simp only [Act.put, List.setIfInBounds_toArray, List.set_cons_zero, List.set_cons_succ]
          rfl
        refine pure_ (i := 2) (N := some 26) (v := ?_) (a' := ?_) #[false, true, true, false, false, false, false, false, false, false] rfl rfl (by kernel_rfl) (fun _ _ _ h => h) (Or.inl ⟨by rfl, ?_⟩) ?_ ?_
        rotate_left
        · intro w'
          go_simp
          with_reducible rfl
        rotate_left
        · simp only [Act.put, List.setIfInBounds_toArray, List.set_cons_zero, List.set_cons_succ]
          rfl
        refine pure_ (i := 3) (N := some 27) (v := ?_) (a' := ?_) #[false, true, true, true, false, false, false, false, false, false] rfl rfl (by kernel_rfl) (fun _ _ _ h => h) (Or.inl ⟨by rfl, ?_⟩) ?_ ?_
        rotate_left
        · intro w'
          go_simp
          with_reducible rfl
        rotate_left
        · simp only [Act.put, List.setIfInBounds_toArray, List.set_cons_zero, List.set_cons_succ]
          rfl
        refine pure_ (i := 5) (N := some 29) (v := ?_) (a' := ?_) #[false, true, true, true, false, true, false, false, false, false] rfl rfl (by kernel_rfl) (fun _ _ _ h => h) (Or.inl ⟨by rfl, ?_⟩) ?_ ?_
        rotate_left
        · intro w'
          go_simp
          with_reducible rfl
        rotate_left
        · simp only [Act.put, List.setIfInBounds_toArray, List.set_cons_zero, List.set_cons_succ]
          rfl
        refine pure_ (i := 7) (N := some 31) (v := ?_) (a' := ?_) #[false, true, true, true, false, true, false, true, false, false] rfl rfl (by kernel_rfl) (fun _ _ _ h => h) (Or.inl ⟨by rfl, ?_⟩) ?_ ?_
        rotate_left
        · intro w'
          go_simp
          with_reducible rfl
        rotate_left
        · simp only [Act.put, List.setIfInBounds_toArray, List.set_cons_zero, List.set_cons_succ]
          rfl
        refine take_ (i := 0) (N := some 24) (v := ?_) (a' := ?_) #[true, true, true, true, false, true, false, true, false, false] rfl rfl (by kernel_rfl) (fun _ _ _ h => h) (Or.inl ⟨by rfl, ?_⟩) hHeld ?_ ?_
        rotate_left
        · rintro w' ⟨s0, s1, s2⟩
          go_simp
          with_reducible rfl
        rotate_left
        · simp only [Act.put, List.setIfInBounds_toArray, List.set_cons_zero, List.set_cons_succ]
          rfl
        refine take_ (i := 4) (N := some 28) (v := ?_) (a' := ?_) #[true, true, true, true, true, true, false, true, false, false] rfl rfl (by kernel_rfl) (fun _ _ _ h => h) (Or.inl ⟨by rfl, ?_⟩) hHeld ?_ ?_
        rotate_left
        · rintro w' ⟨s0, s1, s2⟩
          go_simp
          with_reducible rfl
        rotate_left
        · simp only [Act.put, List.setIfInBounds_toArray, List.set_cons_zero, List.set_cons_succ]
          rfl
        refine one_ (i := 6) (N := some 30) #[true, true, true, true, true, true, true, true, false, false] rfl rfl (by kernel_rfl) (by decide) (fun K hK => ?_)
        refine goes_ Try.func26 (by kernel_rfl) rfl #[.agg #[.slice A0_0 l0_0.length c0_0, .slice A0_1 l0_1.length c0_1], .int .i64 (rd l2 (mid : Int)), .slice A1 l1.length c1] (by rfl) rfl rfl (by (try simp only [List.map_toArray, List.map_cons, List.map_nil]); first | done | rfl) ?_
        with_reducible refine (key_calls A0_0 c0_0 l0_0 A0_1 c0_1 l0_1 (rd l2 (mid : Int)) A1 c1 l1 _ ?side1 ?side2 ?side3 ?side4 ?side5 ?side6 ?side7).mono ?_
        (case side1 => exact Kd.C_below HR.out.1 HB.out)
        (case side2 => exact hc0_0)
        (case side3 => exact Kd.C_below HR.out.2.1 HB.out)
        (case side4 => exact hc0_1)
        (case side5 => exact Kd.C_below HR.out.2.2.1 HB.out)
        (case side6 => exact hc1)
        (case side7 => exact HL.out.1)
        rintro e w4 ⟨v4, rfl, ho4, hb⟩
        refine ⟨_, rfl, ?_⟩
        obtain ⟨Ak4, ck4, rfl, hck4, hCk4⟩ := Kd.R_reads ho4
        have HB2 := Aside0.mk (below_step HB.out hb)
        clear HB
        have HB := HB2
        clear HB2 ho4
        have HT2 := Aside0.mk ((hb.block _ (blk_lt HTb.out)).trans HTb.out)
        clear HTb
        have HTb := HT2
        clear HT2
        refine hK.out _ _ ⟨(hb.cell (World.block_lt_of_cell? _ _ hHeld.1)).trans hHeld.1, (hb.cell (World.block_lt_of_cell? _ _ hHeld.2.1)).trans hHeld.2.1, (hb.cell (World.block_lt_of_cell? _ _ hHeld.2.2)).trans hHeld.2.2⟩ (fun hHeld => ?_)
        clear hK K
        refine norm_ (a' := ?_) ?_ ?_
        rotate_left
        · show Act.put _ (some 30) _ = _
          simp only [Act.put, List.setIfInBounds_toArray, List.set_cons_zero, List.set_cons_succ]
          rfl
        refine one_ (i := 8) (N := some 32) #[true, true, true, true, true, true, true, true, true, false] rfl rfl (by kernel_rfl) (by decide) (fun K hK => ?_)
        refine goes_ Try.func44 (by kernel_rfl) rfl #[.slice Ak4 (keyR l0_1 (rd l2 (mid : Int)) l1).length ck4, .slice A3 l3.length c3] (by rfl) rfl rfl (by (try simp only [List.map_toArray, List.map_cons, List.map_nil]); first | done | rfl) ?_
        with_reducible refine (rows_calls Ak4 ck4 (keyR l0_1 (rd l2 (mid : Int)) l1) A3 c3 l3 _ ?side1 ?side2 ?side3 ?side4 ?side5 ?side6).mono ?_
        (case side1 => exact hCk4)
        (case side2 => exact hck4)
        (case side3 => exact Kd.C_below HR.out.2.2.2.2 HB.out)
        (case side4 => exact hc3)
        (case side5 => exact (by rw [keyR_len]; exact HL.out.1))
        (case side6 => exact HL.out.2.2)
        rintro e w6 ⟨rfl, hb⟩
        refine ⟨_, rfl, ?_⟩
        have HB2 := Aside0.mk (below_step HB.out hb)
        clear HB
        have HB := HB2
        clear HB2 hCk4
        have HT2 := Aside0.mk ((hb.block _ (blk_lt HTb.out)).trans HTb.out)
        clear HTb
        have HTb := HT2
        clear HT2
        refine hK.out _ _ ⟨(hb.cell (World.block_lt_of_cell? _ _ hHeld.1)).trans hHeld.1, (hb.cell (World.block_lt_of_cell? _ _ hHeld.2.1)).trans hHeld.2.1, (hb.cell (World.block_lt_of_cell? _ _ hHeld.2.2)).trans hHeld.2.2⟩ (fun hHeld => ?_)
        clear hK K
        refine norm_ (a' := ?_) ?_ ?_
        rotate_left
        · show Act.put _ (some 32) _ = _
          simp only [Act.put, List.setIfInBounds_toArray, List.set_cons_zero, List.set_cons_succ]
          rfl
        refine pure_ (i := 9) (N := some 33) (v := ?_) (a' := ?_) #[true, true, true, true, true, true, true, true, true, true] rfl rfl (by kernel_rfl) (fun _ _ _ h => h) (Or.inl ⟨by rfl, ?_⟩) ?_ ?_
        rotate_left
        · intro w'
          go_simp
          with_reducible rfl
        rotate_left
        · simp only [Act.put, List.setIfInBounds_toArray, List.set_cons_zero, List.set_cons_succ]
          rfl
        refine done_ (by kernel_rfl) ?_

        have hmid := HMI.out
        by_cases hc : cmpS (keyR l0_1 (rd l2 (mid : Int)) l1) l3 < 0
        · have hp : lowP l0_1 l1 l2 l3 (lo + (hi - lo) / 2) = true := by rw [← hmid]; exact decide_eq_true hc
          have hn := (bisL_lo hlt hp).symm.trans HC.out.L
          rw [← hmid] at hn
          clear hmid
          go_wp2
          have hmid := HMI.out
          go_roundw
          case rel => exact ⟨mid + 1, hi, by go_num, rfl, by omega, HC.out.hn, hn, HB.out, HTb.out⟩
          case measure => simp [intOf]; omega
        · have hp : ¬ lowP l0_1 l1 l2 l3 (lo + (hi - lo) / 2) = true := by rw [← hmid]; unfold lowP; simpa using hc
          have hn := (bisL_hi hlt hp).symm.trans HC.out.L
          rw [← hmid] at hn
          clear hmid
          go_wp2
          have hmid := HMI.out
          go_roundw
          case rel => exact ⟨lo, mid, rfl, rfl, by omega, by omega, hn, HB.out, HTb.out⟩
          case measure => simp [intOf]; omega
      · obtain rfl : lo = hi := by omega
        have hL : lowR l0_1 l1 l2 l3 = lo := HC.out.L.symm.trans (bisL_end (by omega))
        by_cases hm : lo < l2.length
        · have hmI : (lo : Int) < (l2.length : Int) := by omega
          have hb0 : wr.cell? ⟨w.heap.size, 0, none⟩ = some (.slice A0_0 l0_0.length c0_0) := blk_cell HC.out.T 0
          have hb1 : wr.cell? ⟨w.heap.size, 1, none⟩ = some (.slice A0_1 l0_1.length c0_1) := blk_cell HC.out.T 1
          have hf0 := blk_frozen HC.out.T 0
          have hf1 := blk_frozen HC.out.T 1
          obtain ⟨ad, eA, hx⟩ := ordAt (Kd.C_below HR.out.2.2.2.1 HC.out.b) hm
          cases eA
          go_wp2
          (try simp only [Exit.noGoto])
          refine start_ (n := 16) (S := fun w' => w'.cell? ⟨w.heap.size, 0, none⟩ = some (.slice A0_0 l0_0.length c0_0) ∧ w'.cell? ⟨w.heap.size, 1, none⟩ = some (.slice A0_1 l0_1.length c0_1) ∧ w'.cell? (ad.add lo) = some (.int .i64 (rd l2 (lo : Int)))) (ds := []) #[false, false, false, false, false, false, false, false, false, false, false, false, false, false, false, false] (by kernel_rfl) rfl rfl ⟨hb0, hb1, hx⟩ (fun hHeld => ?_)
          have HB : Aside0 (Below w.heap.size w wr.drew) := ⟨below_drew1 HC.out.b⟩
          have HTb : Aside0 (wr.drew.heap[w.heap.size]? = some (.cells #[.slice A0_0 l0_0.length c0_0, .slice A0_1 l0_1.length c0_1] 41 (0, 0))) := ⟨HC.out.T⟩
          generalize wr.drew = W3 at hHeld HB HTb ⊢
          clear hx hb0 hb1 hf0 hf1
          refine pure_ (i := 0) (N := some 37) (v := ?_) (a' := ?_) #[true, false, false, false, false, false, false, false, false, false, false, false, false, false, false, false] rfl rfl (by kernel_rfl) (fun _ _ _ h => h) (Or.inl ⟨by rfl, ?_⟩) ?_ ?_
          rotate_left
          · intro w'
            go_simp
            with_reducible rfl
          rotate_left
          · simp only [Act.put, List.setIfInBounds_toArray, List.set_cons_zero, List.set_cons_succ]
            rfl
          refine pure_ (i := 1) (N := some 38) (v := ?_) (a' := ?_) #[true, true, false, false, false, false, false, false, false, false, false, false, false, false, false, false] rfl rfl (by kernel_rfl) (fun _ _ _ h => h) (Or.inl ⟨by rfl, ?_⟩) ?_ ?_
          rotate_left
          · intro w'
            go_simp
            with_reducible rfl
          rotate_left
          · simp only [Act.put, List.setIfInBounds_toArray, List.set_cons_zero, List.set_cons_succ]
            rfl
          refine pure_ (i := 2) (N := some 39) (v := ?_) (a' := ?_) #[true, true, true, false, false, false, false, false, false, false, false, false, false, false, false, false] rfl rfl (by kernel_rfl) (fun _ _ _ h => h) (Or.inl ⟨by rfl, ?_⟩) ?_ ?_
          rotate_left
          · intro w'
            go_simp
            with_reducible rfl
          rotate_left
          · simp only [Act.put, List.setIfInBounds_toArray, List.set_cons_zero, List.set_cons_succ]
            rfl
          refine pure_ (i := 3) (N := some 40) (v := ?_) (a' := ?_) #[true, true, true, true, false, false, false, false, false, false, false, false, false, false, false, false] rfl rfl (by kernel_rfl) (fun _ _ _ h => h) (Or.inl ⟨by rfl, ?_⟩) ?_ ?_
          rotate_left
          · intro w'
            go_simp
            with_reducible rfl
          rotate_left
          · simp only [Act.put, List.setIfInBounds_toArray, List.set_cons_zero, List.set_cons_succ]
            rfl
          refine pure_ (i := 4) (N := some 41) (v := ?_) (a' := ?_) #[true, true, true, true, true, false, false, false, false, false, false, false, false, false, false, false] rfl rfl (by kernel_rfl) (fun _ _ _ h => h) (Or.inl ⟨by rfl, ?_⟩) ?_ ?_
          rotate_left
          · intro w'
            go_simp
            with_reducible rfl
          rotate_left
          · simp only [Act.put, List.setIfInBounds_toArray, List.set_cons_zero, List.set_cons_succ]
            rfl
          refine pure_ (i := 6) (N := some 43) (v := ?_) (a' := ?_) #[true, true, true, true, true, false, true, false, false, false, false, false, false, false, false, false] rfl rfl (by kernel_rfl) (fun _ _ _ h => h) (Or.inl ⟨by rfl, ?_⟩) ?_ ?_
          rotate_left
          · intro w'
            go_simp
            with_reducible rfl
          rotate_left
          · simp only [Act.put, List.setIfInBounds_toArray, List.set_cons_zero, List.set_cons_succ]
            rfl
          refine pure_ (i := 7) (N := some 44) (v := ?_) (a' := ?_) #[true, true, true, true, true, false, true, true, false, false, false, false, false, false, false, false] rfl rfl (by kernel_rfl) (fun _ _ _ h => h) (Or.inl ⟨by rfl, ?_⟩) ?_ ?_
          rotate_left
          · intro w'
            go_simp
            with_reducible rfl
          rotate_left
          · simp only [Act.put, List.setIfInBounds_toArray, List.set_cons_zero, List.set_cons_succ]
            rfl
          refine pure_ (i := 8) (N := some 45) (v := ?_) (a' := ?_) #[true, true, true, true, true, false, true, true, true, false, false, false, false, false, false, false] rfl rfl (by kernel_rfl) (fun _ _ _ h => h) (Or.inl ⟨by rfl, ?_⟩) ?_ ?_
          rotate_left
          · intro w'
            go_simp
            with_reducible rfl
          rotate_left
          · simp only [Act.put, List.setIfInBounds_toArray, List.set_cons_zero, List.set_cons_succ]
            rfl
          refine pure_ (i := 10) (N := some 47) (v := ?_) (a' := ?_) #[true, true, true, true, true, false, true, true, true, false, true, false, false, false, false, false] rfl rfl (by kernel_rfl) (fun _ _ _ h => h) (Or.inl ⟨by rfl, ?_⟩) ?_ ?_
          rotate_left
          · intro w'
            go_simp
            with_reducible rfl
          rotate_left
          · simp only [Act.put, List.setIfInBounds_toArray, List.set_cons_zero, List.set_cons_succ]
            rfl
          refine pure_ (i := 12) (N := some 49) (v := ?_) (a' := ?_) #[true, true, true, true, true, false, true, true, true, false, true, false, true, false, false, false] rfl rfl (by kernel_rfl) (fun _ _ _ h => h) (Or.inl ⟨by rfl, ?_⟩) ?_ ?_
          rotate_left
          · intro w'
            go_simp
            with_reducible rfl
          rotate_left
          · simp only [Act.put, List.setIfInBounds_toArray, List.set_cons_zero, List.set_cons_succ]
            rfl
          refine take_ (i := 5) (N := some 42) (v := ?_) (a' := ?_) #[true, true, true, true, true, true, true, true, true, false, true, false, true, false, false, false] rfl rfl (by kernel_rfl) (fun _ _ _ h => h) (Or.inl ⟨by rfl, ?_⟩) hHeld ?_ ?_
          rotate_left
          · rintro w' ⟨s0, s1, s2⟩
            go_simp
            with_reducible rfl
          rotate_left
          · simp only [Act.put, List.setIfInBounds_toArray, List.set_cons_zero, List.set_cons_succ]
            rfl
          refine take_ (i := 9) (N := some 46) (v := ?_) (a' := ?_) #[true, true, true, true, true, true, true, true, true, true, true, false, true, false, false, false] rfl rfl (by kernel_rfl) (fun _ _ _ h => h) (Or.inl ⟨by rfl, ?_⟩) hHeld ?_ ?_
          rotate_left
          · rintro w' ⟨s0, s1, s2⟩
            go_simp
            with_reducible rfl
          rotate_left
          · simp only [Act.put, List.setIfInBounds_toArray, List.set_cons_zero, List.set_cons_succ]
            rfl
          refine one_ (i := 11) (N := some 48) #[true, true, true, true, true, true, true, true, true, true, true, true, true, false, false, false] rfl rfl (by kernel_rfl) (by decide) (fun K hK => ?_)
          refine goes_ Try.func26 (by kernel_rfl) rfl #[.agg #[.slice A0_0 l0_0.length c0_0, .slice A0_1 l0_1.length c0_1], .int .i64 (rd l2 (lo : Int)), .slice A1 l1.length c1] (by rfl) rfl rfl (by (try simp only [List.map_toArray, List.map_cons, List.map_nil]); first | done | rfl) ?_
          with_reducible refine (key_calls A0_0 c0_0 l0_0 A0_1 c0_1 l0_1 (rd l2 (lo : Int)) A1 c1 l1 _ ?side1 ?side2 ?side3 ?side4 ?side5 ?side6 ?side7).mono ?_
          (case side1 => exact Kd.C_below HR.out.1 HB.out)
          (case side2 => exact hc0_0)
          (case side3 => exact Kd.C_below HR.out.2.1 HB.out)
          (case side4 => exact hc0_1)
          (case side5 => exact Kd.C_below HR.out.2.2.1 HB.out)
          (case side6 => exact hc1)
          (case side7 => exact HL.out.1)
          rintro e w4 ⟨v4, rfl, ho4, hb⟩
          refine ⟨_, rfl, ?_⟩
          obtain ⟨Ak4, ck4, rfl, hck4, hCk4⟩ := Kd.R_reads ho4
          have HB2 := Aside0.mk (below_step HB.out hb)
          clear HB
          have HB := HB2
          clear HB2 ho4
          have HT2 := Aside0.mk ((hb.block _ (blk_lt HTb.out)).trans HTb.out)
          clear HTb
          have HTb := HT2
          clear HT2
          refine hK.out _ _ ⟨(hb.cell (World.block_lt_of_cell? _ _ hHeld.1)).trans hHeld.1, (hb.cell (World.block_lt_of_cell? _ _ hHeld.2.1)).trans hHeld.2.1, (hb.cell (World.block_lt_of_cell? _ _ hHeld.2.2)).trans hHeld.2.2⟩ (fun hHeld => ?_)
          clear hK K
          refine norm_ (a' := ?_) ?_ ?_
          rotate_left
          · show Act.put _ (some 48) _ = _
            simp only [Act.put, List.setIfInBounds_toArray, List.set_cons_zero, List.set_cons_succ]
            rfl
          refine one_ (i := 13) (N := some 50) #[true, true, true, true, true, true, true, true, true, true, true, true, true, true, false, false] rfl rfl (by kernel_rfl) (by decide) (fun K hK => ?_)
          refine goes_ Try.func44 (by kernel_rfl) rfl #[.slice Ak4 (keyR l0_1 (rd l2 (lo : Int)) l1).length ck4, .slice A3 l3.length c3] (by rfl) rfl rfl (by (try simp only [List.map_toArray, List.map_cons, List.map_nil]); first | done | rfl) ?_
          with_reducible refine (rows_calls Ak4 ck4 (keyR l0_1 (rd l2 (lo : Int)) l1) A3 c3 l3 _ ?side1 ?side2 ?side3 ?side4 ?side5 ?side6).mono ?_
          (case side1 => exact hCk4)
          (case side2 => exact hck4)
          (case side3 => exact Kd.C_below HR.out.2.2.2.2 HB.out)
          (case side4 => exact hc3)
          (case side5 => exact (by rw [keyR_len]; exact HL.out.1))
          (case side6 => exact HL.out.2.2)
          rintro e w6 ⟨rfl, hb⟩
          refine ⟨_, rfl, ?_⟩
          have HB2 := Aside0.mk (below_step HB.out hb)
          clear HB
          have HB := HB2
          clear HB2 hCk4
          have HT2 := Aside0.mk ((hb.block _ (blk_lt HTb.out)).trans HTb.out)
          clear HTb
          have HTb := HT2
          clear HT2
          refine hK.out _ _ ⟨(hb.cell (World.block_lt_of_cell? _ _ hHeld.1)).trans hHeld.1, (hb.cell (World.block_lt_of_cell? _ _ hHeld.2.1)).trans hHeld.2.1, (hb.cell (World.block_lt_of_cell? _ _ hHeld.2.2)).trans hHeld.2.2⟩ (fun hHeld => ?_)
          clear hK K
          refine norm_ (a' := ?_) ?_ ?_
          rotate_left
          · show Act.put _ (some 50) _ = _
            simp only [Act.put, List.setIfInBounds_toArray, List.set_cons_zero, List.set_cons_succ]
            rfl
          refine pure_ (i := 14) (N := some 51) (v := ?_) (a' := ?_) #[true, true, true, true, true, true, true, true, true, true, true, true, true, true, true, false] rfl rfl (by kernel_rfl) (fun _ _ _ h => h) (Or.inl ⟨by rfl, ?_⟩) ?_ ?_
          rotate_left
          · intro w'
            go_simp
            with_reducible rfl
          rotate_left
          · simp only [Act.put, List.setIfInBounds_toArray, List.set_cons_zero, List.set_cons_succ]
            rfl
          refine pure_ (i := 15) (N := some 52) (v := ?_) (a' := ?_) #[true, true, true, true, true, true, true, true, true, true, true, true, true, true, true, true] rfl rfl (by kernel_rfl) (fun _ _ _ h => h) (Or.inl ⟨by rfl, ?_⟩) ?_ ?_
          rotate_left
          · intro w'
            go_simp
            with_reducible rfl
          rotate_left
          · simp only [Act.put, List.setIfInBounds_toArray, List.set_cons_zero, List.set_cons_succ]
            rfl
          refine done_ (by kernel_rfl) ?_
          by_cases hc : cmpS (keyR l0_1 (rd l2 (lo : Int)) l1) l3 = 0
          · have hH := H.out
            unfold findR at hH
            rw [hL, if_pos ⟨hm, hc⟩] at hH
            have hx := hHeld.2.2
            go_wp2
            (try simp only [Exit.noGoto])
            refine bodyPost_ret (results_tmp2 rfl _ _ _) rfl ?_
            injection hH with h1 h2
            subst h1 h2
            exact ⟨rfl, HB.out⟩
          · have hH := H.out
            unfold findR at hH
            rw [hL, if_neg (fun h => hc h.2)] at hH
            go_wp2
            (try simp only [Exit.noGoto])
            refine bodyPost_ret (results_tmp2 rfl _ _ _) rfl ?_
            injection hH with h1 h2
            subst h1 h2
            exact ⟨rfl, HB.out⟩
        · have hmI : ¬ (lo : Int) < (l2.length : Int) := by omega
          have hH := H.out
          unfold findR at hH
          rw [hL, if_neg (fun h => hm h.1)] at hH
          go_wp2
          repeat (go_quiet (fail); try go_wp2)
          (try simp only [Exit.noGoto])
          refine bodyPost_ret (results_tmp2 rfl _ _ _) rfl ?_
          injection hH with h1 h2
          subst h1 h2
          exact ⟨rfl, by first | exact below_drew1 HC.out.b | exact pw_below_drewN HC.out.b _ | exact HC.out.b⟩
  · exact nomatch h
end Go.Proofs.Ytchpgkojlhipgaa.X
