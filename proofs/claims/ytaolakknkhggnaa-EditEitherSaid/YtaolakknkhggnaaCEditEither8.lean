/- The texts that the law EditEither wants, part 8 of 8: what is kept of them. -/
import Derived.Test.YtaolakknkhggnaaCEditEither7
section
namespace Go.Proofs.Ytaolakknkhggnaa.X
open Go.RowKit Go.Proofs.YtaolakknkhggnaaW.PrintWords
set_option linter.unusedVariables false
def szs (l : List ByteArray) : Nat := (l.map ByteArray.size).sum
theorem sumR_szs : ∀ (l : List ByteArray), szs l ≤ 1000000000000 → sumR l = (szs l : Int) := by
  have key : ∀ (l : List ByteArray) (n : Nat), n + szs l ≤ 1000000000000 → l.foldl (fun (n : Int) c => wrap64 (n + c.size)) (n : Int) = ((n + szs l : Nat) : Int) := by
    intro l
    induction l with
    | nil => intro n h; simp [szs]
    | cons x l ih =>
      intro n h
      have e : szs (x :: l) = x.size + szs l := by simp [szs]
      rw [e] at h ⊢
      rw [List.foldl_cons, wrap_inF (by omega) (by omega), show (n : Int) + (x.size : Int) = ((n + x.size : Nat) : Int) by omega, ih (n + x.size) (by omega), Nat.add_assoc]
  intro l h
  have := key l 0 (by omega)
  rw [Nat.zero_add] at this
  exact this
theorem szs_append (a b : List ByteArray) : szs (a ++ b) = szs a + szs b := by unfold szs; rw [List.map_append, List.sum_append]
theorem szs_flat : ∀ (L : List (List ByteArray)), szs L.flatten = (L.map szs).sum
  | [] => rfl
  | x :: L => by rw [List.flatten_cons, szs_append, szs_flat L, List.map_cons, List.sum_cons]
theorem szs_le {l : List ByteArray} {b : Nat} (h : ∀ x ∈ l, x.size ≤ b) : szs l ≤ l.length * b := by
  induction l with
  | nil => simp [szs]
  | cons x l ih =>
    have h1 := h x (by simp)
    have h2 := ih (fun y hy => h y (by simp [hy]))
    have e : szs (x :: l) = x.size + szs l := by simp [szs]
    rw [e, List.length_cons, Nat.add_mul]
    omega
theorem sum_le {L : List (List ByteArray)} {f : List ByteArray → Nat} {b : Nat} (h : ∀ x ∈ L, f x ≤ b) : (L.map f).sum ≤ L.length * b := by
  induction L with
  | nil => simp
  | cons x l ih =>
    have h1 := h x (by simp)
    have h2 := ih (fun y hy => h y (by simp [hy]))
    rw [List.map_cons, List.sum_cons, List.length_cons, Nat.add_mul]
    omega
structure SubR (R' R : List (List ByteArray)) : Prop where
  len : R'.length ≤ R.length
  mem : ∀ x ∈ R', x ∈ R
  sum : ∀ f : List ByteArray → Nat, (R'.map f).sum ≤ (R.map f).sum
theorem sum_putL {α : Type} (f : α → Nat) (l : List α) (i : Nat) (x : α) : ((putL l i x).map f).sum = f x + (l.map f).sum := by
  unfold putL
  have h : ((l.take i).map f).sum + ((l.drop i).map f).sum = (l.map f).sum := by rw [← List.sum_append, ← List.map_append, List.take_append_drop]
  rw [List.map_append, List.sum_append, List.map_cons, List.sum_cons]
  omega
theorem sum_dropL {α : Type} (f : α → Nat) {l : List α} {i : Nat} {x : α} (h : l[i]? = some x) : ((dropL l i).map f).sum + f x = (l.map f).sum := by
  have h1 := sum_putL f (dropL l i) i x
  rw [putL_dropL h] at h1
  omega
theorem sub_drop {R : List (List ByteArray)} {i : Nat} (h : i < R.length) : SubR (dropL R i) R :=
  ⟨len_dropL R i, fun x hx => mem_dropL hx, fun f => by have := sum_dropL f (some_getD [] h); omega⟩
theorem sub_move {R : List (List ByteArray)} {i k : Nat} (h : i < R.length) : SubR (putL (dropL R i) k (R.getD i [])) R :=
  ⟨by rw [len_putL, dropL_length h]; omega, fun x hx => by
    rcases mem_putL hx with e | e
    · rw [e]; exact List.mem_of_getElem? (some_getD [] h)
    · exact mem_dropL e, fun f => by rw [sum_putL]; have := sum_dropL f (some_getD [] h); omega⟩
/-- Fewer rows of a table that may be are one. -/
theorem check_sub {h : List ByteArray} {R R' : List (List ByteArray)} (hc : checkT h R = 0) (hl : R.length ≤ 1000) (hs : SubR R' R) : checkT h R' = 0 := by
  have hrow := rows_of_check hc
  rw [check_eq] at hc ⊢
  split at hc
  · simp at hc
  · rename_i h0
    split at hc
    · simp at hc
    · rename_i h1
      split at hc
      · rename_i h2
        have w' : ¬ wideR R' h.length = true := by
          rw [Bool.not_eq_true]
          unfold wideR
          rw [List.any_eq_false]
          intro x hx
          have := hrow x (.inr (hs.mem x hx))
          simp [this]
        rw [if_neg h0, if_neg w', if_pos h2]
        rw [large_eq] at hc ⊢
        split at hc
        · simp at hc
        · rename_i h3
          split at hc
          · simp at hc
          · rename_i h4
            have hlen := hs.len
            have hR : ∀ x ∈ R, lg x = false := fun x hx => by
              rw [Bool.not_eq_true, Bool.or_eq_false_iff] at h4
              exact Bool.not_eq_true _ |>.mp (List.any_eq_false.1 h4.2 x hx)
            have hH : lg h = false := by rw [Bool.not_eq_true, Bool.or_eq_false_iff] at h4; exact h4.1
            have h4' : ¬ (lg h || R'.any lg) = true := by
              rw [Bool.not_eq_true, Bool.or_eq_false_iff]
              exact ⟨hH, List.any_eq_false.2 (fun x hx => by rw [hR x (hs.mem x hx)]; decide)⟩
            rw [if_neg (by omega), if_neg h4']
            have small : ∀ x : List ByteArray, lg x = false → ∀ c ∈ x, c.size ≤ 1000 := fun x hx c hcx => by
              unfold lg at hx
              have := List.any_eq_false.1 hx c hcx
              simpa using this
            have b1 : szs h ≤ 40 * 1000 := Nat.le_trans (szs_le (small h hH)) (Nat.mul_le_mul_right _ (by omega))
            have b2 : (R.map szs).sum ≤ 1000 * (40 * 1000) := Nat.le_trans (sum_le (b := 40 * 1000) (fun x hx => Nat.le_trans (szs_le (small x (hR x hx))) (Nat.mul_le_mul_right _ (by have := hrow x (.inr hx); omega)))) (Nat.mul_le_mul_right _ hl)
            have b3 := hs.sum szs
            have e1 : totalR h R = ((szs h + (R.map szs).sum : Nat) : Int) := by
              unfold totalR seqR
              rw [List.flatten_cons, sumR_szs _ (by rw [szs_append, szs_flat]; omega), szs_append, szs_flat]
            have e2 : totalR h R' = ((szs h + (R'.map szs).sum : Nat) : Int) := by
              unfold totalR seqR
              rw [List.flatten_cons, sumR_szs _ (by rw [szs_append, szs_flat]; omega), szs_append, szs_flat]
            rw [e1] at hc
            rw [e2]
            split at hc
            · rw [if_pos (by omega)]
            · simp at hc
      · simp at hc
theorem getD_map {R : List (List ByteArray)} (G : List ByteArray → List ByteArray) {i : Nat} (h : i < R.length) : (R.map G).getD i [] = G (R.getD i []) := by
  rw [List.getD_eq_getElem?_getD, List.getElem?_map, some_getD [] h]
  rfl
theorem do_col (hd : List ByteArray) (kd a b : Int) (c : ByteArray) (l : List ByteArray) (m : List Int) (hk : kd = 1 ∨ kd = 2 ∨ kd = 3) (hs : okS hd) (hc : c.size ≤ maxLen) (hh : hd.length ≤ 1000) :
    ∃ (ex : Int) (H : List ByteArray) (G : List ByteArray → List ByteArray), (ex = 0 → okS H ∧ H.length ≤ 2000) ∧ ∀ rows, okE hd rows = true → tartanlaw05_do.f hd rows kd a b c l m = some (madeT hd rows ex H (rows.map G)) := by
  rcases hk with rfl | rfl | rfl
  · refine ⟨xIn a hd.length, dropL hd a.toNat, fun x => dropL x a.toNat, fun _ => ⟨okS_drop hs _, by have := len_dropL hd a.toNat; omega⟩, fun rows hE => ?_⟩
    unfold tartanlaw05_do.f
    rw [if_neg (by decide), if_pos (by decide), delc_f _ _ _ hE]
    rfl
  · refine ⟨xIn a hd.length, hd.set a.toNat c, fun x => x, fun _ => ⟨fun s h => ?_, by rw [List.length_set]; omega⟩, fun rows hE => ?_⟩
    · rcases List.mem_or_eq_of_mem_set h with h | h
      · exact hs s h
      · rw [h]; exact hc
    · unfold tartanlaw05_do.f
      rw [if_neg (by decide), if_neg (by decide), if_pos (by decide), ren_f _ _ _ _ hE hc, List.map_id']
      rfl
  · refine ⟨xIn2 a hd.length b hd.length, putL (dropL hd a.toNat) b.toNat (hd.getD a.toNat ByteArray.empty), fun x => putL (dropL x a.toNat) b.toNat (x.getD a.toNat ByteArray.empty), fun _ => ⟨okS_put (okS_drop hs _) _ (okS_getD hs _), by rw [len_putL]; have := len_dropL hd a.toNat; omega⟩, fun rows hE => ?_⟩
    unfold tartanlaw05_do.f
    rw [if_neg (by decide), if_neg (by decide), if_neg (by decide), if_pos (by decide), movec_f _ _ _ _ hE]
    rfl
theorem do_row (kd a b : Int) (c : ByteArray) (l : List ByteArray) (m : List Int) (hk : kd = 5 ∨ kd = 6) :
    ∃ (ey : Nat → Int) (P : List (List ByteArray) → List (List ByteArray)), (∀ R, ey R.length = 0 → SubR (P R) R) ∧ (∀ (R : List (List ByteArray)) (G : List ByteArray → List ByteArray), ey R.length = 0 → P (R.map G) = (P R).map G) ∧ ∀ hd R, okE hd R = true → tartanlaw05_do.f hd R kd a b c l m = some (madeT hd R (ey R.length) hd (P R)) := by
  rcases hk with rfl | rfl
  · refine ⟨fun n => xIn a n, fun R => dropL R a.toNat, fun R h => sub_drop (by have := xIn_zero h; omega), fun R G h => (dropL_map G R a.toNat).symm, fun hd R hE => ?_⟩
    unfold tartanlaw05_do.f
    rw [if_neg (by decide), if_neg (by decide), if_neg (by decide), if_neg (by decide), if_neg (by decide), if_pos (by decide), delr_f _ _ _ hE]
    rfl
  · refine ⟨fun n => xIn2 a n b n, fun R => putL (dropL R a.toNat) b.toNat (R.getD a.toNat []), fun R h => sub_move (by have := (xIn2_zero h).1; omega), fun R G h => ?_, fun hd R hE => ?_⟩
    · have := (xIn2_zero h).1
      show putL (dropL (R.map G) a.toNat) b.toNat ((R.map G).getD a.toNat []) = (putL (dropL R a.toNat) b.toNat (R.getD a.toNat [])).map G
      rw [putL_map, dropL_map, getD_map G (by omega)]
    · unfold tartanlaw05_do.f
      rw [if_neg (by decide), if_neg (by decide), if_neg (by decide), if_neg (by decide), if_neg (by decide), if_neg (by decide), if_pos (by decide), mover_f _ _ _ _ hE]
      rfl
theorem either_j1 (hd : List ByteArray) (rows : List (List ByteArray)) (s : Sm hd rows) (hs : okS hd) (k1 a1 b1 : Int) (c1 : ByteArray) (l1 : List ByteArray) (m1 : List Int) (k2 a2 b2 : Int) (c2 : ByteArray) (l2 : List ByteArray) (m2 : List Int) (hc : c1.size ≤ maxLen) (big : Bool) (hk : big = false → (k1 = 1 ∨ k1 = 2 ∨ k1 = 3) ∧ (k2 = 5 ∨ k2 = 6)) {k : Nat} :
    tartanlaw05_EditEither.j1 (k + 2) true big hd rows k1 a1 b1 c1 l1 m1 k2 a2 b2 c2 l2 m2 = some true := by
  have hE := s.okE hs
  have h2' := s.r
  have h1' := s.h
  simp only [tartanlaw05_EditEither.j1]
  cases big with
  | true => rw [if_pos rfl]
  | false =>
    obtain ⟨hk1, hk2⟩ := hk rfl
    obtain ⟨ex, H, G, hH, hx⟩ := do_col hd k1 a1 b1 c1 l1 m1 hk1 hs hc (by omega)
    obtain ⟨ey, P, hP, hPm, hy⟩ := do_row k2 a2 b2 c2 l2 m2 hk2
    rw [if_neg (by decide), hx rows hE, Option.bind_some, hy hd rows hE, Option.bind_some]
    by_cases e1 : (madeT hd rows ex H (rows.map G)).2.2 = 0
    · obtain ⟨p1, p2, p3, p4⟩ := made_ok e1
      obtain ⟨hH1, hH2⟩ := hH p2
      rw [if_pos e1, p4]
      dsimp only
      simp only [tartanlaw05_EditEither.j2]
      by_cases e2 : (madeT hd rows (ey rows.length) hd (P rows)).2.2 = 0
      · obtain ⟨q1, q2, q3, q4⟩ := made_ok e2
        have hsub := hP rows q2
        have hl := hsub.len
        rw [q4]
        simp only [bne_self_eq_false, Bool.false_eq_true, if_false]
        have hmap : (rows.map G).length = rows.length := List.length_map _
        have hPR : P (rows.map G) = (P rows).map G := hPm rows G q2
        have hck : checkT H ((P rows).map G) = 0 := by
          rw [← hPR]
          exact check_sub p3 (by rw [hmap]; omega) (hP (rows.map G) (by rw [hmap]; exact q2))
        rw [hy H (rows.map G) (okE_mk (by omega) (by rw [hmap]; omega) hH1), Option.bind_some, hx (P rows) (okE_mk (by omega) (by omega) hs), Option.bind_some, hmap, hPR, made_of p3 q2 hck, made_of q3 p2 hck]
        simp only [if_true]
        rw [same_f _ _ _ _ rfl rfl, Option.bind_some]
      · rw [if_pos (by simpa using e2)]
    · rw [if_neg e1]
      simp [tartanlaw05_EditEither.j2]
theorem either_j0 (hd : List ByteArray) (rows : List (List ByteArray)) (s : Sm hd rows) (hs : okS hd) (k1 a1 b1 : Int) (c1 : ByteArray) (l1 : List ByteArray) (m1 : List Int) (k2 a2 b2 : Int) (c2 : ByteArray) (l2 : List ByteArray) (m2 : List Int) (hc : c1.size ≤ maxLen) (q : Bool) {k : Nat} :
    tartanlaw05_EditEither.j0 (k + 3) true q hd rows k1 a1 b1 c1 l1 m1 k2 a2 b2 c2 l2 m2 = some true := by
  have big := either_j1 hd rows s hs k1 a1 b1 c1 l1 m1 k2 a2 b2 c2 l2 m2 hc true (fun h => nomatch h) (k := k)
  simp only [tartanlaw05_EditEither.j0]
  cases q with
  | false => rw [if_neg (by decide)]; exact big
  | true =>
    rw [if_pos rfl]
    by_cases h1 : k1 < 1
    · rw [if_pos h1]; exact big
    · rw [if_neg h1]
      by_cases h2 : k1 > 3
      · rw [if_pos h2]; exact big
      · rw [if_neg h2]
        by_cases h3 : k2 < 5
        · rw [if_pos h3]; exact big
        · rw [if_neg h3]
          exact either_j1 hd rows s hs k1 a1 b1 c1 l1 m1 k2 a2 b2 c2 l2 m2 hc _ (fun h => by have := of_decide_eq_false h; exact ⟨by omega, by omega⟩)
theorem pure_EditEither : ∀ (x0 : S25) (x1 : S28) (x2 : S28), okT25 x0 → okT28 x1 → okT28 x2 → ∃ k, tartanlaw05_EditEither.f k x0.f0 x0.f1 x1.f0 x1.f1 x1.f2 x1.f3 x1.f4 x1.f5 x2.f0 x2.f1 x2.f2 x2.f3 x2.f4 x2.f5 = some true := by
  intro x0 x1 x2 o0 o1 o2
  obtain ⟨hd, rows⟩ := x0
  obtain ⟨k1, a1, b1, c1, l1, m1⟩ := x1
  obtain ⟨k2, a2, b2, c2, l2, m2⟩ := x2
  obtain ⟨k, hk⟩ := fuel05
  refine ⟨k + 3, ?_⟩
  have hc : c1.size ≤ maxLen := o1.2.2.2.1
  unfold tartanlaw05_EditEither.f
  rw [show tartanlaw05_works.f = some true from rfl, Option.bind_some, if_pos rfl]
  obtain ⟨q, e, hq⟩ := fewE hd rows (k := k + 3) (by omega)
  dsimp only
  rw [e, Option.bind_some]
  cases q with
  | false =>
    rw [if_neg (by decide)]
    simp [tartanlaw05_EditEither.j0, tartanlaw05_EditEither.j1]
  | true =>
    have s := hq rfl
    have hs : okS hd := o0.1.2
    obtain ⟨q1, e1, hq1⟩ := fewx_some k1 a1 b1 c1 l1 m1 (k := k + 3) (by omega)
    rw [if_pos rfl, e1, Option.bind_some]
    cases q1 with
    | false => rw [if_neg (by decide)]; exact either_j0 hd rows s hs _ _ _ _ _ _ _ _ _ _ _ _ hc false
    | true =>
      obtain ⟨q2, e2, hq2⟩ := fewx_some k2 a2 b2 c2 l2 m2 (k := k + 3) (by omega)
      rw [if_pos rfl, e2, Option.bind_some]
      exact either_j0 hd rows s hs _ _ _ _ _ _ _ _ _ _ _ _ hc q2
end Go.Proofs.Ytaolakknkhggnaa.X
end
