/- The texts that the law KeysFewer wants, part 4 of 4: what is kept of them. -/
import Derived.WalkMore
import Derived.Test.YtbcpaojciephmaaCKeysFewer3
section
namespace Go.Proofs.Ytbcpaojciephmaa.X
open Go.RowKit Go.Maps Go.Proofs.YtbcpaojciephmaaW.PrintWords Go.Proofs.YtbcpaojciephmaaW.PrintLast Go.Proofs.YtbcpaojciephmaaW.PrintMore
set_option linter.unusedVariables false
/-- A table has no such name. -/
def lacks (T : TS) (name : ByteArray) : Bool := decide (findI T.f0 name < 0)
set_option maxRecDepth 100000 in
theorem i1_calls (T : TS) (A0 : Option Addr) (c0 : Nat) (A1 : Option Addr) (c1 : Nat) (name : ByteArray) (B : Nat) (W : World) (hB : W.heap[B]? = some (.cells #[.string name] 9 (0, 0)))
    (hr0 : Kd.C Kd.string W A0 T.f0.length T.f0) (hc0 : T.f0.length ≤ c0) (hr1 : Kd.C (Kd.slice 9 Kd.string) W A1 T.f1.length T.f1) (hc1 : T.f1.length ≤ c1) (hok : T.f0.length ≤ 1000000) :
    Calls Try.prog 50 #[.agg #[.slice A0 T.f0.length c0, .slice A1 T.f1.length c1], .pointer (some ⟨B, 0, none⟩)] W fun e w' => e = .returned (.bool (lacks T name)) ∧ Below W.heap.size W w' := by
  have HF := Aside0.mk (find_some T.f0 T.f1 name hok (k := 1000001) (by decide))
  unfold lacks
  obtain ⟨W0, hW0⟩ : ∃ W0, Aside0 (W.alloc (.cells #[.slice A0 T.f0.length c0, .slice A1 T.f1.length c1] 25 (0, 0)) = W0) := ⟨_, ⟨rfl⟩⟩
  have HB0 : Aside0 (Below W.heap.size W W0) := ⟨by rw [← hW0.out]; exact below_alloc (Below.refl _ _) _⟩
  have hT : W0.heap[W.heap.size]? = some (.cells #[.slice A0 T.f0.length c0, .slice A1 T.f1.length c1] 25 (0, 0)) := by rw [← hW0.out]; exact blk_new W _
  have HR := Aside0.mk (And.intro (Kd.C_below hr0 HB0.out) (Kd.C_below hr1 HB0.out))
  have hT0 := blk_cell hT 0
  have hT1 := blk_cell hT 1
  have hN0 := blk_cell (blk_below hB HB0.out) 0
  rw [← hW0.out] at hT0 hT1 hN0
  clear hr0 hr1 hB hT
  generalize hr : findI T.f0 name = r at *
  go_enter Try.func50, Try.ntmps50
  go_wp2_with (go_at_call 40; rw [hW0.out]; refine (table_Find.calls 1000001 A0 c0 T.f0 A1 c1 T.f1 name r W0 HR.out.1 hc0 HR.out.2 hc1 HF.out).mono ?_; rintro e w1 ⟨rfl, hd⟩; have HD := Aside0.mk (below_step HB0.out hd); clear hd)
  go_ret
  exact ⟨rfl, HD.out⟩
theorem tabAt_inf {w : World} {A : Option Addr} {l : List TS} (h : Kd.C k25 w A l.length l) {t : Nat} (ht : t < l.length) : ∃ ad A0 c0 A1 c1, A = some ad ∧ w.cell? (ad.add (t * 2)) = some (.slice A0 (rd_T25 l (t : Int)).f0.length c0) ∧ w.cell? ⟨(ad.add (t * 2)).block, (ad.add (t * 2)).off + 1, none⟩ = some (.slice A1 (rd_T25 l (t : Int)).f1.length c1) ∧
    (rd_T25 l (t : Int)).f0.length ≤ c0 ∧ Kd.C Kd.string w A0 (rd_T25 l (t : Int)).f0.length (rd_T25 l (t : Int)).f0 ∧ (rd_T25 l (t : Int)).f1.length ≤ c1 ∧ Kd.C (Kd.slice 9 Kd.string) w A1 (rd_T25 l (t : Int)).f1.length (rd_T25 l (t : Int)).f1 := by
  obtain ⟨ad, A0, c0, A1, c1, e, h0, h1, r⟩ := at_T25 h (t : Int) (by omega) (by omega)
  exact ⟨ad, A0, c0, A1, c1, e, h0, h1, r⟩
set_option maxRecDepth 100000 in
set_option maxHeartbeats 800000 in
theorem idx_inf (Al : Option Addr) (cl : Nat) (l : List TS) (name : ByteArray) (B : Nat) (W : World) (hB : W.heap[B]? = some (.cells #[.string name] 9 (0, 0))) (hrl : Kd.C k25 W Al l.length l) (hll : l.length ≤ 100000) (hok : ∀ T ∈ l, T.f0.length ≤ 1000000) :
    Calls Try.prog 72 #[.slice Al l.length cl, .func (.func 50) #[] #[.pointer (some ⟨B, 0, none⟩)]] W fun e w' => (∃ i : Int, e = .returned (.int .i64 i) ∧ decide (0 ≤ i) = l.any fun T => lacks T name) ∧ Below W.heap.size W w' := by
  have HR := Aside0.mk (And.intro hrl hB)
  have HOK := Aside0.mk hok
  clear hrl hB hok
  go_enter Try.func72, Try.ntmps72
  go_wp2
  go_loopw [8] (fun vi wr => ∃ i : Nat, vi = .int .i64 i ∧ i ≤ l.length ∧ Aside0 ((l.take i).any (fun T => lacks T name) = false) ∧ Aside0 (Below W.heap.size W wr))
    (fun vi _ => l.length - (intOf vi).toNat)
  case atStart => exact ⟨0, rfl, Nat.zero_le _, ⟨by simp⟩, ⟨Below.refl _ _⟩⟩
  case round =>
    obtain ⟨i, rfl, hi, HN, HB⟩ := hrel
    by_cases hlt : i < l.length
    · obtain ⟨ad, A0, c0, A1, c1, eA, hx0, hx1, hc0, hC0, hc1, hC1⟩ := tabAt_inf (Kd.C_below HR.out.1 HB.out) hlt
      cases eA
      have hltI : (i : Int) < (l.length : Int) := by omega
      have hm : rd_T25 l (i : Int) ∈ l := by
        unfold rd_T25
        rw [show ((i : Int)).toNat = i from rfl, List.getD_eq_getElem?_getD, List.getElem?_eq_getElem hlt]; exact List.getElem_mem hlt
      have Htk : Aside0 ((l.take (i + 1)).any (fun T => lacks T name) = ((l.take i).any (fun T => lacks T name) || (fun T => lacks T name) (rd_T25 l (i : Int)))) := ⟨by
        unfold rd_T25
        rw [show ((i : Int)).toNat = i from rfl, List.take_succ_eq_append_getElem hlt, List.getD_eq_getElem?_getD, List.getElem?_eq_getElem hlt, List.any_append]; simp⟩
      have HYes : Aside0 ((fun T => lacks T name) (rd_T25 l (i : Int)) = true → l.any (fun T => lacks T name) = true) := ⟨fun h => List.any_eq_true.2 ⟨_, hm, h⟩⟩
      have hokT := HOK.out _ hm
      generalize rd_T25 l (i : Int) = T at *
      have HK := Aside0.mk (i1_calls T A0 c0 A1 c1 name B wr (blk_below HR.out.2 HB.out) hC0 hc0 hC1 hc1 hokT)
      clear hm hC0 hC1
      obtain ⟨p, hp⟩ : ∃ p : Bool, Aside0 ((lacks T name) = p) := ⟨_, ⟨rfl⟩⟩
      rw [hp.out] at HK
      cases p with
      | true =>
        have HY := Aside0.mk (HYes.out hp.out)
        go_wp2_with (go_at_call 50; refine HK.out.mono ?_; rintro e w1 ⟨rfl, hd⟩; have HD1 := Aside0.mk hd; clear hd)
        go_ret
        exact ⟨⟨(i : Int), rfl, by rw [HY.out]; simp⟩, below_step HB.out HD1.out⟩
      | false =>
        have HN2 : Aside0 ((l.take (i + 1)).any (fun T => lacks T name) = false) := ⟨by rw [Htk.out, HN.out]; exact hp.out⟩
        go_wp2_with (go_at_call 50; refine HK.out.mono ?_; rintro e w1 ⟨rfl, hd⟩; have HD1 := Aside0.mk hd; clear hd)
        go_roundw
        case rel => exact ⟨i + 1, by go_num, by omega, HN2, ⟨below_step HB.out HD1.out⟩⟩
        case measure => simp [intOf]; omega
    · obtain rfl : i = l.length := by omega
      rw [List.take_length] at HN
      go_wp2
      go_ret
      exact ⟨⟨-1, rfl, by rw [HN.out]; rfl⟩, HB.out⟩
set_option maxRecDepth 100000 in
theorem any_inf (Al : Option Addr) (cl : Nat) (l : List TS) (name : ByteArray) (B : Nat) (W : World) (hB : W.heap[B]? = some (.cells #[.string name] 9 (0, 0))) (hrl : Kd.C k25 W Al l.length l) (hll : l.length ≤ 100000) (hok : ∀ T ∈ l, T.f0.length ≤ 1000000) :
    Calls Try.prog 52 #[.slice Al l.length cl, .func (.func 50) #[] #[.pointer (some ⟨B, 0, none⟩)]] W fun e w' => e = .returned (.bool (l.any fun T => lacks T name)) ∧ Below W.heap.size W w' := by
  have HI := Aside0.mk (idx_inf Al cl l name B W hB hrl hll hok)
  clear hrl hB hok
  generalize (l.any fun T => lacks T name) = q at *
  go_enter Try.func52, Try.ntmps52
  go_wp2_with (go_at_call 72; refine HI.out.mono ?_; rintro e w1 ⟨⟨i, rfl, hq⟩, hd⟩; have HD := Aside0.mk hd; have HQ := Aside0.mk hq; clear hd hq)
  go_ret
  exact ⟨by rw [← HQ.out]; rfl, HD.out⟩
end Go.Proofs.Ytbcpaojciephmaa.X
end
section
namespace Go.Proofs.Ytbcpaojciephmaa.X
open Go.RowKit Go.Maps Go.Proofs.YtbcpaojciephmaaW.PrintWords Go.Proofs.YtbcpaojciephmaaW.PrintLast Go.Proofs.YtbcpaojciephmaaW.PrintMore
set_option linter.unusedVariables false
attribute [local go_sem] Oper.semAt_some
/-- One more candidate. -/
def candS (l : List TS) (c : List ByteArray) (n : ByteArray) : List ByteArray := if inB c n = true then c else if (l.any fun T => lacks T n) = true then c else c ++ [n]
def candR (l : List TS) (names : List ByteArray) : List ByteArray := names.foldl (candS l) []
theorem cand_len (l : List TS) (c : List ByteArray) (n : ByteArray) : (candS l c n).length ≤ c.length + 1 := by
  unfold candS
  split
  · omega
  · split
    · omega
    · simp
theorem cands_len (l : List TS) : ∀ (names c : List ByteArray), (names.foldl (candS l) c).length ≤ c.length + names.length
  | [], c => by simp
  | n :: r, c => by
    have h1 := cands_len l r (candS l c n)
    have h2 := cand_len l c n
    simp only [List.foldl_cons, List.length_cons]
    omega
/-- The first one that may be. -/
def chAll (c : List ByteArray) : List (List ByteArray) := cho 1 c ++ (cho 2 c ++ cho 3 c)
def bestR (l : List TS) (c : List ByteArray) : List ByteArray := ((chAll c).find? (usableR l)).getD []
def inferR (l : List TS) (names : List ByteArray) : List ByteArray := bestR l (candR l names)
theorem find_hit (l : List TS) (L : List (List ByteArray)) (pre : List (List ByteArray)) (x : List ByteArray) (hp : pre ++ [x] <+: L) (hpre : ∀ y ∈ pre, usableR l y = false) (hx : usableR l x = true) : L.find? (usableR l) = some x := by
  obtain ⟨s, rfl⟩ := hp
  have h1 : pre.find? (usableR l) = none := List.find?_eq_none.2 (fun y hy => by rw [hpre y hy]; decide)
  rw [List.find?_append, List.find?_append, h1]
  simp [hx]
theorem find_miss (l : List TS) (L : List (List ByteArray)) (h : ∀ y ∈ L, usableR l y = false) : L.find? (usableR l) = none := List.find?_eq_none.2 (fun y hy => by rw [h y hy]; decide)
theorem best_found (l : List TS) (c : List ByteArray) (n : Nat) (h1 : 1 ≤ n) (h3 : n ≤ 3) (hno : ∀ k, 1 ≤ k → k < n → ∀ x ∈ cho k c, usableR l x = false) (pre : List (List ByteArray)) (x : List ByteArray) (hp : pre ++ [x] <+: cho n c) (hpre : ∀ y ∈ pre, usableR l y = false) (hx : usableR l x = true) : bestR l c = x := by
  have hf := find_hit l _ pre x hp hpre hx
  unfold bestR chAll
  rw [List.find?_append, List.find?_append]
  obtain rfl | rfl | rfl : n = 1 ∨ n = 2 ∨ n = 3 := by omega
  · rw [hf]; rfl
  · rw [hf, find_miss l _ (hno 1 (by omega) (by omega))]; rfl
  · rw [hf, find_miss l _ (hno 1 (by omega) (by omega)), find_miss l _ (hno 2 (by omega) (by omega))]; rfl
theorem best_none (l : List TS) (c : List ByteArray) (hno : ∀ k, 1 ≤ k → k < 4 → ∀ x ∈ cho k c, usableR l x = false) : bestR l c = [] := by
  unfold bestR chAll
  rw [List.find?_append, List.find?_append, find_miss l _ (hno 1 (by omega) (by omega)), find_miss l _ (hno 2 (by omega) (by omega)), find_miss l _ (hno 3 (by omega) (by omega))]; rfl
theorem Own.far {n₀ : Nat} {V : World} {p : Addr} {v u : Value} {xs : List ByteArray} (h : V.ownsRow n₀ 9 1 v xs.length (encs Value.string xs)) (hne : ∀ k, v.ownBlock = some k → k ≠ p.block) : (V.setCell p u).ownsRow n₀ 9 1 v xs.length (encs Value.string xs) :=
  own_move h (fun k hk => heap_setCell_other V p k u (hne k hk))
set_option maxRecDepth 100000 in
set_option maxHeartbeats 8000000 in
theorem infer_calls (Al : Option Addr) (cl : Nat) (l : List TS) (An : Option Addr) (cn : Nat) (names : List ByteArray) (w : World) (hrl : Kd.C k25 w Al l.length l) (hrn : Kd.C Kd.string w An names.length names) (hcn : names.length ≤ cn)
    (hll : l.length ≤ 100000) (hn : names.length ≤ 1000) (hok : ∀ T ∈ l, okT1 T = true) :
    Calls Try.prog 21 #[.slice Al l.length cl, .slice An names.length cn] w fun e w' => ∃ v : Value, e = .returned v ∧ Kd.R Kd.string 9 w' w.heap.size (fun _ => True) v (inferR l names) ∧ Below w.heap.size w w' := by
  obtain ⟨W0, hW0⟩ : ∃ W0, Aside0 (w.alloc (.cells #[.slice Al l.length cl] 29 (0, 0)) = W0) := ⟨_, ⟨rfl⟩⟩
  have HB0 : Aside0 (Below w.heap.size w W0) := ⟨by rw [← hW0.out]; exact below_alloc (Below.refl _ _) _⟩
  have HT : Aside0 (W0.heap[w.heap.size]? = some (.cells #[.slice Al l.length cl] 29 (0, 0))) := ⟨by rw [← hW0.out]; exact blk_new w _⟩
  have HR := Aside0.mk (And.intro (Kd.C_below hrl HB0.out) (Kd.C_below hrn HB0.out))
  have HOK := Aside0.mk hok
  have hw0 : w.heap.size < W0.heap.size := by rw [← hW0.out, World.size_alloc]; omega
  clear hrl hrn hok
  refine (callsIn_wide (n := 10)).1 ?_
  refine callsIn_of_wp_marks Try.func21 rfl trivial (wpIn_wide.2 ?_) rfl
  simp only [Try.ntmps21, List.size_toArray, List.length_cons, List.length_nil, Nat.reduceAdd, Nat.reduceSub, Array.replicate_succ, Array.replicate_zero, List.push_toArray, List.append_toArray, List.nil_append, List.cons_append]
  go_wp2
  go_step3
  go_wp2
  rw [hW0.out]
  go_loopw [5, 14] (fun vc vi wr => ∃ i : Nat, vi = .int .i64 i ∧ i ≤ names.length ∧ Aside0 (Kd.R Kd.string 9 wr W0.heap.size (fun _ => True) vc ((names.take i).foldl (candS l) [])) ∧ Aside0 (Below W0.heap.size W0 wr))
    (fun _ vi _ => names.length - (intOf vi).toNat)
  case atStart => exact ⟨0, rfl, Nat.zero_le _, ⟨Kd.R_nil _ _ _ _ _⟩, ⟨Below.refl _ _⟩⟩
  case round =>
    obtain ⟨i, rfl, hi, HC, HB⟩ := hrel
    have hszr := HB.out.size
    by_cases hlt : i < names.length
    · have hltI : (i : Int) < (names.length : Int) := by omega
      obtain ⟨ad, eA, hx⟩ := Kd.at_string (Kd.C_below HR.out.2 HB.out) (i : Int) (by omega) (by omega)
      cases eA
      rw [show ((i : Int)).toNat = i from rfl] at hx
      obtain ⟨name, hname⟩ : ∃ name, Aside0 (rdOf ByteArray.empty names (i : Int) = name) := ⟨_, ⟨rfl⟩⟩
      rw [hname.out] at hx
      have Htk : Aside0 ((names.take (i + 1)).foldl (candS l) [] = candS l ((names.take i).foldl (candS l) []) name) := ⟨by
        rw [List.take_succ_eq_append_getElem hlt, List.foldl_append, ← hname.out]
        unfold rdOf
        rw [show ((i : Int)).toNat = i from rfl, List.getD_eq_getElem?_getD, List.getElem?_eq_getElem hlt]; rfl⟩
      have hcl : ((names.take i).foldl (candS l) []).length ≤ 1000 := by
        have := cands_len l (names.take i) []
        rw [List.length_take, List.length_nil] at this
        omega
      obtain ⟨cand, hcand⟩ : ∃ cand, (names.take i).foldl (candS l) [] = cand := ⟨_, rfl⟩
      rw [hcand] at Htk HC hcl
      clear hcand
      obtain ⟨Ac, cc, rfl, hcc, hCC⟩ := Kd.R_reads HC.out
      have HCC := Aside0.mk hCC
      clear hCC
      obtain ⟨W1, hW1⟩ : ∃ W1, Aside0 (wr.alloc (.cells #[.string name] 9 (0, 0)) = W1) := ⟨_, ⟨rfl⟩⟩
      have HB1 : Aside0 (Below wr.heap.size wr W1) := ⟨by rw [← hW1.out]; exact below_alloc (Below.refl _ _) _⟩
      have HN1 : Aside0 (W1.heap[wr.heap.size]? = some (.cells #[.string name] 9 (0, 0))) := ⟨by rw [← hW1.out]; exact blk_new wr _⟩
      have HK := Aside0.mk (contains_calls Ac cc cand name W1 (Kd.C_below HCC.out HB1.out) hcc (by omega))
      cases hin : inB cand name with
      | true =>
        rw [hin] at HK
        have HE : Aside0 (candS l cand name = cand) := ⟨by unfold candS; rw [if_pos hin]⟩
        clear hin
        go_wp2_with (go_at_call 51; rw [hW1.out]; refine HK.out.mono ?_; rintro e w1 ⟨rfl, hd⟩; have HD1 := Aside0.mk (below_step HB1.out hd.below); clear hd)
        go_roundw
        case rel => exact ⟨i + 1, by go_num, by omega, ⟨by rw [Htk.out, HE.out]; exact Kd.R_below HC.out HD1.out⟩, ⟨below_step HB.out HD1.out⟩⟩
        case measure => simp [intOf]; omega
      | false =>
        rw [hin] at HK
        cases han : l.any fun T => lacks T name with
        | true =>
          have HE : Aside0 (candS l cand name = cand) := ⟨by unfold candS; rw [if_neg (by rw [hin]; decide), if_pos han]⟩
          have han2 := Aside0.mk han
          clear hin han
          go_wp2_with (first
            | (go_at_call 51; rw [hW1.out]; refine HK.out.mono ?_; rintro e w1 ⟨rfl, hd⟩; have HD1 := Aside0.mk (below_step HB1.out hd.below); have HN2 := Aside0.mk (blk_below HN1.out hd.below); have hT1 := blk_cell (blk_below HT.out (below_step HB.out HD1.out)) 0; clear hd)
            | (go_at_call 52; refine (any_inf Al cl l name wr.heap.size w1 HN2.out (Kd.C_below HR.out.1 (below_step HB.out HD1.out)) hll (fun T hT => okT1_h (HOK.out T hT))).mono ?_; rw [han2.out]; rintro e w2 ⟨rfl, hd⟩; have HD2 := Aside0.mk (below_step HD1.out hd); clear hd))
          go_roundw
          case rel => exact ⟨i + 1, by go_num, by omega, ⟨by rw [Htk.out, HE.out]; exact Kd.R_below HC.out HD2.out⟩, ⟨below_step HB.out HD2.out⟩⟩
          case measure => simp [intOf]; omega
        | false =>
          have HE : Aside0 (candS l cand name = cand ++ [name]) := ⟨by unfold candS; rw [if_neg (by rw [hin]; decide), if_neg (by rw [han]; decide)]⟩
          have han2 := Aside0.mk han
          clear hin han
          go_wp2_with (first
            | (go_at_call 51; rw [hW1.out]; refine HK.out.mono ?_; rintro e w1 ⟨rfl, hd⟩; have HD1 := Aside0.mk (below_step HB1.out hd.below); have HN2 := Aside0.mk (blk_below HN1.out hd.below); have hT1 := blk_cell (blk_below HT.out (below_step HB.out HD1.out)) 0; clear hd)
            | (go_at_call 52; refine (any_inf Al cl l name wr.heap.size w1 HN2.out (Kd.C_below HR.out.1 (below_step HB.out HD1.out)) hll (fun T hT => okT1_h (HOK.out T hT))).mono ?_; rw [han2.out]; rintro e w2 ⟨rfl, hd⟩; have HD2 := Aside0.mk (below_step HD1.out hd); have hN3 := blk_cell (blk_below HN2.out hd) 0; have HC2 := Aside0.mk (Kd.R_below HC.out HD2.out); have HB2 := Aside0.mk (below_step HB.out HD2.out); have hsz2 := HB2.out.size; clear hd)
            | ((with_reducible refine gate_builtin (b := .append) (xs := #[.tmp 29, .tmp 31]) rfl ?_); at_builtin; refine Kd.R_append Kd.string (w0 := W0) W0.heap.size rfl (.tmp 29) (.tmp 31) 22 9 (.string ⟨#[]⟩) 16 rfl Try.underlying22 info9 rfl (by decide) (by omega) (.slice Ac cand.length cc) cand name [.string name] (fun _ => True) (fun _ => False) rfl rfl ?aP (fun _ hk => hk.elim) (fun _ _ => trivial) HC2.out HB2.out hsz2 ?aL ?_; (case aP => exact rfl); (case aL => omega); intro v1 w3 ho hb hg hat; have HO3 := Aside0.mk ho; have HB3 := Aside0.mk hb; clear ho hb hg hat))
          go_roundw
          case rel => exact ⟨i + 1, by go_num, by omega, ⟨by rw [Htk.out, HE.out]; exact HO3.out⟩, ⟨HB3.out⟩⟩
          case measure => simp [intOf]; omega
    · obtain rfl : i = names.length := by omega
      rw [List.take_length] at HC
      have HC2 : Aside0 (Kd.R Kd.string 9 wr W0.heap.size (fun _ => True) u5 (candR l names)) := ⟨HC.out⟩
      have hcl : (candR l names).length ≤ 1000 := by
        have := cands_len l names []
        rw [List.length_nil] at this
        unfold candR
        omega
      clear HC
      obtain ⟨Ac, cc, rfl, hcc, hCC⟩ := Kd.R_reads HC2.out
      have hownc := Kd.own_of_R HC2.out
      obtain ⟨wB, hWB⟩ : ∃ wB, Aside0 (wr.alloc (.cells #[.slice none 0 0] 22 (0, 0)) = wB) := ⟨_, ⟨rfl⟩⟩
      have HBB : Aside0 (Below wr.heap.size wr wB) := ⟨by rw [← hWB.out]; exact below_alloc (Below.refl _ _) _⟩
      have hszB : wB.heap.size = wr.heap.size + 1 := by rw [← hWB.out, World.size_alloc]
      have HNB : Aside0 (wB.heap[wr.heap.size]? = some (.cells #[.slice none 0 0] 22 (0, 0))) := ⟨by rw [← hWB.out]; exact blk_new wr _⟩
      have HSC : Aside0 (StR wr.heap.size wB Ac (candR l names)) := ⟨⟨Kd.C_below hCC HBB.out, fun ad' h0 e' => by
        have h9 := own_lt hownc ad'.block (by
          obtain ⟨g, cap, h8, _⟩ := hownc.form h0
          injection h8 with h8
          rw [h8] at e'
          cases e'
          rw [h8]; rfl)
        omega⟩⟩
      have HLO : Aside0 (∀ V, Below W0.heap.size wB V → Below W0.heap.size W0 V) := ⟨fun V hV => (HB.out.trans (HBB.out.mono hszr)).trans hV⟩
      clear hownc hCC HC2
      go_wp2
      go_step3
      go_wp2
      rw [hWB.out]
      refine wp_loop (fun a' V => ∃ (n : Nat) (u10 x34 x35 x36 x37 x38 x39 x40 : Value) (ds : List Deferred), (1 ≤ n ∧ n ≤ 4 ∧ u10 = .int .i64 (n : Int) ∧ Aside0 (MarksAt wB.heap.size V.heap.size ds V) ∧ Aside0 (V.heap[wr.heap.size]? = some (.cells #[.slice none 0 0] 22 (0, 0))) ∧ Aside0 (CK W0.heap.size wr.heap.size wB V) ∧ Aside0 (∀ k, 1 ≤ k → k < n → ∀ x ∈ cho k (candR l names), usableR l x = false) ∧ wB.heap.size ≤ V.heap.size) ∧ a' = { tmps := #[Value.slice Al l.length cl, Value.slice An names.length cn, Value.pointer (some ⟨w.heap.size, 0, none⟩), undef, Value.slice none 0 0, Value.slice Ac (candR l names).length cc, undef, u7, u8, Value.pointer (some ⟨wr.heap.size, 0, none⟩), u10, undef, Value.slice An names.length cn, Value.int IntKind.i64 (names.length : Int), Value.int IntKind.i64 (names.length : Int), Value.bool false, u16, u17, u18, u19, u20, u21, u22, u23, u24, u25, u26, u27, u28, u29, u30, u31, u32, u33, x34, x35, x36, x37, x38, x39, x40, undef, undef, undef, undef, undef, undef], defers := ds }) (fun a' _ => 4 - (intOf (a'.tmps.getD 10 undef)).toNat) ?start ?round
      case start => exact ⟨1, .int .i64 1, undef, undef, undef, undef, undef, undef, undef, [], ⟨Nat.le_refl _, by omega, rfl, ⟨MarksAt.nil _ _ _⟩, HNB, ⟨CK.below (Below.refl _ _) (by omega)⟩, ⟨fun k h1 h2 => by omega⟩, Nat.le_refl _⟩, rfl⟩
      case round =>
        rintro _ V ⟨n, u10, x34, x35, x36, x37, x38, x39, x40, ds, ⟨hn1, hn4, hv, HM, HNV, HCK, HNO, hsV⟩, rfl⟩
        subst hv
        by_cases hn3 : n ≤ 3
        · have hnI : (n : Int) ≤ 3 := by omega
          go_wp2_with (go_at_call 53; refine (choices_calls none 0 0 Ac cc (candR l names).length (n : Int) _).mono ?_; rintro e w8 ⟨Bi2, Bh2, Br2, rfl, h1, h2, h3, hlo, hb8⟩; have HL8 := Aside0.mk (And.intro h1 (And.intro h2 (And.intro h3 hlo))); have HB8 := Aside0.mk hb8; clear h1 h2 h3 hlo hb8)
          have hsz8 := HB8.out.size
          have hlo := HL8.out.2.2.2
          have hBn8 : wr.heap.size < w8.heap.size := by omega
          have hn8 : W0.heap.size ≤ w8.heap.size := by omega
          have HS8 : Aside0 (ChS wr.heap.size Bi2 Bh2 Br2 (n : Int) none 0 [] Ac cc (candR l names) w8) := ⟨⟨HL8.out.1, HL8.out.2.1, HL8.out.2.2.1, ⟨by omega, by omega, by omega⟩, Nat.le_refl _, hcc, ⟨⟨rfl, by simp, fun h => absurd h (by simp)⟩, fun _ h => absurd h (by simp)⟩, (HSC.out.ck HCK.out).ck (CK.below (n₀ := V.heap.size) HB8.out (Nat.le_refl _))⟩⟩
          have HSQ := Aside0.mk (SeqRd.of (n₀ := W0.heap.size) (Bn := wr.heap.size) (fd := 9) (Bi := Bi2) (Bh := Bh2) (Br := Br2) (full := (cho n (candR l names)).map ([] ++ ·)) (N := (cho n (candR l names)).length) (w := w8) (fun l2 J2 Jx2 W2 hW2 hJ2 hJx2 hY2 h02 => choose_calls W0.heap.size wr.heap.size n Bi2 Bh2 Br2 none 0 [] Ac cc (candR l names) l2 J2 Jx2 W2 (Nat.le_trans hn8 hW2.size) (Nat.lt_of_lt_of_le hBn8 hW2.size) (by simp; omega) hcl (HS8.out.below hW2) hJ2 hJx2 hY2 h02))
          have HN8 := Aside0.mk (blk_below HNV.out HB8.out)
          have HC8 : Aside0 (CK W0.heap.size wr.heap.size wB w8) := ⟨HCK.out.trans (CK.below HB8.out (by omega))⟩
          have HM8 : Aside0 (MarksAt wB.heap.size w8.heap.size ds w8) := ⟨(HM.out.grown (grown_belowC HB8.out) (by simp)).up hsz8⟩
          have hw8 : wB.heap.size ≤ w8.heap.size := by omega
          clear HL8 HB8 HS8 HNV HCK HM hlo hsz8 HSC
          refine (wpIn_wide (n := 10)).1 ?_
          refine range_rd (F := Fence.wide) (n := 10) rfl (by decide) (gf := 73) (lb := #[.pointer (some ⟨Bi2, 0, none⟩), .pointer (some ⟨Bh2, 0, none⟩), .pointer (some ⟨Br2, 0, none⟩)]) rfl trivial (fun args w => enters_ Try.func73 (by kernel_rfl) rfl args w) HSQ.out CK.trans (fun W l o o' => CK.put (w := w8) hn8 W l o o') (Below.refl _ _) (fun _ => rfl)
            (fun pre V => V.heap[wr.heap.size]? = some (.cells #[.slice none 0 0] 22 (0, 0)) ∧ CK W0.heap.size wr.heap.size wB V ∧ MarksAt wB.heap.size w8.heap.size ds V ∧ (∀ x ∈ pre, usableR l x.1 = false) ∧ w8.heap.size ≤ V.heap.size)
            (fun cd pre V => cd = .exit 2 ∧ MarksAt wB.heap.size w8.heap.size ds V ∧ Below W0.heap.size wB V ∧ ∃ pre0 x, pre = pre0 ++ [x] ∧ (∀ y ∈ pre0, usableR l y.1 = false) ∧ usableR l x.1 = true ∧ V.heap[wr.heap.size]? = some (.cells #[x.2] 22 (0, 0)) ∧ RdS W0.heap.size wr.heap.size x V)
            ?hI ?hIx (RdS.own hn8) ⟨HN8.out, HC8.out, HM8.out, (fun x hx => by cases hx), Nat.le_refl _⟩
            (fun x => { tmps := #[Value.slice Al l.length cl, Value.slice An names.length cn, Value.pointer (some ⟨w.heap.size, 0, none⟩), undef, Value.slice none 0 0, Value.slice Ac (candR l names).length cc, undef, u7, u8, Value.pointer (some ⟨wr.heap.size, 0, none⟩), Value.int IntKind.i64 n, x.2, Value.slice An names.length cn, Value.int IntKind.i64 (names.length : Int), Value.int IntKind.i64 (names.length : Int), Value.bool false, u16, u17, u18, u19, u20, u21, u22, u23, u24, u25, u26, u27, u28, u29, u30, u31, u32, u33, Value.int IntKind.i64 n, Value.bool true, x36, x37, Value.slice Ac (candR l names).length cc, Value.int IntKind.i64 n, Value.func (Fn.func 73) #[] #[Value.pointer (some ⟨Bi2, 0, none⟩), Value.pointer (some ⟨Bh2, 0, none⟩), Value.pointer (some ⟨Br2, 0, none⟩)], x.2, undef, undef, undef, undef, undef], defers := [] }) ?assign ?body ?done ?stop
          case hI =>
            rintro s A B row ⟨g1, g2, g3, g4, g5⟩ hg hr
            refine ⟨?_, g2.trans (CK.grown hn8 (by omega) hg hr), g3.grown hg (fun r e => (hr r e).1), g4, Nat.le_trans g5 hg.size⟩
            rw [hg.block _ (lt_of_blockC g1) (fun e => by have := (hr _ e.symm).1; omega)]
            exact g1
          case hIx =>
            rintro cd s A B row ⟨g1, g2, g3, pre0, x, g4, g5, g6, g7, g8⟩ hg hr
            have hz := lt_of_blockC g7
            refine ⟨g1, g2.grown hg (fun r e => (hr r e).1), g3.trans (CK.grown (Bn := wr.heap.size) hn8 (by omega) hg hr).1, pre0, x, g4, g5, g6, ?_, RdS.own hn8 _ _ _ _ g8 hg hr⟩
            rw [hg.block _ (lt_of_blockC g7) (fun e => by have := (hr _ e.symm).1; omega)]
            exact g7
          case assign =>
            intro l2 x V K hK
            gi_wp2
            exact hK
          case body =>
            rintro l2 pre ⟨s, v⟩ V8 ⟨g1, g2, g3, g4, g5⟩ hrd hpl
            obtain ⟨Ax, cx, ex, hcx, hCx⟩ := Kd.R_reads (Kd.R_of_own (ok := fun _ => True) (h1 := fun _ => rfl) hrd.1 (fun _ _ => trivial))
            dsimp only at ex hcx hCx
            subst ex
            have HG := Aside0.mk (And.intro g1 (And.intro g2 (And.intro g3 (And.intro g4 (And.intro hrd hCx)))))
            have hsl : s.length ≤ 1000 := hrd.2.2
            have hx0 := blk_cell (blk_below HT.out (HLO.out V8 g2.1)) 0
            have HK := Aside0.mk (usable_calls Al cl l Ax cx s V8 (Kd.C_below HR.out.1 (HLO.out V8 g2.1)) hCx hcx hll (by omega) HOK.out)
            clear g1 g2 g3 g4 hrd hCx
            cases hu : usableR l s with
            | false =>
              rw [hu] at HK
              have HU := Aside0.mk hu
              clear hu
              gi_wp2_with (refine ⟨trivial, CallsIn.mono (CallsIn.inRound l2 (callsIn_wide.2 HK.out)) ?_⟩; rintro e V9 ⟨rfl, hd⟩; have HD := Aside0.mk hd; clear hd)
              exact ⟨KeepsFrom.of_grownBy (grown_belowC HD.out) (by simp), CK.below HD.out (by omega), blk_below HG.out.1 HD.out, HG.out.2.1.trans (CK.below HD.out (by omega)), HG.out.2.2.1.grown (grown_belowC HD.out) (by simp), (fun x hx => by
                rcases List.mem_append.1 hx with h | h
                · exact HG.out.2.2.2.1 x h
                · rw [List.mem_singleton.1 h]; exact HU.out), Nat.le_trans g5 HD.out.size⟩
            | true =>
              rw [hu] at HK
              have HU := Aside0.mk hu
              clear hu
              gi_wp2_with (refine ⟨trivial, CallsIn.mono (CallsIn.inRound l2 (callsIn_wide.2 HK.out)) ?_⟩; rintro e V9 ⟨rfl, hd⟩; have HD := Aside0.mk hd; have hy0 := blk_cell (blk_below HG.out.1 HD.out) 0; have hf0 := blk_frozen (blk_below HG.out.1 HD.out) 0; clear hd)
              have hrd := HG.out.2.2.2.2.1.ck (CK.below (n₀ := W0.heap.size) (Bn := wr.heap.size) HD.out (by omega))
              exact ⟨(KeepsFrom.of_grownBy (grown_belowC HD.out) (by simp)).trans ((KeepsOthers.setCell _ _ _).from _), rfl, (HG.out.2.2.1.grown (grown_belowC HD.out) (by simp)).keep ((KeepsOthers.setCell _ _ _).from _), (HG.out.2.1.1.trans (HD.out.mono (by omega))).setCell (p := ⟨wr.heap.size, 0, none⟩) hszr _, pre, (s, .slice Ax s.length cx), rfl, HG.out.2.2.2.1, HU.out, heap_setCell_same V9 wr.heap.size 0 _ _ _ (blk_below HG.out.1 HD.out), Own.far hrd.1 (fun k hk => hrd.2.1 k hk), hrd.2⟩
          case done =>
            rintro D xs V9 hD hSx ⟨g1, g2, g3, g4, g5⟩ hmark
            have HG := Aside0.mk (And.intro g1 (And.intro g2 (g3.more hw8 hD hmark)))
            have HSX : Aside0 (∀ k, 1 ≤ k → k < n + 1 → ∀ x ∈ cho k (candR l names), usableR l x = false) := ⟨fun k h1 h2 x hx => by
              rcases Nat.lt_or_ge k n with h3 | h3
              · exact HNO.out k h1 h3 x hx
              · obtain rfl : k = n := by omega
                have e : (cho k (candR l names)).map ([] ++ ·) = cho k (candR l names) := by simp
                rw [e] at hSx
                rw [← hSx] at hx
                obtain ⟨y, hy, rfl⟩ := List.mem_map.1 hx
                exact g4 y hy⟩
            clear g1 g2 g3 g4 hmark hSx
            gi_wp2
            go_wp2
            refine ⟨⟨n + 1, _, _, _, _, _, _, _, _, mkD D :: ds, ⟨by omega, by omega, by go_num, ⟨HG.out.2.2⟩, ⟨HG.out.1⟩, ⟨HG.out.2.1⟩, HSX, by omega⟩, rfl⟩, ?_⟩
            simp [intOf]; omega
          case stop =>
            rintro D cd pre V9 hD hSp ⟨rfl, g1, g2, pre0, ⟨s, v⟩, rfl, g5, g6, g7, g8⟩ hmark
            have HM9 := Aside0.mk (g1.more hw8 hD hmark)
            have hb : bestR l (candR l names) = s := best_found l _ n hn1 hn3 HNO.out (pre0.map Prod.fst) s (by
              have e : (cho n (candR l names)).map ([] ++ ·) = cho n (candR l names) := by simp
              rw [e, List.map_append] at hSp
              exact hSp) (fun y hy => by obtain ⟨z, hz, rfl⟩ := List.mem_map.1 hy; exact g5 z hz) g6
            have HE := Aside0.mk (And.intro hb (And.intro g2 g8))
            have hy0 := blk_cell g7 0
            clear g1 g2 g5 g6 g7 g8 hSp hmark hb
            gi_wp2
            dsimp +zetaDelta only [Exit.then, Exit.inBlock]
            go_wp2
            try rw [Exit.noGoto_ret]
            exact HM9.out.leave (fun V => results_tmp rfl _ _ V) (fun _ V => RdS W0.heap.size wr.heap.size (s, v) V ∧ Below w.heap.size w V) (fun q A B row hs hg hr => ⟨RdS.own (by omega) _ _ _ _ hs.1 hg hr, hs.2.grown hg hs.2.size (fun k e => by have := (hr k e).1; omega)⟩) (fun V hj => ⟨_, rfl, by show Kd.R _ _ _ _ _ v (inferR l names); unfold inferR; rw [HE.out.1]; exact Kd.R_of_own (h1 := fun _ => rfl) (own_weaken hj.1.1 (by omega)) (fun _ _ => trivial), hj.2⟩) ⟨HE.out.2.2, HB0.out.trans ((HLO.out V9 HE.out.2.1).mono (by omega))⟩
        · obtain rfl : n = 4 := by omega
          have hy0 := blk_cell HNV.out 0
          have HE := Aside0.mk (best_none l (candR l names) HNO.out)
          go_wp2
          rw [Exit.noGoto_ret]
          exact HM.out.leave (fun V => results_tmp rfl _ _ V) (fun _ V => Below w.heap.size w V) (fun q A B row hs hg hr => hs.grown hg hs.size (fun k e => by have := (hr k e).1; omega)) (fun V hj => ⟨_, rfl, by show Kd.R _ _ _ _ _ (Value.slice none 0 0) (inferR l names); unfold inferR; rw [HE.out]; exact Kd.R_nil _ _ _ _ _, hj⟩) (HB0.out.trans ((HLO.out V HCK.out.1).mono (by omega)))
end Go.Proofs.Ytbcpaojciephmaa.X
end
section
namespace Go.Proofs.Ytbcpaojciephmaa.X
open Go.RowKit Go.Maps Go.Proofs.YtbcpaojciephmaaW.PrintWords Go.Proofs.YtbcpaojciephmaaW.PrintLast Go.Proofs.YtbcpaojciephmaaW.PrintMore
set_option linter.unusedVariables false
/-- The key that is asked for, or the least one. -/
def keyOfR (l : List TS) (names : List ByteArray) : List ByteArray := if usableR l names = true then names else match l with
  | [] => []
  | T :: _ => inferR l T.f0
theorem keyOf_first {l : List TS} {names : List ByteArray} (hu : usableR l names = false) (h : 0 < l.length) : keyOfR l names = inferR l (rd_T25 l ((0 : Nat) : Int)).f0 := by
  unfold keyOfR
  rw [if_neg (by rw [hu]; decide)]
  cases l with
  | nil => exact absurd h (by simp)
  | cons T r => rfl
set_option maxRecDepth 100000 in
set_option maxHeartbeats 1600000 in
theorem keyOf_calls (Al : Option Addr) (cl : Nat) (l : List TS) (An : Option Addr) (cn : Nat) (names : List ByteArray) (w : World) (hrl : Kd.C k25 w Al l.length l) (hrn : Kd.C Kd.string w An names.length names) (hcn : names.length ≤ cn)
    (hll : l.length ≤ 100000) (hn : names.length ≤ 1000) (hok : ∀ T ∈ l, okT1 T = true) (hh : ∀ T ∈ l, T.f0.length ≤ 1000) :
    Calls Try.prog 23 #[.slice Al l.length cl, .slice An names.length cn] w fun e w' => ∃ v : Value, e = .returned v ∧ Kd.R Kd.string 9 w' w.heap.size (fun _ => True) v (keyOfR l names) ∧ Below w.heap.size w w' := by
  have HK := Aside0.mk (usable_calls Al cl l An cn names w hrl hrn hcn hll (by omega) hok)
  have HR := Aside0.mk (And.intro hrl hrn)
  have HOK := Aside0.mk (And.intro hok hh)
  clear hrl hrn hok hh
  cases hu : usableR l names with
  | true =>
    rw [hu] at HK
    have HE : Aside0 (keyOfR l names = names) := ⟨by unfold keyOfR; rw [if_pos hu]⟩
    clear hu
    go_enter Try.func23, Try.ntmps23
    go_wp2_with (first
      | (go_at_call 25; refine HK.out.mono ?_; rintro e w1 ⟨rfl, hd⟩; have HD := Aside0.mk hd; clear hd)
      | (go_at_call 56; refine (clone_calls An cn names w1 (Kd.C_below HR.out.2 HD.out) hcn (by omega)).mono ?_; rintro e w2 ⟨v, rfl, ho, hd⟩; have HO := Aside0.mk (Kd.R_lower ho HD.out.size); have HD2 := Aside0.mk (below_step HD.out hd); clear ho hd))
    go_ret
    exact ⟨_, rfl, by rw [HE.out]; exact HO.out, HD2.out⟩
  | false =>
    rw [hu] at HK
    by_cases h0 : 0 < l.length
    · have HE := Aside0.mk (keyOf_first hu h0)
      have hm : rd_T25 l ((0 : Nat) : Int) ∈ l := by
        unfold rd_T25
        rw [show (((0 : Nat) : Int)).toNat = 0 from rfl, List.getD_eq_getElem?_getD, List.getElem?_eq_getElem h0]; exact List.getElem_mem h0
      have hl0 : ((l.length : Int) == 0) = false := by rw [beq_eq_false_iff_ne]; omega
      have hl1 : (0 : Int) < (l.length : Int) := by omega
      obtain ⟨ad, A0, c0, A1, c1, eA, hx0, hx1, hc0, hC0, hc1, hC1⟩ := tabAt_use HR.out.1 h0
      cases eA
      have hhd := HOK.out.2 _ hm
      rw [Nat.zero_mul, show ad.add 0 = ad by simp [Addr.add]] at hx0 hx1
      rw [HE.out]
      generalize (rd_T25 l ((0 : Nat) : Int)).f0 = hd0 at *
      have HX := Aside0.mk (And.intro hx0 hC0)
      clear hu hx0 hx1 hC0 hC1 hm HE
      go_enter Try.func23, Try.ntmps23
      go_wp2_with (first
        | (go_at_call 25; refine HK.out.mono ?_; rintro e w1 ⟨rfl, hd⟩; have HD := Aside0.mk hd; have hy0 := (hd.cell (World.block_lt_of_cell? w _ HX.out.1)).trans HX.out.1; clear hd)
        | (go_at_call 21; refine (infer_calls (some ad) cl l A0 c0 hd0 w1 (Kd.C_below HR.out.1 HD.out) (Kd.C_below HX.out.2 HD.out) hc0 hll hhd HOK.out.1).mono ?_; rintro e w2 ⟨v, rfl, ho, hd⟩; have HO := Aside0.mk (Kd.R_lower ho HD.out.size); have HD2 := Aside0.mk (below_step HD.out hd); clear ho hd))
      go_ret
      exact ⟨_, rfl, HO.out, HD2.out⟩
    · have HE : Aside0 (keyOfR l names = []) := ⟨by
        unfold keyOfR
        rw [if_neg (by rw [hu]; decide)]
        obtain rfl : l = [] := List.eq_nil_of_length_eq_zero (by omega)
        rfl⟩
      have hl0 : ((l.length : Int) == 0) = true := by rw [beq_iff_eq]; omega
      clear hu h0
      go_enter Try.func23, Try.ntmps23
      go_wp2_with (go_at_call 25; refine HK.out.mono ?_; rintro e w1 ⟨rfl, hd⟩; have HD := Aside0.mk hd; clear hd)
      go_ret
      exact ⟨_, rfl, by rw [HE.out]; exact Kd.R_nil _ _ _ _ _, HD.out⟩
end Go.Proofs.Ytbcpaojciephmaa.X
end
section
namespace Go.Proofs.Ytbcpaojciephmaa.X
open Go.RowKit Go.Maps Go.Proofs.YtbcpaojciephmaaW.PrintWords Go.Proofs.YtbcpaojciephmaaW.PrintLast Go.Proofs.YtbcpaojciephmaaW.PrintMore
set_option linter.unusedVariables false
abbrev hW : List ByteArray := [(⟨#[97]⟩ : ByteArray), (⟨#[98]⟩ : ByteArray)]
abbrev tW : TS := ⟨hW, [[(⟨#[49]⟩ : ByteArray), (⟨#[120]⟩ : ByteArray)], [(⟨#[49]⟩ : ByteArray), (⟨#[121]⟩ : ByteArray)]]⟩
abbrev uW : TS := ⟨hW, [[(⟨#[49]⟩ : ByteArray), (⟨#[120]⟩ : ByteArray)], [(⟨#[49]⟩ : ByteArray), (⟨#[121]⟩ : ByteArray)], [(⟨#[50]⟩ : ByteArray), (⟨#[120]⟩ : ByteArray)]]⟩
abbrev vW : TS := ⟨hW, [[(⟨#[49]⟩ : ByteArray), (⟨#[120]⟩ : ByteArray)], [(⟨#[49]⟩ : ByteArray), (⟨#[120]⟩ : ByteArray)]]⟩
theorem inf_t : inferR [tW] hW = [(⟨#[98]⟩ : ByteArray)] := by kernel_rfl
theorem inf_u : inferR [uW] hW = hW := by kernel_rfl
theorem inf_v : inferR [vW] hW = [] := by kernel_rfl
theorem of_t : keyOfR [tW] [(⟨#[97]⟩ : ByteArray)] = [(⟨#[98]⟩ : ByteArray)] := by kernel_rfl
theorem pl_t : placesR hW [(⟨#[98]⟩ : ByteArray)] = ([1], true) := by kernel_rfl
theorem un_tf : keys_Unique.f hW tW.f1 [1] = some true := by kernel_rfl
theorem un_nf : keys_Unique.f hW tW.f1 [] = some false := by kernel_rfl
theorem us_b : usableR [tW] [(⟨#[98]⟩ : ByteArray)] = true := by kernel_rfl
theorem us_c : usableR [tW] [(⟨#[99]⟩ : ByteArray)] = false := by kernel_rfl
theorem ok_t : ∀ T ∈ [tW], okT1 T = true := by intro T hT; rw [List.mem_singleton.1 hT]; kernel_rfl
theorem ok_u : ∀ T ∈ [uW], okT1 T = true := by intro T hT; rw [List.mem_singleton.1 hT]; kernel_rfl
theorem ok_v : ∀ T ∈ [vW], okT1 T = true := by intro T hT; rw [List.mem_singleton.1 hT]; kernel_rfl
theorem hd_t : ∀ T ∈ [tW], T.f0.length ≤ 1000 := by intro T hT; rw [List.mem_singleton.1 hT]; decide
theorem rowW (A0 : Option Addr) (c0 : Nat) (l0 : List ByteArray) (A1 : Option Addr) (c1 : Nat) (w : World) (hr0 : Kd.C Kd.string w A0 l0.length l0) (hc0 : l0.length ≤ c0) (hr1 : Kd.C Kd.string w A1 l0.length l0) (hc1 : l0.length ≤ c1) (h : tartanref03_Row.f 100 l0 l0 = some true) :
    Calls Try.prog 20 #[.slice A0 l0.length c0, .slice A1 l0.length c1] w fun e w' => e = .returned (.bool true) ∧ Below w.heap.size w w' :=
  (tartanref03_Row.calls 100 A0 c0 l0 A1 c1 l0 true w hr0 hc0 hr1 hc1 h).mono (fun e w' h => ⟨h.1, h.2.below⟩)
theorem row_b : tartanref03_Row.f 100 [(⟨#[98]⟩ : ByteArray)] [(⟨#[98]⟩ : ByteArray)] = some true := by kernel_rfl
theorem row_h : tartanref03_Row.f 100 hW hW = some true := by kernel_rfl
theorem blk_atk {W : World} {o : Obj} {k : Nat} (h : k = W.heap.size) : (W.alloc o).heap[k]? = some o := by subst h; exact blk_new W o
theorem C_noI (W : World) : Kd.C (Kd.int .i64) W none 0 [] := ⟨rfl, by decide, fun h => absurd h (by decide)⟩
theorem C_oneI {W : World} {g : Nat} {t : TypeId} {i : Int} (h : W.heap[g]? = some (.cells #[.int .i64 i] t (0, 0))) : Kd.C (Kd.int .i64) W (some ⟨g, 0, none⟩) 1 [i] := by
  refine ⟨rfl, by decide, fun _ => ⟨_, rfl, fun j p hj => ?_⟩⟩
  have hj0 : j = 0 := by
    rcases j with _ | j
    · rfl
    · simp at hj
  subst hj0
  simp at hj
  subst hj
  refine ⟨[.int .i64 i], rfl, rfl, fun k u hu => ?_⟩
  rw [Nat.zero_mul, Nat.zero_add, addr_off]
  rcases k with _ | k
  · simp at hu; subst hu; exact blk_cell h 0
  · simp at hu
set_option maxRecDepth 100000 in
set_option maxHeartbeats 8000000 in
theorem works_calls (w : World) : Calls Try.prog 13 #[] w fun e w' => e = .returned (.bool true) ∧ Below w.heap.size w w' := by
  have HB := Aside0.mk (Below.refl w.heap.size w)
  have st0 : True := trivial
  go_enter Try.func13, Try.ntmps13
  go_wp2_with (first
    | (go_at_call 21; clear st0; refine name_world (fun x29 hx => ?_); have f1 : Aside0 (x29.heap[w.heap.size]? = some (.cells #[.string (⟨#[97]⟩ : ByteArray), .string (⟨#[98]⟩ : ByteArray)] 9 (0, 0))) := ⟨by rw [← hx]; exact (blk_alloc (blk_alloc (blk_alloc (blk_alloc (blk_alloc (blk_alloc (blk_alloc (blk_alloc (blk_alloc (blk_alloc (blk_alloc (blk_alloc (blk_alloc (blk_alloc (blk_alloc (blk_alloc (blk_atk rfl) _) _) _) _) _) _) _) _) _) _) _) _) _) _) _) _)⟩; have f2 : Aside0 (x29.heap[w.heap.size + 1]? = some (.cells #[.string (⟨#[49]⟩ : ByteArray), .string (⟨#[120]⟩ : ByteArray)] 9 (0, 0))) := ⟨by rw [← hx]; exact (blk_alloc (blk_alloc (blk_alloc (blk_alloc (blk_alloc (blk_alloc (blk_alloc (blk_alloc (blk_alloc (blk_alloc (blk_alloc (blk_alloc (blk_alloc (blk_alloc (blk_alloc (blk_atk (by simp only [World.size_alloc])) _) _) _) _) _) _) _) _) _) _) _) _) _) _) _)⟩; have f3 : Aside0 (x29.heap[w.heap.size + 1 + 1]? = some (.cells #[.string (⟨#[49]⟩ : ByteArray), .string (⟨#[121]⟩ : ByteArray)] 9 (0, 0))) := ⟨by rw [← hx]; exact (blk_alloc (blk_alloc (blk_alloc (blk_alloc (blk_alloc (blk_alloc (blk_alloc (blk_alloc (blk_alloc (blk_alloc (blk_alloc (blk_alloc (blk_alloc (blk_alloc (blk_atk (by simp only [World.size_alloc])) _) _) _) _) _) _) _) _) _) _) _) _) _) _)⟩; have f4 : Aside0 (x29.heap[w.heap.size + 1 + 1 + 1]? = some (.cells #[.slice (some ⟨w.heap.size + 1, 0, none⟩) 2 2, .slice (some ⟨w.heap.size + 1 + 1, 0, none⟩) 2 2] 22 (0, 0))) := ⟨by rw [← hx]; exact (blk_alloc (blk_alloc (blk_alloc (blk_alloc (blk_alloc (blk_alloc (blk_alloc (blk_alloc (blk_alloc (blk_alloc (blk_alloc (blk_alloc (blk_alloc (blk_atk (by simp only [World.size_alloc])) _) _) _) _) _) _) _) _) _) _) _) _) _)⟩; have f5 : Aside0 (x29.heap[w.heap.size + 1 + 1 + 1 + 1]? = some (.cells #[.slice (some ⟨w.heap.size, 0, none⟩) 2 2, .slice (some ⟨w.heap.size + 1 + 1 + 1, 0, none⟩) 2 2] 25 (0, 0))) := ⟨by rw [← hx]; exact (blk_alloc (blk_alloc (blk_alloc (blk_alloc (blk_alloc (blk_alloc (blk_alloc (blk_alloc (blk_alloc (blk_alloc (blk_alloc (blk_alloc (blk_atk (by simp only [World.size_alloc])) _) _) _) _) _) _) _) _) _) _) _) _)⟩; have f6 : Aside0 (x29.heap[w.heap.size + 1 + 1 + 1 + 1 + 1]? = some (.cells #[.string (⟨#[97]⟩ : ByteArray), .string (⟨#[98]⟩ : ByteArray)] 9 (0, 0))) := ⟨by rw [← hx]; exact (blk_alloc (blk_alloc (blk_alloc (blk_alloc (blk_alloc (blk_alloc (blk_alloc (blk_alloc (blk_alloc (blk_alloc (blk_alloc (blk_atk (by simp only [World.size_alloc])) _) _) _) _) _) _) _) _) _) _) _)⟩; have f7 : Aside0 (x29.heap[w.heap.size + 1 + 1 + 1 + 1 + 1 + 1]? = some (.cells #[.string (⟨#[49]⟩ : ByteArray), .string (⟨#[120]⟩ : ByteArray)] 9 (0, 0))) := ⟨by rw [← hx]; exact (blk_alloc (blk_alloc (blk_alloc (blk_alloc (blk_alloc (blk_alloc (blk_alloc (blk_alloc (blk_alloc (blk_alloc (blk_atk (by simp only [World.size_alloc])) _) _) _) _) _) _) _) _) _) _)⟩; have f8 : Aside0 (x29.heap[w.heap.size + 1 + 1 + 1 + 1 + 1 + 1 + 1]? = some (.cells #[.string (⟨#[49]⟩ : ByteArray), .string (⟨#[121]⟩ : ByteArray)] 9 (0, 0))) := ⟨by rw [← hx]; exact (blk_alloc (blk_alloc (blk_alloc (blk_alloc (blk_alloc (blk_alloc (blk_alloc (blk_alloc (blk_alloc (blk_atk (by simp only [World.size_alloc])) _) _) _) _) _) _) _) _) _)⟩; have f9 : Aside0 (x29.heap[w.heap.size + 1 + 1 + 1 + 1 + 1 + 1 + 1 + 1]? = some (.cells #[.string (⟨#[50]⟩ : ByteArray), .string (⟨#[120]⟩ : ByteArray)] 9 (0, 0))) := ⟨by rw [← hx]; exact (blk_alloc (blk_alloc (blk_alloc (blk_alloc (blk_alloc (blk_alloc (blk_alloc (blk_alloc (blk_atk (by simp only [World.size_alloc])) _) _) _) _) _) _) _) _)⟩; have f10 : Aside0 (x29.heap[w.heap.size + 1 + 1 + 1 + 1 + 1 + 1 + 1 + 1 + 1]? = some (.cells #[.slice (some ⟨w.heap.size + 1 + 1 + 1 + 1 + 1 + 1, 0, none⟩) 2 2, .slice (some ⟨w.heap.size + 1 + 1 + 1 + 1 + 1 + 1 + 1, 0, none⟩) 2 2, .slice (some ⟨w.heap.size + 1 + 1 + 1 + 1 + 1 + 1 + 1 + 1, 0, none⟩) 2 2] 22 (0, 0))) := ⟨by rw [← hx]; exact (blk_alloc (blk_alloc (blk_alloc (blk_alloc (blk_alloc (blk_alloc (blk_alloc (blk_atk (by simp only [World.size_alloc])) _) _) _) _) _) _) _)⟩; have f11 : Aside0 (x29.heap[w.heap.size + 1 + 1 + 1 + 1 + 1 + 1 + 1 + 1 + 1 + 1]? = some (.cells #[.slice (some ⟨w.heap.size + 1 + 1 + 1 + 1 + 1, 0, none⟩) 2 2, .slice (some ⟨w.heap.size + 1 + 1 + 1 + 1 + 1 + 1 + 1 + 1 + 1, 0, none⟩) 3 3] 25 (0, 0))) := ⟨by rw [← hx]; exact (blk_alloc (blk_alloc (blk_alloc (blk_alloc (blk_alloc (blk_alloc (blk_atk (by simp only [World.size_alloc])) _) _) _) _) _) _)⟩; have f12 : Aside0 (x29.heap[w.heap.size + 1 + 1 + 1 + 1 + 1 + 1 + 1 + 1 + 1 + 1 + 1]? = some (.cells #[.string (⟨#[97]⟩ : ByteArray), .string (⟨#[98]⟩ : ByteArray)] 9 (0, 0))) := ⟨by rw [← hx]; exact (blk_alloc (blk_alloc (blk_alloc (blk_alloc (blk_alloc (blk_atk (by simp only [World.size_alloc])) _) _) _) _) _)⟩; have f13 : Aside0 (x29.heap[w.heap.size + 1 + 1 + 1 + 1 + 1 + 1 + 1 + 1 + 1 + 1 + 1 + 1]? = some (.cells #[.string (⟨#[49]⟩ : ByteArray), .string (⟨#[120]⟩ : ByteArray)] 9 (0, 0))) := ⟨by rw [← hx]; exact (blk_alloc (blk_alloc (blk_alloc (blk_alloc (blk_atk (by simp only [World.size_alloc])) _) _) _) _)⟩; have f14 : Aside0 (x29.heap[w.heap.size + 1 + 1 + 1 + 1 + 1 + 1 + 1 + 1 + 1 + 1 + 1 + 1 + 1]? = some (.cells #[.string (⟨#[49]⟩ : ByteArray), .string (⟨#[120]⟩ : ByteArray)] 9 (0, 0))) := ⟨by rw [← hx]; exact (blk_alloc (blk_alloc (blk_alloc (blk_atk (by simp only [World.size_alloc])) _) _) _)⟩; have f15 : Aside0 (x29.heap[w.heap.size + 1 + 1 + 1 + 1 + 1 + 1 + 1 + 1 + 1 + 1 + 1 + 1 + 1 + 1]? = some (.cells #[.slice (some ⟨w.heap.size + 1 + 1 + 1 + 1 + 1 + 1 + 1 + 1 + 1 + 1 + 1 + 1, 0, none⟩) 2 2, .slice (some ⟨w.heap.size + 1 + 1 + 1 + 1 + 1 + 1 + 1 + 1 + 1 + 1 + 1 + 1 + 1, 0, none⟩) 2 2] 22 (0, 0))) := ⟨by rw [← hx]; exact (blk_alloc (blk_alloc (blk_atk (by simp only [World.size_alloc])) _) _)⟩; have f16 : Aside0 (x29.heap[w.heap.size + 1 + 1 + 1 + 1 + 1 + 1 + 1 + 1 + 1 + 1 + 1 + 1 + 1 + 1 + 1]? = some (.cells #[.slice (some ⟨w.heap.size + 1 + 1 + 1 + 1 + 1 + 1 + 1 + 1 + 1 + 1 + 1, 0, none⟩) 2 2, .slice (some ⟨w.heap.size + 1 + 1 + 1 + 1 + 1 + 1 + 1 + 1 + 1 + 1 + 1 + 1 + 1 + 1, 0, none⟩) 2 2] 25 (0, 0))) := ⟨by rw [← hx]; exact (blk_alloc (blk_atk (by simp only [World.size_alloc])) _)⟩; have f17 : Aside0 (x29.heap[w.heap.size + 1 + 1 + 1 + 1 + 1 + 1 + 1 + 1 + 1 + 1 + 1 + 1 + 1 + 1 + 1 + 1]? = some (.cells #[.slice (some ⟨w.heap.size, 0, none⟩) 2 2, .slice (some ⟨w.heap.size + 1 + 1 + 1, 0, none⟩) 2 2] 25 (0, 0))) := ⟨by rw [← hx]; exact (blk_atk (by simp only [World.size_alloc]))⟩; have HB2 : Aside0 (Below w.heap.size w x29) := ⟨by rw [← hx]; exact (below_alloc (below_alloc (below_alloc (below_alloc (below_alloc (below_alloc (below_alloc (below_alloc (below_alloc (below_alloc (below_alloc (below_alloc (below_alloc (below_alloc (below_alloc (below_alloc (below_alloc HB.out _) _) _) _) _) _) _) _) _) _) _) _) _) _) _) _) _)⟩; have HS : Aside0 (Below w.heap.size w x29) := ⟨by rw [← hx]; exact (below_alloc (below_alloc (below_alloc (below_alloc (below_alloc (below_alloc (below_alloc (below_alloc (below_alloc (below_alloc (below_alloc (below_alloc (below_alloc (below_alloc (below_alloc (below_alloc (below_alloc (Below.refl _ _) _) _) _) _) _) _) _) _) _) _) _) _) _) _) _) _) _)⟩; clear HB; have HB := Aside0.mk HB2.out; clear HB2 hx; refine (infer_calls (some ⟨w.heap.size + 1 + 1 + 1 + 1 + 1 + 1 + 1 + 1 + 1 + 1 + 1 + 1 + 1 + 1 + 1 + 1, 0, none⟩) 1 [tW] (some ⟨w.heap.size, 0, none⟩) 2 hW x29 (TabC.one (T := tW) ⟨Nat.le_refl _, (C_blk hW (by decide) f1.out), Nat.le_refl _, (C_rows _ (by decide) (fun j r hj => match j, hj with | 0, hj => by simp at hj; subst hj; exact ⟨_, 2, blk_cell f4.out 0, Nat.le_refl _, C_blk _ (by decide) f2.out⟩ | 1, hj => by simp at hj; subst hj; exact ⟨_, 2, blk_cell f4.out 1, Nat.le_refl _, C_blk _ (by decide) f3.out⟩ | j + 2, hj => by simp at hj))⟩ (blk_cell f17.out 0) (blk_cell f17.out 1)) (C_blk hW (by decide) f1.out) (Nat.le_refl _) (by decide) (by decide) ok_t).mono ?_; rintro e w29 ⟨v29, rfl, ho, hd⟩; have f18 := Aside0.mk (blk_below f1.out hd); clear f1; have f19 := Aside0.mk (blk_below f2.out hd); clear f2; have f20 := Aside0.mk (blk_below f3.out hd); clear f3; have f21 := Aside0.mk (blk_below f4.out hd); clear f4; have f22 := Aside0.mk (blk_below f5.out hd); clear f5; have f23 := Aside0.mk (blk_below f6.out hd); clear f6; have f24 := Aside0.mk (blk_below f7.out hd); clear f7; have f25 := Aside0.mk (blk_below f8.out hd); clear f8; have f26 := Aside0.mk (blk_below f9.out hd); clear f9; have f27 := Aside0.mk (blk_below f10.out hd); clear f10; have f28 := Aside0.mk (blk_below f11.out hd); clear f11; have f29 := Aside0.mk (blk_below f12.out hd); clear f12; have f30 := Aside0.mk (blk_below f13.out hd); clear f13; have f31 := Aside0.mk (blk_below f14.out hd); clear f14; have f32 := Aside0.mk (blk_below f15.out hd); clear f15; have f33 := Aside0.mk (blk_below f16.out hd); clear f16; have f34 := Aside0.mk (blk_below f17.out hd); clear f17; have HT := Aside0.mk (below_step HS.out hd); have HB2 := Aside0.mk (below_step HB.out hd); clear HB; have HB := Aside0.mk HB2.out; clear HB2 HS HT hd; rw [inf_t] at ho; obtain ⟨A29, c29, rfl, hc29, hC29⟩ := Kd.R_reads ho; have HC29 := Aside0.mk hC29; clear ho hC29; have st1 : True := trivial)
    | (go_at_call 20; clear st1; refine name_world (fun x31 hx => ?_); have f35 : Aside0 (x31.heap[w.heap.size]? = some (.cells #[.string (⟨#[97]⟩ : ByteArray), .string (⟨#[98]⟩ : ByteArray)] 9 (0, 0))) := ⟨by rw [← hx]; exact (blk_alloc f18.out _)⟩; clear f18; have f36 : Aside0 (x31.heap[w.heap.size + 1]? = some (.cells #[.string (⟨#[49]⟩ : ByteArray), .string (⟨#[120]⟩ : ByteArray)] 9 (0, 0))) := ⟨by rw [← hx]; exact (blk_alloc f19.out _)⟩; clear f19; have f37 : Aside0 (x31.heap[w.heap.size + 1 + 1]? = some (.cells #[.string (⟨#[49]⟩ : ByteArray), .string (⟨#[121]⟩ : ByteArray)] 9 (0, 0))) := ⟨by rw [← hx]; exact (blk_alloc f20.out _)⟩; clear f20; have f38 : Aside0 (x31.heap[w.heap.size + 1 + 1 + 1]? = some (.cells #[.slice (some ⟨w.heap.size + 1, 0, none⟩) 2 2, .slice (some ⟨w.heap.size + 1 + 1, 0, none⟩) 2 2] 22 (0, 0))) := ⟨by rw [← hx]; exact (blk_alloc f21.out _)⟩; clear f21; have f39 : Aside0 (x31.heap[w.heap.size + 1 + 1 + 1 + 1]? = some (.cells #[.slice (some ⟨w.heap.size, 0, none⟩) 2 2, .slice (some ⟨w.heap.size + 1 + 1 + 1, 0, none⟩) 2 2] 25 (0, 0))) := ⟨by rw [← hx]; exact (blk_alloc f22.out _)⟩; clear f22; have f40 : Aside0 (x31.heap[w.heap.size + 1 + 1 + 1 + 1 + 1]? = some (.cells #[.string (⟨#[97]⟩ : ByteArray), .string (⟨#[98]⟩ : ByteArray)] 9 (0, 0))) := ⟨by rw [← hx]; exact (blk_alloc f23.out _)⟩; clear f23; have f41 : Aside0 (x31.heap[w.heap.size + 1 + 1 + 1 + 1 + 1 + 1]? = some (.cells #[.string (⟨#[49]⟩ : ByteArray), .string (⟨#[120]⟩ : ByteArray)] 9 (0, 0))) := ⟨by rw [← hx]; exact (blk_alloc f24.out _)⟩; clear f24; have f42 : Aside0 (x31.heap[w.heap.size + 1 + 1 + 1 + 1 + 1 + 1 + 1]? = some (.cells #[.string (⟨#[49]⟩ : ByteArray), .string (⟨#[121]⟩ : ByteArray)] 9 (0, 0))) := ⟨by rw [← hx]; exact (blk_alloc f25.out _)⟩; clear f25; have f43 : Aside0 (x31.heap[w.heap.size + 1 + 1 + 1 + 1 + 1 + 1 + 1 + 1]? = some (.cells #[.string (⟨#[50]⟩ : ByteArray), .string (⟨#[120]⟩ : ByteArray)] 9 (0, 0))) := ⟨by rw [← hx]; exact (blk_alloc f26.out _)⟩; clear f26; have f44 : Aside0 (x31.heap[w.heap.size + 1 + 1 + 1 + 1 + 1 + 1 + 1 + 1 + 1]? = some (.cells #[.slice (some ⟨w.heap.size + 1 + 1 + 1 + 1 + 1 + 1, 0, none⟩) 2 2, .slice (some ⟨w.heap.size + 1 + 1 + 1 + 1 + 1 + 1 + 1, 0, none⟩) 2 2, .slice (some ⟨w.heap.size + 1 + 1 + 1 + 1 + 1 + 1 + 1 + 1, 0, none⟩) 2 2] 22 (0, 0))) := ⟨by rw [← hx]; exact (blk_alloc f27.out _)⟩; clear f27; have f45 : Aside0 (x31.heap[w.heap.size + 1 + 1 + 1 + 1 + 1 + 1 + 1 + 1 + 1 + 1]? = some (.cells #[.slice (some ⟨w.heap.size + 1 + 1 + 1 + 1 + 1, 0, none⟩) 2 2, .slice (some ⟨w.heap.size + 1 + 1 + 1 + 1 + 1 + 1 + 1 + 1 + 1, 0, none⟩) 3 3] 25 (0, 0))) := ⟨by rw [← hx]; exact (blk_alloc f28.out _)⟩; clear f28; have f46 : Aside0 (x31.heap[w.heap.size + 1 + 1 + 1 + 1 + 1 + 1 + 1 + 1 + 1 + 1 + 1]? = some (.cells #[.string (⟨#[97]⟩ : ByteArray), .string (⟨#[98]⟩ : ByteArray)] 9 (0, 0))) := ⟨by rw [← hx]; exact (blk_alloc f29.out _)⟩; clear f29; have f47 : Aside0 (x31.heap[w.heap.size + 1 + 1 + 1 + 1 + 1 + 1 + 1 + 1 + 1 + 1 + 1 + 1]? = some (.cells #[.string (⟨#[49]⟩ : ByteArray), .string (⟨#[120]⟩ : ByteArray)] 9 (0, 0))) := ⟨by rw [← hx]; exact (blk_alloc f30.out _)⟩; clear f30; have f48 : Aside0 (x31.heap[w.heap.size + 1 + 1 + 1 + 1 + 1 + 1 + 1 + 1 + 1 + 1 + 1 + 1 + 1]? = some (.cells #[.string (⟨#[49]⟩ : ByteArray), .string (⟨#[120]⟩ : ByteArray)] 9 (0, 0))) := ⟨by rw [← hx]; exact (blk_alloc f31.out _)⟩; clear f31; have f49 : Aside0 (x31.heap[w.heap.size + 1 + 1 + 1 + 1 + 1 + 1 + 1 + 1 + 1 + 1 + 1 + 1 + 1 + 1]? = some (.cells #[.slice (some ⟨w.heap.size + 1 + 1 + 1 + 1 + 1 + 1 + 1 + 1 + 1 + 1 + 1 + 1, 0, none⟩) 2 2, .slice (some ⟨w.heap.size + 1 + 1 + 1 + 1 + 1 + 1 + 1 + 1 + 1 + 1 + 1 + 1 + 1, 0, none⟩) 2 2] 22 (0, 0))) := ⟨by rw [← hx]; exact (blk_alloc f32.out _)⟩; clear f32; have f50 : Aside0 (x31.heap[w.heap.size + 1 + 1 + 1 + 1 + 1 + 1 + 1 + 1 + 1 + 1 + 1 + 1 + 1 + 1 + 1]? = some (.cells #[.slice (some ⟨w.heap.size + 1 + 1 + 1 + 1 + 1 + 1 + 1 + 1 + 1 + 1 + 1, 0, none⟩) 2 2, .slice (some ⟨w.heap.size + 1 + 1 + 1 + 1 + 1 + 1 + 1 + 1 + 1 + 1 + 1 + 1 + 1 + 1, 0, none⟩) 2 2] 25 (0, 0))) := ⟨by rw [← hx]; exact (blk_alloc f33.out _)⟩; clear f33; have f51 : Aside0 (x31.heap[w.heap.size + 1 + 1 + 1 + 1 + 1 + 1 + 1 + 1 + 1 + 1 + 1 + 1 + 1 + 1 + 1 + 1]? = some (.cells #[.slice (some ⟨w.heap.size, 0, none⟩) 2 2, .slice (some ⟨w.heap.size + 1 + 1 + 1, 0, none⟩) 2 2] 25 (0, 0))) := ⟨by rw [← hx]; exact (blk_alloc f34.out _)⟩; clear f34; have f52 : Aside0 (x31.heap[w29.heap.size]? = some (.cells #[.string (⟨#[98]⟩ : ByteArray)] 9 (0, 0))) := ⟨by rw [← hx]; exact (blk_atk rfl)⟩; have HB2 : Aside0 (Below w.heap.size w x31) := ⟨by rw [← hx]; exact (below_alloc HB.out _)⟩; have HS : Aside0 (Below w29.heap.size w29 x31) := ⟨by rw [← hx]; exact (below_alloc (Below.refl _ _) _)⟩; clear HB; have HB := Aside0.mk HB2.out; clear HB2 hx; refine (rowW A29 c29 [(⟨#[98]⟩ : ByteArray)] (some ⟨w29.heap.size, 0, none⟩) 1 x31 (Kd.C_below HC29.out HS.out) hc29 (C_blk [(⟨#[98]⟩ : ByteArray)] (by decide) f52.out) (Nat.le_refl _) row_b).mono ?_; rintro e w31 ⟨rfl, hd⟩; have f53 := Aside0.mk (blk_below f35.out hd); clear f35; have f54 := Aside0.mk (blk_below f36.out hd); clear f36; have f55 := Aside0.mk (blk_below f37.out hd); clear f37; have f56 := Aside0.mk (blk_below f38.out hd); clear f38; have f57 := Aside0.mk (blk_below f39.out hd); clear f39; have f58 := Aside0.mk (blk_below f40.out hd); clear f40; have f59 := Aside0.mk (blk_below f41.out hd); clear f41; have f60 := Aside0.mk (blk_below f42.out hd); clear f42; have f61 := Aside0.mk (blk_below f43.out hd); clear f43; have f62 := Aside0.mk (blk_below f44.out hd); clear f44; have f63 := Aside0.mk (blk_below f45.out hd); clear f45; have f64 := Aside0.mk (blk_below f46.out hd); clear f46; have f65 := Aside0.mk (blk_below f47.out hd); clear f47; have f66 := Aside0.mk (blk_below f48.out hd); clear f48; have f67 := Aside0.mk (blk_below f49.out hd); clear f49; have f68 := Aside0.mk (blk_below f50.out hd); clear f50; have f69 := Aside0.mk (blk_below f51.out hd); clear f51; have f70 := Aside0.mk (blk_below f52.out hd); clear f52; have HT := Aside0.mk (below_step HS.out hd); have HB2 := Aside0.mk (below_step HB.out hd); clear HB; have HB := Aside0.mk HB2.out; clear HB2 HS HT hd; have k71 : (w31).cell? ⟨w.heap.size + 1 + 1 + 1 + 1 + 1 + 1 + 1 + 1 + 1 + 1, 0, none⟩ = #[.slice (some ⟨w.heap.size + 1 + 1 + 1 + 1 + 1, 0, none⟩) 2 2, .slice (some ⟨w.heap.size + 1 + 1 + 1 + 1 + 1 + 1 + 1 + 1 + 1, 0, none⟩) 3 3][0]? := blk_cell f63.out 0; have k72 : (w31).cell? ⟨w.heap.size + 1 + 1 + 1 + 1 + 1 + 1 + 1 + 1 + 1 + 1, 1, none⟩ = #[.slice (some ⟨w.heap.size + 1 + 1 + 1 + 1 + 1, 0, none⟩) 2 2, .slice (some ⟨w.heap.size + 1 + 1 + 1 + 1 + 1 + 1 + 1 + 1 + 1, 0, none⟩) 3 3][1]? := blk_cell f63.out 1; have k73 : (w31.alloc (.cells #[.slice (some ⟨w.heap.size + 1 + 1 + 1 + 1 + 1, 0, none⟩) 2 2, .slice (some ⟨w.heap.size + 1 + 1 + 1 + 1 + 1 + 1 + 1 + 1 + 1, 0, none⟩) 3 3] 25 (0, 0))).cell? ⟨w.heap.size + 1 + 1 + 1 + 1 + 1 + 1 + 1 + 1 + 1 + 1, 0, none⟩ = #[.slice (some ⟨w.heap.size + 1 + 1 + 1 + 1 + 1, 0, none⟩) 2 2, .slice (some ⟨w.heap.size + 1 + 1 + 1 + 1 + 1 + 1 + 1 + 1 + 1, 0, none⟩) 3 3][0]? := blk_cell (blk_alloc f63.out _) 0; have k74 : (w31.alloc (.cells #[.slice (some ⟨w.heap.size + 1 + 1 + 1 + 1 + 1, 0, none⟩) 2 2, .slice (some ⟨w.heap.size + 1 + 1 + 1 + 1 + 1 + 1 + 1 + 1 + 1, 0, none⟩) 3 3] 25 (0, 0))).cell? ⟨w.heap.size + 1 + 1 + 1 + 1 + 1 + 1 + 1 + 1 + 1 + 1, 1, none⟩ = #[.slice (some ⟨w.heap.size + 1 + 1 + 1 + 1 + 1, 0, none⟩) 2 2, .slice (some ⟨w.heap.size + 1 + 1 + 1 + 1 + 1 + 1 + 1 + 1 + 1, 0, none⟩) 3 3][1]? := blk_cell (blk_alloc f63.out _) 1; have st2 : True := trivial)
    | (go_at_call 21; clear st2; refine name_world (fun x36 hx => ?_); have f75 : Aside0 (x36.heap[w.heap.size]? = some (.cells #[.string (⟨#[97]⟩ : ByteArray), .string (⟨#[98]⟩ : ByteArray)] 9 (0, 0))) := ⟨by rw [← hx]; exact (blk_alloc f53.out _)⟩; clear f53; have f76 : Aside0 (x36.heap[w.heap.size + 1]? = some (.cells #[.string (⟨#[49]⟩ : ByteArray), .string (⟨#[120]⟩ : ByteArray)] 9 (0, 0))) := ⟨by rw [← hx]; exact (blk_alloc f54.out _)⟩; clear f54; have f77 : Aside0 (x36.heap[w.heap.size + 1 + 1]? = some (.cells #[.string (⟨#[49]⟩ : ByteArray), .string (⟨#[121]⟩ : ByteArray)] 9 (0, 0))) := ⟨by rw [← hx]; exact (blk_alloc f55.out _)⟩; clear f55; have f78 : Aside0 (x36.heap[w.heap.size + 1 + 1 + 1]? = some (.cells #[.slice (some ⟨w.heap.size + 1, 0, none⟩) 2 2, .slice (some ⟨w.heap.size + 1 + 1, 0, none⟩) 2 2] 22 (0, 0))) := ⟨by rw [← hx]; exact (blk_alloc f56.out _)⟩; clear f56; have f79 : Aside0 (x36.heap[w.heap.size + 1 + 1 + 1 + 1]? = some (.cells #[.slice (some ⟨w.heap.size, 0, none⟩) 2 2, .slice (some ⟨w.heap.size + 1 + 1 + 1, 0, none⟩) 2 2] 25 (0, 0))) := ⟨by rw [← hx]; exact (blk_alloc f57.out _)⟩; clear f57; have f80 : Aside0 (x36.heap[w.heap.size + 1 + 1 + 1 + 1 + 1]? = some (.cells #[.string (⟨#[97]⟩ : ByteArray), .string (⟨#[98]⟩ : ByteArray)] 9 (0, 0))) := ⟨by rw [← hx]; exact (blk_alloc f58.out _)⟩; clear f58; have f81 : Aside0 (x36.heap[w.heap.size + 1 + 1 + 1 + 1 + 1 + 1]? = some (.cells #[.string (⟨#[49]⟩ : ByteArray), .string (⟨#[120]⟩ : ByteArray)] 9 (0, 0))) := ⟨by rw [← hx]; exact (blk_alloc f59.out _)⟩; clear f59; have f82 : Aside0 (x36.heap[w.heap.size + 1 + 1 + 1 + 1 + 1 + 1 + 1]? = some (.cells #[.string (⟨#[49]⟩ : ByteArray), .string (⟨#[121]⟩ : ByteArray)] 9 (0, 0))) := ⟨by rw [← hx]; exact (blk_alloc f60.out _)⟩; clear f60; have f83 : Aside0 (x36.heap[w.heap.size + 1 + 1 + 1 + 1 + 1 + 1 + 1 + 1]? = some (.cells #[.string (⟨#[50]⟩ : ByteArray), .string (⟨#[120]⟩ : ByteArray)] 9 (0, 0))) := ⟨by rw [← hx]; exact (blk_alloc f61.out _)⟩; clear f61; have f84 : Aside0 (x36.heap[w.heap.size + 1 + 1 + 1 + 1 + 1 + 1 + 1 + 1 + 1]? = some (.cells #[.slice (some ⟨w.heap.size + 1 + 1 + 1 + 1 + 1 + 1, 0, none⟩) 2 2, .slice (some ⟨w.heap.size + 1 + 1 + 1 + 1 + 1 + 1 + 1, 0, none⟩) 2 2, .slice (some ⟨w.heap.size + 1 + 1 + 1 + 1 + 1 + 1 + 1 + 1, 0, none⟩) 2 2] 22 (0, 0))) := ⟨by rw [← hx]; exact (blk_alloc f62.out _)⟩; clear f62; have f85 : Aside0 (x36.heap[w.heap.size + 1 + 1 + 1 + 1 + 1 + 1 + 1 + 1 + 1 + 1]? = some (.cells #[.slice (some ⟨w.heap.size + 1 + 1 + 1 + 1 + 1, 0, none⟩) 2 2, .slice (some ⟨w.heap.size + 1 + 1 + 1 + 1 + 1 + 1 + 1 + 1 + 1, 0, none⟩) 3 3] 25 (0, 0))) := ⟨by rw [← hx]; exact (blk_alloc f63.out _)⟩; clear f63; have f86 : Aside0 (x36.heap[w.heap.size + 1 + 1 + 1 + 1 + 1 + 1 + 1 + 1 + 1 + 1 + 1]? = some (.cells #[.string (⟨#[97]⟩ : ByteArray), .string (⟨#[98]⟩ : ByteArray)] 9 (0, 0))) := ⟨by rw [← hx]; exact (blk_alloc f64.out _)⟩; clear f64; have f87 : Aside0 (x36.heap[w.heap.size + 1 + 1 + 1 + 1 + 1 + 1 + 1 + 1 + 1 + 1 + 1 + 1]? = some (.cells #[.string (⟨#[49]⟩ : ByteArray), .string (⟨#[120]⟩ : ByteArray)] 9 (0, 0))) := ⟨by rw [← hx]; exact (blk_alloc f65.out _)⟩; clear f65; have f88 : Aside0 (x36.heap[w.heap.size + 1 + 1 + 1 + 1 + 1 + 1 + 1 + 1 + 1 + 1 + 1 + 1 + 1]? = some (.cells #[.string (⟨#[49]⟩ : ByteArray), .string (⟨#[120]⟩ : ByteArray)] 9 (0, 0))) := ⟨by rw [← hx]; exact (blk_alloc f66.out _)⟩; clear f66; have f89 : Aside0 (x36.heap[w.heap.size + 1 + 1 + 1 + 1 + 1 + 1 + 1 + 1 + 1 + 1 + 1 + 1 + 1 + 1]? = some (.cells #[.slice (some ⟨w.heap.size + 1 + 1 + 1 + 1 + 1 + 1 + 1 + 1 + 1 + 1 + 1 + 1, 0, none⟩) 2 2, .slice (some ⟨w.heap.size + 1 + 1 + 1 + 1 + 1 + 1 + 1 + 1 + 1 + 1 + 1 + 1 + 1, 0, none⟩) 2 2] 22 (0, 0))) := ⟨by rw [← hx]; exact (blk_alloc f67.out _)⟩; clear f67; have f90 : Aside0 (x36.heap[w.heap.size + 1 + 1 + 1 + 1 + 1 + 1 + 1 + 1 + 1 + 1 + 1 + 1 + 1 + 1 + 1]? = some (.cells #[.slice (some ⟨w.heap.size + 1 + 1 + 1 + 1 + 1 + 1 + 1 + 1 + 1 + 1 + 1, 0, none⟩) 2 2, .slice (some ⟨w.heap.size + 1 + 1 + 1 + 1 + 1 + 1 + 1 + 1 + 1 + 1 + 1 + 1 + 1 + 1, 0, none⟩) 2 2] 25 (0, 0))) := ⟨by rw [← hx]; exact (blk_alloc f68.out _)⟩; clear f68; have f91 : Aside0 (x36.heap[w.heap.size + 1 + 1 + 1 + 1 + 1 + 1 + 1 + 1 + 1 + 1 + 1 + 1 + 1 + 1 + 1 + 1]? = some (.cells #[.slice (some ⟨w.heap.size, 0, none⟩) 2 2, .slice (some ⟨w.heap.size + 1 + 1 + 1, 0, none⟩) 2 2] 25 (0, 0))) := ⟨by rw [← hx]; exact (blk_alloc f69.out _)⟩; clear f69; have f92 : Aside0 (x36.heap[w29.heap.size]? = some (.cells #[.string (⟨#[98]⟩ : ByteArray)] 9 (0, 0))) := ⟨by rw [← hx]; exact (blk_alloc f70.out _)⟩; clear f70; have f93 : Aside0 (x36.heap[w31.heap.size]? = some (.cells #[.slice (some ⟨w.heap.size + 1 + 1 + 1 + 1 + 1, 0, none⟩) 2 2, .slice (some ⟨w.heap.size + 1 + 1 + 1 + 1 + 1 + 1 + 1 + 1 + 1, 0, none⟩) 3 3] 25 (0, 0))) := ⟨by rw [← hx]; exact (blk_atk rfl)⟩; have HB2 : Aside0 (Below w.heap.size w x36) := ⟨by rw [← hx]; exact (below_alloc HB.out _)⟩; have HS : Aside0 (Below w31.heap.size w31 x36) := ⟨by rw [← hx]; exact (below_alloc (Below.refl _ _) _)⟩; clear HB; have HB := Aside0.mk HB2.out; clear HB2 hx; refine (infer_calls (some ⟨w31.heap.size, 0, none⟩) 1 [uW] (some ⟨w.heap.size + 1 + 1 + 1 + 1 + 1, 0, none⟩) 2 hW x36 (TabC.one (T := uW) ⟨Nat.le_refl _, (C_blk hW (by decide) f80.out), Nat.le_refl _, (C_rows _ (by decide) (fun j r hj => match j, hj with | 0, hj => by simp at hj; subst hj; exact ⟨_, 2, blk_cell f84.out 0, Nat.le_refl _, C_blk _ (by decide) f81.out⟩ | 1, hj => by simp at hj; subst hj; exact ⟨_, 2, blk_cell f84.out 1, Nat.le_refl _, C_blk _ (by decide) f82.out⟩ | 2, hj => by simp at hj; subst hj; exact ⟨_, 2, blk_cell f84.out 2, Nat.le_refl _, C_blk _ (by decide) f83.out⟩ | j + 3, hj => by simp at hj))⟩ (blk_cell f93.out 0) (blk_cell f93.out 1)) (C_blk hW (by decide) f80.out) (Nat.le_refl _) (by decide) (by decide) ok_u).mono ?_; rintro e w36 ⟨v36, rfl, ho, hd⟩; have f94 := Aside0.mk (blk_below f75.out hd); clear f75; have f95 := Aside0.mk (blk_below f76.out hd); clear f76; have f96 := Aside0.mk (blk_below f77.out hd); clear f77; have f97 := Aside0.mk (blk_below f78.out hd); clear f78; have f98 := Aside0.mk (blk_below f79.out hd); clear f79; have f99 := Aside0.mk (blk_below f80.out hd); clear f80; have f100 := Aside0.mk (blk_below f81.out hd); clear f81; have f101 := Aside0.mk (blk_below f82.out hd); clear f82; have f102 := Aside0.mk (blk_below f83.out hd); clear f83; have f103 := Aside0.mk (blk_below f84.out hd); clear f84; have f104 := Aside0.mk (blk_below f85.out hd); clear f85; have f105 := Aside0.mk (blk_below f86.out hd); clear f86; have f106 := Aside0.mk (blk_below f87.out hd); clear f87; have f107 := Aside0.mk (blk_below f88.out hd); clear f88; have f108 := Aside0.mk (blk_below f89.out hd); clear f89; have f109 := Aside0.mk (blk_below f90.out hd); clear f90; have f110 := Aside0.mk (blk_below f91.out hd); clear f91; have f111 := Aside0.mk (blk_below f92.out hd); clear f92; have f112 := Aside0.mk (blk_below f93.out hd); clear f93; have HT := Aside0.mk (below_step HS.out hd); have HB2 := Aside0.mk (below_step HB.out hd); clear HB; have HB := Aside0.mk HB2.out; clear HB2 HS HT hd; rw [inf_u] at ho; obtain ⟨A36, c36, rfl, hc36, hC36⟩ := Kd.R_reads ho; have HC36 := Aside0.mk hC36; clear ho hC36; have st3 : True := trivial)
    | (go_at_call 20; clear st3; refine name_world (fun x38 hx => ?_); have f113 : Aside0 (x38.heap[w.heap.size]? = some (.cells #[.string (⟨#[97]⟩ : ByteArray), .string (⟨#[98]⟩ : ByteArray)] 9 (0, 0))) := ⟨by rw [← hx]; exact (blk_alloc f94.out _)⟩; clear f94; have f114 : Aside0 (x38.heap[w.heap.size + 1]? = some (.cells #[.string (⟨#[49]⟩ : ByteArray), .string (⟨#[120]⟩ : ByteArray)] 9 (0, 0))) := ⟨by rw [← hx]; exact (blk_alloc f95.out _)⟩; clear f95; have f115 : Aside0 (x38.heap[w.heap.size + 1 + 1]? = some (.cells #[.string (⟨#[49]⟩ : ByteArray), .string (⟨#[121]⟩ : ByteArray)] 9 (0, 0))) := ⟨by rw [← hx]; exact (blk_alloc f96.out _)⟩; clear f96; have f116 : Aside0 (x38.heap[w.heap.size + 1 + 1 + 1]? = some (.cells #[.slice (some ⟨w.heap.size + 1, 0, none⟩) 2 2, .slice (some ⟨w.heap.size + 1 + 1, 0, none⟩) 2 2] 22 (0, 0))) := ⟨by rw [← hx]; exact (blk_alloc f97.out _)⟩; clear f97; have f117 : Aside0 (x38.heap[w.heap.size + 1 + 1 + 1 + 1]? = some (.cells #[.slice (some ⟨w.heap.size, 0, none⟩) 2 2, .slice (some ⟨w.heap.size + 1 + 1 + 1, 0, none⟩) 2 2] 25 (0, 0))) := ⟨by rw [← hx]; exact (blk_alloc f98.out _)⟩; clear f98; have f118 : Aside0 (x38.heap[w.heap.size + 1 + 1 + 1 + 1 + 1]? = some (.cells #[.string (⟨#[97]⟩ : ByteArray), .string (⟨#[98]⟩ : ByteArray)] 9 (0, 0))) := ⟨by rw [← hx]; exact (blk_alloc f99.out _)⟩; clear f99; have f119 : Aside0 (x38.heap[w.heap.size + 1 + 1 + 1 + 1 + 1 + 1]? = some (.cells #[.string (⟨#[49]⟩ : ByteArray), .string (⟨#[120]⟩ : ByteArray)] 9 (0, 0))) := ⟨by rw [← hx]; exact (blk_alloc f100.out _)⟩; clear f100; have f120 : Aside0 (x38.heap[w.heap.size + 1 + 1 + 1 + 1 + 1 + 1 + 1]? = some (.cells #[.string (⟨#[49]⟩ : ByteArray), .string (⟨#[121]⟩ : ByteArray)] 9 (0, 0))) := ⟨by rw [← hx]; exact (blk_alloc f101.out _)⟩; clear f101; have f121 : Aside0 (x38.heap[w.heap.size + 1 + 1 + 1 + 1 + 1 + 1 + 1 + 1]? = some (.cells #[.string (⟨#[50]⟩ : ByteArray), .string (⟨#[120]⟩ : ByteArray)] 9 (0, 0))) := ⟨by rw [← hx]; exact (blk_alloc f102.out _)⟩; clear f102; have f122 : Aside0 (x38.heap[w.heap.size + 1 + 1 + 1 + 1 + 1 + 1 + 1 + 1 + 1]? = some (.cells #[.slice (some ⟨w.heap.size + 1 + 1 + 1 + 1 + 1 + 1, 0, none⟩) 2 2, .slice (some ⟨w.heap.size + 1 + 1 + 1 + 1 + 1 + 1 + 1, 0, none⟩) 2 2, .slice (some ⟨w.heap.size + 1 + 1 + 1 + 1 + 1 + 1 + 1 + 1, 0, none⟩) 2 2] 22 (0, 0))) := ⟨by rw [← hx]; exact (blk_alloc f103.out _)⟩; clear f103; have f123 : Aside0 (x38.heap[w.heap.size + 1 + 1 + 1 + 1 + 1 + 1 + 1 + 1 + 1 + 1]? = some (.cells #[.slice (some ⟨w.heap.size + 1 + 1 + 1 + 1 + 1, 0, none⟩) 2 2, .slice (some ⟨w.heap.size + 1 + 1 + 1 + 1 + 1 + 1 + 1 + 1 + 1, 0, none⟩) 3 3] 25 (0, 0))) := ⟨by rw [← hx]; exact (blk_alloc f104.out _)⟩; clear f104; have f124 : Aside0 (x38.heap[w.heap.size + 1 + 1 + 1 + 1 + 1 + 1 + 1 + 1 + 1 + 1 + 1]? = some (.cells #[.string (⟨#[97]⟩ : ByteArray), .string (⟨#[98]⟩ : ByteArray)] 9 (0, 0))) := ⟨by rw [← hx]; exact (blk_alloc f105.out _)⟩; clear f105; have f125 : Aside0 (x38.heap[w.heap.size + 1 + 1 + 1 + 1 + 1 + 1 + 1 + 1 + 1 + 1 + 1 + 1]? = some (.cells #[.string (⟨#[49]⟩ : ByteArray), .string (⟨#[120]⟩ : ByteArray)] 9 (0, 0))) := ⟨by rw [← hx]; exact (blk_alloc f106.out _)⟩; clear f106; have f126 : Aside0 (x38.heap[w.heap.size + 1 + 1 + 1 + 1 + 1 + 1 + 1 + 1 + 1 + 1 + 1 + 1 + 1]? = some (.cells #[.string (⟨#[49]⟩ : ByteArray), .string (⟨#[120]⟩ : ByteArray)] 9 (0, 0))) := ⟨by rw [← hx]; exact (blk_alloc f107.out _)⟩; clear f107; have f127 : Aside0 (x38.heap[w.heap.size + 1 + 1 + 1 + 1 + 1 + 1 + 1 + 1 + 1 + 1 + 1 + 1 + 1 + 1]? = some (.cells #[.slice (some ⟨w.heap.size + 1 + 1 + 1 + 1 + 1 + 1 + 1 + 1 + 1 + 1 + 1 + 1, 0, none⟩) 2 2, .slice (some ⟨w.heap.size + 1 + 1 + 1 + 1 + 1 + 1 + 1 + 1 + 1 + 1 + 1 + 1 + 1, 0, none⟩) 2 2] 22 (0, 0))) := ⟨by rw [← hx]; exact (blk_alloc f108.out _)⟩; clear f108; have f128 : Aside0 (x38.heap[w.heap.size + 1 + 1 + 1 + 1 + 1 + 1 + 1 + 1 + 1 + 1 + 1 + 1 + 1 + 1 + 1]? = some (.cells #[.slice (some ⟨w.heap.size + 1 + 1 + 1 + 1 + 1 + 1 + 1 + 1 + 1 + 1 + 1, 0, none⟩) 2 2, .slice (some ⟨w.heap.size + 1 + 1 + 1 + 1 + 1 + 1 + 1 + 1 + 1 + 1 + 1 + 1 + 1 + 1, 0, none⟩) 2 2] 25 (0, 0))) := ⟨by rw [← hx]; exact (blk_alloc f109.out _)⟩; clear f109; have f129 : Aside0 (x38.heap[w.heap.size + 1 + 1 + 1 + 1 + 1 + 1 + 1 + 1 + 1 + 1 + 1 + 1 + 1 + 1 + 1 + 1]? = some (.cells #[.slice (some ⟨w.heap.size, 0, none⟩) 2 2, .slice (some ⟨w.heap.size + 1 + 1 + 1, 0, none⟩) 2 2] 25 (0, 0))) := ⟨by rw [← hx]; exact (blk_alloc f110.out _)⟩; clear f110; have f130 : Aside0 (x38.heap[w29.heap.size]? = some (.cells #[.string (⟨#[98]⟩ : ByteArray)] 9 (0, 0))) := ⟨by rw [← hx]; exact (blk_alloc f111.out _)⟩; clear f111; have f131 : Aside0 (x38.heap[w31.heap.size]? = some (.cells #[.slice (some ⟨w.heap.size + 1 + 1 + 1 + 1 + 1, 0, none⟩) 2 2, .slice (some ⟨w.heap.size + 1 + 1 + 1 + 1 + 1 + 1 + 1 + 1 + 1, 0, none⟩) 3 3] 25 (0, 0))) := ⟨by rw [← hx]; exact (blk_alloc f112.out _)⟩; clear f112; have f132 : Aside0 (x38.heap[w36.heap.size]? = some (.cells #[.string (⟨#[97]⟩ : ByteArray), .string (⟨#[98]⟩ : ByteArray)] 9 (0, 0))) := ⟨by rw [← hx]; exact (blk_atk rfl)⟩; have HB2 : Aside0 (Below w.heap.size w x38) := ⟨by rw [← hx]; exact (below_alloc HB.out _)⟩; have HS : Aside0 (Below w36.heap.size w36 x38) := ⟨by rw [← hx]; exact (below_alloc (Below.refl _ _) _)⟩; clear HB; have HB := Aside0.mk HB2.out; clear HB2 hx; refine (rowW A36 c36 hW (some ⟨w36.heap.size, 0, none⟩) 2 x38 (Kd.C_below HC36.out HS.out) hc36 (C_blk hW (by decide) f132.out) (Nat.le_refl _) row_h).mono ?_; rintro e w38 ⟨rfl, hd⟩; have f133 := Aside0.mk (blk_below f113.out hd); clear f113; have f134 := Aside0.mk (blk_below f114.out hd); clear f114; have f135 := Aside0.mk (blk_below f115.out hd); clear f115; have f136 := Aside0.mk (blk_below f116.out hd); clear f116; have f137 := Aside0.mk (blk_below f117.out hd); clear f117; have f138 := Aside0.mk (blk_below f118.out hd); clear f118; have f139 := Aside0.mk (blk_below f119.out hd); clear f119; have f140 := Aside0.mk (blk_below f120.out hd); clear f120; have f141 := Aside0.mk (blk_below f121.out hd); clear f121; have f142 := Aside0.mk (blk_below f122.out hd); clear f122; have f143 := Aside0.mk (blk_below f123.out hd); clear f123; have f144 := Aside0.mk (blk_below f124.out hd); clear f124; have f145 := Aside0.mk (blk_below f125.out hd); clear f125; have f146 := Aside0.mk (blk_below f126.out hd); clear f126; have f147 := Aside0.mk (blk_below f127.out hd); clear f127; have f148 := Aside0.mk (blk_below f128.out hd); clear f128; have f149 := Aside0.mk (blk_below f129.out hd); clear f129; have f150 := Aside0.mk (blk_below f130.out hd); clear f130; have f151 := Aside0.mk (blk_below f131.out hd); clear f131; have f152 := Aside0.mk (blk_below f132.out hd); clear f132; have HT := Aside0.mk (below_step HS.out hd); have HB2 := Aside0.mk (below_step HB.out hd); clear HB; have HB := Aside0.mk HB2.out; clear HB2 HS HT hd; have k153 : (w38).cell? ⟨w.heap.size + 1 + 1 + 1 + 1, 0, none⟩ = #[.slice (some ⟨w.heap.size, 0, none⟩) 2 2, .slice (some ⟨w.heap.size + 1 + 1 + 1, 0, none⟩) 2 2][0]? := blk_cell f137.out 0; have k154 : (w38).cell? ⟨w.heap.size + 1 + 1 + 1 + 1, 1, none⟩ = #[.slice (some ⟨w.heap.size, 0, none⟩) 2 2, .slice (some ⟨w.heap.size + 1 + 1 + 1, 0, none⟩) 2 2][1]? := blk_cell f137.out 1; have st4 : True := trivial)
    | (go_at_call 16; clear st4; refine name_world (fun x42 hx => ?_); have f155 : Aside0 (x42.heap[w.heap.size]? = some (.cells #[.string (⟨#[97]⟩ : ByteArray), .string (⟨#[98]⟩ : ByteArray)] 9 (0, 0))) := ⟨by rw [← hx]; exact (blk_alloc f133.out _)⟩; clear f133; have f156 : Aside0 (x42.heap[w.heap.size + 1]? = some (.cells #[.string (⟨#[49]⟩ : ByteArray), .string (⟨#[120]⟩ : ByteArray)] 9 (0, 0))) := ⟨by rw [← hx]; exact (blk_alloc f134.out _)⟩; clear f134; have f157 : Aside0 (x42.heap[w.heap.size + 1 + 1]? = some (.cells #[.string (⟨#[49]⟩ : ByteArray), .string (⟨#[121]⟩ : ByteArray)] 9 (0, 0))) := ⟨by rw [← hx]; exact (blk_alloc f135.out _)⟩; clear f135; have f158 : Aside0 (x42.heap[w.heap.size + 1 + 1 + 1]? = some (.cells #[.slice (some ⟨w.heap.size + 1, 0, none⟩) 2 2, .slice (some ⟨w.heap.size + 1 + 1, 0, none⟩) 2 2] 22 (0, 0))) := ⟨by rw [← hx]; exact (blk_alloc f136.out _)⟩; clear f136; have f159 : Aside0 (x42.heap[w.heap.size + 1 + 1 + 1 + 1]? = some (.cells #[.slice (some ⟨w.heap.size, 0, none⟩) 2 2, .slice (some ⟨w.heap.size + 1 + 1 + 1, 0, none⟩) 2 2] 25 (0, 0))) := ⟨by rw [← hx]; exact (blk_alloc f137.out _)⟩; clear f137; have f160 : Aside0 (x42.heap[w.heap.size + 1 + 1 + 1 + 1 + 1]? = some (.cells #[.string (⟨#[97]⟩ : ByteArray), .string (⟨#[98]⟩ : ByteArray)] 9 (0, 0))) := ⟨by rw [← hx]; exact (blk_alloc f138.out _)⟩; clear f138; have f161 : Aside0 (x42.heap[w.heap.size + 1 + 1 + 1 + 1 + 1 + 1]? = some (.cells #[.string (⟨#[49]⟩ : ByteArray), .string (⟨#[120]⟩ : ByteArray)] 9 (0, 0))) := ⟨by rw [← hx]; exact (blk_alloc f139.out _)⟩; clear f139; have f162 : Aside0 (x42.heap[w.heap.size + 1 + 1 + 1 + 1 + 1 + 1 + 1]? = some (.cells #[.string (⟨#[49]⟩ : ByteArray), .string (⟨#[121]⟩ : ByteArray)] 9 (0, 0))) := ⟨by rw [← hx]; exact (blk_alloc f140.out _)⟩; clear f140; have f163 : Aside0 (x42.heap[w.heap.size + 1 + 1 + 1 + 1 + 1 + 1 + 1 + 1]? = some (.cells #[.string (⟨#[50]⟩ : ByteArray), .string (⟨#[120]⟩ : ByteArray)] 9 (0, 0))) := ⟨by rw [← hx]; exact (blk_alloc f141.out _)⟩; clear f141; have f164 : Aside0 (x42.heap[w.heap.size + 1 + 1 + 1 + 1 + 1 + 1 + 1 + 1 + 1]? = some (.cells #[.slice (some ⟨w.heap.size + 1 + 1 + 1 + 1 + 1 + 1, 0, none⟩) 2 2, .slice (some ⟨w.heap.size + 1 + 1 + 1 + 1 + 1 + 1 + 1, 0, none⟩) 2 2, .slice (some ⟨w.heap.size + 1 + 1 + 1 + 1 + 1 + 1 + 1 + 1, 0, none⟩) 2 2] 22 (0, 0))) := ⟨by rw [← hx]; exact (blk_alloc f142.out _)⟩; clear f142; have f165 : Aside0 (x42.heap[w.heap.size + 1 + 1 + 1 + 1 + 1 + 1 + 1 + 1 + 1 + 1]? = some (.cells #[.slice (some ⟨w.heap.size + 1 + 1 + 1 + 1 + 1, 0, none⟩) 2 2, .slice (some ⟨w.heap.size + 1 + 1 + 1 + 1 + 1 + 1 + 1 + 1 + 1, 0, none⟩) 3 3] 25 (0, 0))) := ⟨by rw [← hx]; exact (blk_alloc f143.out _)⟩; clear f143; have f166 : Aside0 (x42.heap[w.heap.size + 1 + 1 + 1 + 1 + 1 + 1 + 1 + 1 + 1 + 1 + 1]? = some (.cells #[.string (⟨#[97]⟩ : ByteArray), .string (⟨#[98]⟩ : ByteArray)] 9 (0, 0))) := ⟨by rw [← hx]; exact (blk_alloc f144.out _)⟩; clear f144; have f167 : Aside0 (x42.heap[w.heap.size + 1 + 1 + 1 + 1 + 1 + 1 + 1 + 1 + 1 + 1 + 1 + 1]? = some (.cells #[.string (⟨#[49]⟩ : ByteArray), .string (⟨#[120]⟩ : ByteArray)] 9 (0, 0))) := ⟨by rw [← hx]; exact (blk_alloc f145.out _)⟩; clear f145; have f168 : Aside0 (x42.heap[w.heap.size + 1 + 1 + 1 + 1 + 1 + 1 + 1 + 1 + 1 + 1 + 1 + 1 + 1]? = some (.cells #[.string (⟨#[49]⟩ : ByteArray), .string (⟨#[120]⟩ : ByteArray)] 9 (0, 0))) := ⟨by rw [← hx]; exact (blk_alloc f146.out _)⟩; clear f146; have f169 : Aside0 (x42.heap[w.heap.size + 1 + 1 + 1 + 1 + 1 + 1 + 1 + 1 + 1 + 1 + 1 + 1 + 1 + 1]? = some (.cells #[.slice (some ⟨w.heap.size + 1 + 1 + 1 + 1 + 1 + 1 + 1 + 1 + 1 + 1 + 1 + 1, 0, none⟩) 2 2, .slice (some ⟨w.heap.size + 1 + 1 + 1 + 1 + 1 + 1 + 1 + 1 + 1 + 1 + 1 + 1 + 1, 0, none⟩) 2 2] 22 (0, 0))) := ⟨by rw [← hx]; exact (blk_alloc f147.out _)⟩; clear f147; have f170 : Aside0 (x42.heap[w.heap.size + 1 + 1 + 1 + 1 + 1 + 1 + 1 + 1 + 1 + 1 + 1 + 1 + 1 + 1 + 1]? = some (.cells #[.slice (some ⟨w.heap.size + 1 + 1 + 1 + 1 + 1 + 1 + 1 + 1 + 1 + 1 + 1, 0, none⟩) 2 2, .slice (some ⟨w.heap.size + 1 + 1 + 1 + 1 + 1 + 1 + 1 + 1 + 1 + 1 + 1 + 1 + 1 + 1, 0, none⟩) 2 2] 25 (0, 0))) := ⟨by rw [← hx]; exact (blk_alloc f148.out _)⟩; clear f148; have f171 : Aside0 (x42.heap[w.heap.size + 1 + 1 + 1 + 1 + 1 + 1 + 1 + 1 + 1 + 1 + 1 + 1 + 1 + 1 + 1 + 1]? = some (.cells #[.slice (some ⟨w.heap.size, 0, none⟩) 2 2, .slice (some ⟨w.heap.size + 1 + 1 + 1, 0, none⟩) 2 2] 25 (0, 0))) := ⟨by rw [← hx]; exact (blk_alloc f149.out _)⟩; clear f149; have f172 : Aside0 (x42.heap[w29.heap.size]? = some (.cells #[.string (⟨#[98]⟩ : ByteArray)] 9 (0, 0))) := ⟨by rw [← hx]; exact (blk_alloc f150.out _)⟩; clear f150; have f173 : Aside0 (x42.heap[w31.heap.size]? = some (.cells #[.slice (some ⟨w.heap.size + 1 + 1 + 1 + 1 + 1, 0, none⟩) 2 2, .slice (some ⟨w.heap.size + 1 + 1 + 1 + 1 + 1 + 1 + 1 + 1 + 1, 0, none⟩) 3 3] 25 (0, 0))) := ⟨by rw [← hx]; exact (blk_alloc f151.out _)⟩; clear f151; have f174 : Aside0 (x42.heap[w36.heap.size]? = some (.cells #[.string (⟨#[97]⟩ : ByteArray), .string (⟨#[98]⟩ : ByteArray)] 9 (0, 0))) := ⟨by rw [← hx]; exact (blk_alloc f152.out _)⟩; clear f152; have f175 : Aside0 (x42.heap[w38.heap.size]? = some (.cells #[.string (⟨#[98]⟩ : ByteArray)] 9 (0, 0))) := ⟨by rw [← hx]; exact (blk_atk rfl)⟩; have HB2 : Aside0 (Below w.heap.size w x42) := ⟨by rw [← hx]; exact (below_alloc HB.out _)⟩; have HS : Aside0 (Below w38.heap.size w38 x42) := ⟨by rw [← hx]; exact (below_alloc (Below.refl _ _) _)⟩; clear HB; have HB := Aside0.mk HB2.out; clear HB2 hx; refine (keys_Places.calls 2000003 (some ⟨w.heap.size, 0, none⟩) 2 hW (some ⟨w.heap.size + 1 + 1 + 1, 0, none⟩) 2 tW.f1 (some ⟨w38.heap.size, 0, none⟩) 1 [(⟨#[98]⟩ : ByteArray)] [1] true x42 (C_blk hW (by decide) f155.out) (Nat.le_refl _) (C_rows _ (by decide) (fun j r hj => match j, hj with | 0, hj => by simp at hj; subst hj; exact ⟨_, 2, blk_cell f158.out 0, Nat.le_refl _, C_blk _ (by decide) f156.out⟩ | 1, hj => by simp at hj; subst hj; exact ⟨_, 2, blk_cell f158.out 1, Nat.le_refl _, C_blk _ (by decide) f157.out⟩ | j + 2, hj => by simp at hj)) (Nat.le_refl _) (C_blk [(⟨#[98]⟩ : ByteArray)] (by decide) f175.out) (Nat.le_refl _) ((places_some hW tW.f1 [(⟨#[98]⟩ : ByteArray)] (by decide) (by decide) (k := 2000003) (by decide)).trans (by rw [pl_t]))).mono ?_; rintro e w42 ⟨v42, rfl, ho, hd⟩; have f176 := Aside0.mk (blk_below f155.out hd); clear f155; have f177 := Aside0.mk (blk_below f156.out hd); clear f156; have f178 := Aside0.mk (blk_below f157.out hd); clear f157; have f179 := Aside0.mk (blk_below f158.out hd); clear f158; have f180 := Aside0.mk (blk_below f159.out hd); clear f159; have f181 := Aside0.mk (blk_below f160.out hd); clear f160; have f182 := Aside0.mk (blk_below f161.out hd); clear f161; have f183 := Aside0.mk (blk_below f162.out hd); clear f162; have f184 := Aside0.mk (blk_below f163.out hd); clear f163; have f185 := Aside0.mk (blk_below f164.out hd); clear f164; have f186 := Aside0.mk (blk_below f165.out hd); clear f165; have f187 := Aside0.mk (blk_below f166.out hd); clear f166; have f188 := Aside0.mk (blk_below f167.out hd); clear f167; have f189 := Aside0.mk (blk_below f168.out hd); clear f168; have f190 := Aside0.mk (blk_below f169.out hd); clear f169; have f191 := Aside0.mk (blk_below f170.out hd); clear f170; have f192 := Aside0.mk (blk_below f171.out hd); clear f171; have f193 := Aside0.mk (blk_below f172.out hd); clear f172; have f194 := Aside0.mk (blk_below f173.out hd); clear f173; have f195 := Aside0.mk (blk_below f174.out hd); clear f174; have f196 := Aside0.mk (blk_below f175.out hd); clear f175; have HT := Aside0.mk (below_step HS.out hd); have HB2 := Aside0.mk (below_step HB.out hd); clear HB; have HB := Aside0.mk HB2.out; clear HB2 HS HT hd; obtain ⟨A42, c42, rfl, hc42, hC42⟩ := Kd.R_reads ho; obtain ⟨ad42, e42, hx42⟩ := intAt hC42 (t := 0) (by decide); cases e42; rw [show ad42.add 0 = ad42 by simp [Addr.add]] at hx42; have HX42 : Aside0 (w42.cell? ad42 = some (.int .i64 1)) := ⟨hx42⟩; clear ho hC42 hx42; have k197 : (w42).cell? ⟨w.heap.size + 1 + 1 + 1 + 1, 0, none⟩ = #[.slice (some ⟨w.heap.size, 0, none⟩) 2 2, .slice (some ⟨w.heap.size + 1 + 1 + 1, 0, none⟩) 2 2][0]? := blk_cell f180.out 0; have k198 : (w42).cell? ⟨w.heap.size + 1 + 1 + 1 + 1, 1, none⟩ = #[.slice (some ⟨w.heap.size, 0, none⟩) 2 2, .slice (some ⟨w.heap.size + 1 + 1 + 1, 0, none⟩) 2 2][1]? := blk_cell f180.out 1; have st5 : True := trivial)
    | (go_at_call 23; clear st5; refine name_world (fun x48 hx => ?_); have f199 : Aside0 (x48.heap[w.heap.size]? = some (.cells #[.string (⟨#[97]⟩ : ByteArray), .string (⟨#[98]⟩ : ByteArray)] 9 (0, 0))) := ⟨by rw [← hx]; exact (blk_alloc (blk_alloc f176.out _) _)⟩; clear f176; have f200 : Aside0 (x48.heap[w.heap.size + 1]? = some (.cells #[.string (⟨#[49]⟩ : ByteArray), .string (⟨#[120]⟩ : ByteArray)] 9 (0, 0))) := ⟨by rw [← hx]; exact (blk_alloc (blk_alloc f177.out _) _)⟩; clear f177; have f201 : Aside0 (x48.heap[w.heap.size + 1 + 1]? = some (.cells #[.string (⟨#[49]⟩ : ByteArray), .string (⟨#[121]⟩ : ByteArray)] 9 (0, 0))) := ⟨by rw [← hx]; exact (blk_alloc (blk_alloc f178.out _) _)⟩; clear f178; have f202 : Aside0 (x48.heap[w.heap.size + 1 + 1 + 1]? = some (.cells #[.slice (some ⟨w.heap.size + 1, 0, none⟩) 2 2, .slice (some ⟨w.heap.size + 1 + 1, 0, none⟩) 2 2] 22 (0, 0))) := ⟨by rw [← hx]; exact (blk_alloc (blk_alloc f179.out _) _)⟩; clear f179; have f203 : Aside0 (x48.heap[w.heap.size + 1 + 1 + 1 + 1]? = some (.cells #[.slice (some ⟨w.heap.size, 0, none⟩) 2 2, .slice (some ⟨w.heap.size + 1 + 1 + 1, 0, none⟩) 2 2] 25 (0, 0))) := ⟨by rw [← hx]; exact (blk_alloc (blk_alloc f180.out _) _)⟩; clear f180; have f204 : Aside0 (x48.heap[w.heap.size + 1 + 1 + 1 + 1 + 1]? = some (.cells #[.string (⟨#[97]⟩ : ByteArray), .string (⟨#[98]⟩ : ByteArray)] 9 (0, 0))) := ⟨by rw [← hx]; exact (blk_alloc (blk_alloc f181.out _) _)⟩; clear f181; have f205 : Aside0 (x48.heap[w.heap.size + 1 + 1 + 1 + 1 + 1 + 1]? = some (.cells #[.string (⟨#[49]⟩ : ByteArray), .string (⟨#[120]⟩ : ByteArray)] 9 (0, 0))) := ⟨by rw [← hx]; exact (blk_alloc (blk_alloc f182.out _) _)⟩; clear f182; have f206 : Aside0 (x48.heap[w.heap.size + 1 + 1 + 1 + 1 + 1 + 1 + 1]? = some (.cells #[.string (⟨#[49]⟩ : ByteArray), .string (⟨#[121]⟩ : ByteArray)] 9 (0, 0))) := ⟨by rw [← hx]; exact (blk_alloc (blk_alloc f183.out _) _)⟩; clear f183; have f207 : Aside0 (x48.heap[w.heap.size + 1 + 1 + 1 + 1 + 1 + 1 + 1 + 1]? = some (.cells #[.string (⟨#[50]⟩ : ByteArray), .string (⟨#[120]⟩ : ByteArray)] 9 (0, 0))) := ⟨by rw [← hx]; exact (blk_alloc (blk_alloc f184.out _) _)⟩; clear f184; have f208 : Aside0 (x48.heap[w.heap.size + 1 + 1 + 1 + 1 + 1 + 1 + 1 + 1 + 1]? = some (.cells #[.slice (some ⟨w.heap.size + 1 + 1 + 1 + 1 + 1 + 1, 0, none⟩) 2 2, .slice (some ⟨w.heap.size + 1 + 1 + 1 + 1 + 1 + 1 + 1, 0, none⟩) 2 2, .slice (some ⟨w.heap.size + 1 + 1 + 1 + 1 + 1 + 1 + 1 + 1, 0, none⟩) 2 2] 22 (0, 0))) := ⟨by rw [← hx]; exact (blk_alloc (blk_alloc f185.out _) _)⟩; clear f185; have f209 : Aside0 (x48.heap[w.heap.size + 1 + 1 + 1 + 1 + 1 + 1 + 1 + 1 + 1 + 1]? = some (.cells #[.slice (some ⟨w.heap.size + 1 + 1 + 1 + 1 + 1, 0, none⟩) 2 2, .slice (some ⟨w.heap.size + 1 + 1 + 1 + 1 + 1 + 1 + 1 + 1 + 1, 0, none⟩) 3 3] 25 (0, 0))) := ⟨by rw [← hx]; exact (blk_alloc (blk_alloc f186.out _) _)⟩; clear f186; have f210 : Aside0 (x48.heap[w.heap.size + 1 + 1 + 1 + 1 + 1 + 1 + 1 + 1 + 1 + 1 + 1]? = some (.cells #[.string (⟨#[97]⟩ : ByteArray), .string (⟨#[98]⟩ : ByteArray)] 9 (0, 0))) := ⟨by rw [← hx]; exact (blk_alloc (blk_alloc f187.out _) _)⟩; clear f187; have f211 : Aside0 (x48.heap[w.heap.size + 1 + 1 + 1 + 1 + 1 + 1 + 1 + 1 + 1 + 1 + 1 + 1]? = some (.cells #[.string (⟨#[49]⟩ : ByteArray), .string (⟨#[120]⟩ : ByteArray)] 9 (0, 0))) := ⟨by rw [← hx]; exact (blk_alloc (blk_alloc f188.out _) _)⟩; clear f188; have f212 : Aside0 (x48.heap[w.heap.size + 1 + 1 + 1 + 1 + 1 + 1 + 1 + 1 + 1 + 1 + 1 + 1 + 1]? = some (.cells #[.string (⟨#[49]⟩ : ByteArray), .string (⟨#[120]⟩ : ByteArray)] 9 (0, 0))) := ⟨by rw [← hx]; exact (blk_alloc (blk_alloc f189.out _) _)⟩; clear f189; have f213 : Aside0 (x48.heap[w.heap.size + 1 + 1 + 1 + 1 + 1 + 1 + 1 + 1 + 1 + 1 + 1 + 1 + 1 + 1]? = some (.cells #[.slice (some ⟨w.heap.size + 1 + 1 + 1 + 1 + 1 + 1 + 1 + 1 + 1 + 1 + 1 + 1, 0, none⟩) 2 2, .slice (some ⟨w.heap.size + 1 + 1 + 1 + 1 + 1 + 1 + 1 + 1 + 1 + 1 + 1 + 1 + 1, 0, none⟩) 2 2] 22 (0, 0))) := ⟨by rw [← hx]; exact (blk_alloc (blk_alloc f190.out _) _)⟩; clear f190; have f214 : Aside0 (x48.heap[w.heap.size + 1 + 1 + 1 + 1 + 1 + 1 + 1 + 1 + 1 + 1 + 1 + 1 + 1 + 1 + 1]? = some (.cells #[.slice (some ⟨w.heap.size + 1 + 1 + 1 + 1 + 1 + 1 + 1 + 1 + 1 + 1 + 1, 0, none⟩) 2 2, .slice (some ⟨w.heap.size + 1 + 1 + 1 + 1 + 1 + 1 + 1 + 1 + 1 + 1 + 1 + 1 + 1 + 1, 0, none⟩) 2 2] 25 (0, 0))) := ⟨by rw [← hx]; exact (blk_alloc (blk_alloc f191.out _) _)⟩; clear f191; have f215 : Aside0 (x48.heap[w.heap.size + 1 + 1 + 1 + 1 + 1 + 1 + 1 + 1 + 1 + 1 + 1 + 1 + 1 + 1 + 1 + 1]? = some (.cells #[.slice (some ⟨w.heap.size, 0, none⟩) 2 2, .slice (some ⟨w.heap.size + 1 + 1 + 1, 0, none⟩) 2 2] 25 (0, 0))) := ⟨by rw [← hx]; exact (blk_alloc (blk_alloc f192.out _) _)⟩; clear f192; have f216 : Aside0 (x48.heap[w29.heap.size]? = some (.cells #[.string (⟨#[98]⟩ : ByteArray)] 9 (0, 0))) := ⟨by rw [← hx]; exact (blk_alloc (blk_alloc f193.out _) _)⟩; clear f193; have f217 : Aside0 (x48.heap[w31.heap.size]? = some (.cells #[.slice (some ⟨w.heap.size + 1 + 1 + 1 + 1 + 1, 0, none⟩) 2 2, .slice (some ⟨w.heap.size + 1 + 1 + 1 + 1 + 1 + 1 + 1 + 1 + 1, 0, none⟩) 3 3] 25 (0, 0))) := ⟨by rw [← hx]; exact (blk_alloc (blk_alloc f194.out _) _)⟩; clear f194; have f218 : Aside0 (x48.heap[w36.heap.size]? = some (.cells #[.string (⟨#[97]⟩ : ByteArray), .string (⟨#[98]⟩ : ByteArray)] 9 (0, 0))) := ⟨by rw [← hx]; exact (blk_alloc (blk_alloc f195.out _) _)⟩; clear f195; have f219 : Aside0 (x48.heap[w38.heap.size]? = some (.cells #[.string (⟨#[98]⟩ : ByteArray)] 9 (0, 0))) := ⟨by rw [← hx]; exact (blk_alloc (blk_alloc f196.out _) _)⟩; clear f196; have f220 : Aside0 (x48.heap[w42.heap.size]? = some (.cells #[.slice (some ⟨w.heap.size, 0, none⟩) 2 2, .slice (some ⟨w.heap.size + 1 + 1 + 1, 0, none⟩) 2 2] 25 (0, 0))) := ⟨by rw [← hx]; exact (blk_alloc (blk_atk rfl) _)⟩; have f221 : Aside0 (x48.heap[w42.heap.size + 1]? = some (.cells #[.string (⟨#[97]⟩ : ByteArray)] 9 (0, 0))) := ⟨by rw [← hx]; exact (blk_atk (by simp only [World.size_alloc]))⟩; have HB2 : Aside0 (Below w.heap.size w x48) := ⟨by rw [← hx]; exact (below_alloc (below_alloc HB.out _) _)⟩; have HS : Aside0 (Below w42.heap.size w42 x48) := ⟨by rw [← hx]; exact (below_alloc (below_alloc (Below.refl _ _) _) _)⟩; clear HB; have HB := Aside0.mk HB2.out; clear HB2 hx; refine (keyOf_calls (some ⟨w42.heap.size, 0, none⟩) 1 [tW] (some ⟨w42.heap.size + 1, 0, none⟩) 1 [(⟨#[97]⟩ : ByteArray)] x48 (TabC.one (T := tW) ⟨Nat.le_refl _, (C_blk hW (by decide) f199.out), Nat.le_refl _, (C_rows _ (by decide) (fun j r hj => match j, hj with | 0, hj => by simp at hj; subst hj; exact ⟨_, 2, blk_cell f202.out 0, Nat.le_refl _, C_blk _ (by decide) f200.out⟩ | 1, hj => by simp at hj; subst hj; exact ⟨_, 2, blk_cell f202.out 1, Nat.le_refl _, C_blk _ (by decide) f201.out⟩ | j + 2, hj => by simp at hj))⟩ (blk_cell f220.out 0) (blk_cell f220.out 1)) (C_blk [(⟨#[97]⟩ : ByteArray)] (by decide) f221.out) (Nat.le_refl _) (by decide) (by decide) ok_t hd_t).mono ?_; rintro e w48 ⟨v48, rfl, ho, hd⟩; have f222 := Aside0.mk (blk_below f199.out hd); clear f199; have f223 := Aside0.mk (blk_below f200.out hd); clear f200; have f224 := Aside0.mk (blk_below f201.out hd); clear f201; have f225 := Aside0.mk (blk_below f202.out hd); clear f202; have f226 := Aside0.mk (blk_below f203.out hd); clear f203; have f227 := Aside0.mk (blk_below f204.out hd); clear f204; have f228 := Aside0.mk (blk_below f205.out hd); clear f205; have f229 := Aside0.mk (blk_below f206.out hd); clear f206; have f230 := Aside0.mk (blk_below f207.out hd); clear f207; have f231 := Aside0.mk (blk_below f208.out hd); clear f208; have f232 := Aside0.mk (blk_below f209.out hd); clear f209; have f233 := Aside0.mk (blk_below f210.out hd); clear f210; have f234 := Aside0.mk (blk_below f211.out hd); clear f211; have f235 := Aside0.mk (blk_below f212.out hd); clear f212; have f236 := Aside0.mk (blk_below f213.out hd); clear f213; have f237 := Aside0.mk (blk_below f214.out hd); clear f214; have f238 := Aside0.mk (blk_below f215.out hd); clear f215; have f239 := Aside0.mk (blk_below f216.out hd); clear f216; have f240 := Aside0.mk (blk_below f217.out hd); clear f217; have f241 := Aside0.mk (blk_below f218.out hd); clear f218; have f242 := Aside0.mk (blk_below f219.out hd); clear f219; have f243 := Aside0.mk (blk_below f220.out hd); clear f220; have f244 := Aside0.mk (blk_below f221.out hd); clear f221; have HT := Aside0.mk (below_step HS.out hd); have HX42' := Aside0.mk ((HT.out.cell (World.block_lt_of_cell? _ _ HX42.out)).trans HX42.out); clear HX42; have HX42 := Aside0.mk HX42'.out; clear HX42'; have HB2 := Aside0.mk (below_step HB.out hd); clear HB; have HB := Aside0.mk HB2.out; clear HB2 HS HT hd; rw [of_t] at ho; obtain ⟨A48, c48, rfl, hc48, hC48⟩ := Kd.R_reads ho; have HC48 := Aside0.mk hC48; clear ho hC48; have st6 : True := trivial)
    | (go_at_call 20; clear st6; refine name_world (fun x50 hx => ?_); have f245 : Aside0 (x50.heap[w.heap.size]? = some (.cells #[.string (⟨#[97]⟩ : ByteArray), .string (⟨#[98]⟩ : ByteArray)] 9 (0, 0))) := ⟨by rw [← hx]; exact (blk_alloc f222.out _)⟩; clear f222; have f246 : Aside0 (x50.heap[w.heap.size + 1]? = some (.cells #[.string (⟨#[49]⟩ : ByteArray), .string (⟨#[120]⟩ : ByteArray)] 9 (0, 0))) := ⟨by rw [← hx]; exact (blk_alloc f223.out _)⟩; clear f223; have f247 : Aside0 (x50.heap[w.heap.size + 1 + 1]? = some (.cells #[.string (⟨#[49]⟩ : ByteArray), .string (⟨#[121]⟩ : ByteArray)] 9 (0, 0))) := ⟨by rw [← hx]; exact (blk_alloc f224.out _)⟩; clear f224; have f248 : Aside0 (x50.heap[w.heap.size + 1 + 1 + 1]? = some (.cells #[.slice (some ⟨w.heap.size + 1, 0, none⟩) 2 2, .slice (some ⟨w.heap.size + 1 + 1, 0, none⟩) 2 2] 22 (0, 0))) := ⟨by rw [← hx]; exact (blk_alloc f225.out _)⟩; clear f225; have f249 : Aside0 (x50.heap[w.heap.size + 1 + 1 + 1 + 1]? = some (.cells #[.slice (some ⟨w.heap.size, 0, none⟩) 2 2, .slice (some ⟨w.heap.size + 1 + 1 + 1, 0, none⟩) 2 2] 25 (0, 0))) := ⟨by rw [← hx]; exact (blk_alloc f226.out _)⟩; clear f226; have f250 : Aside0 (x50.heap[w.heap.size + 1 + 1 + 1 + 1 + 1]? = some (.cells #[.string (⟨#[97]⟩ : ByteArray), .string (⟨#[98]⟩ : ByteArray)] 9 (0, 0))) := ⟨by rw [← hx]; exact (blk_alloc f227.out _)⟩; clear f227; have f251 : Aside0 (x50.heap[w.heap.size + 1 + 1 + 1 + 1 + 1 + 1]? = some (.cells #[.string (⟨#[49]⟩ : ByteArray), .string (⟨#[120]⟩ : ByteArray)] 9 (0, 0))) := ⟨by rw [← hx]; exact (blk_alloc f228.out _)⟩; clear f228; have f252 : Aside0 (x50.heap[w.heap.size + 1 + 1 + 1 + 1 + 1 + 1 + 1]? = some (.cells #[.string (⟨#[49]⟩ : ByteArray), .string (⟨#[121]⟩ : ByteArray)] 9 (0, 0))) := ⟨by rw [← hx]; exact (blk_alloc f229.out _)⟩; clear f229; have f253 : Aside0 (x50.heap[w.heap.size + 1 + 1 + 1 + 1 + 1 + 1 + 1 + 1]? = some (.cells #[.string (⟨#[50]⟩ : ByteArray), .string (⟨#[120]⟩ : ByteArray)] 9 (0, 0))) := ⟨by rw [← hx]; exact (blk_alloc f230.out _)⟩; clear f230; have f254 : Aside0 (x50.heap[w.heap.size + 1 + 1 + 1 + 1 + 1 + 1 + 1 + 1 + 1]? = some (.cells #[.slice (some ⟨w.heap.size + 1 + 1 + 1 + 1 + 1 + 1, 0, none⟩) 2 2, .slice (some ⟨w.heap.size + 1 + 1 + 1 + 1 + 1 + 1 + 1, 0, none⟩) 2 2, .slice (some ⟨w.heap.size + 1 + 1 + 1 + 1 + 1 + 1 + 1 + 1, 0, none⟩) 2 2] 22 (0, 0))) := ⟨by rw [← hx]; exact (blk_alloc f231.out _)⟩; clear f231; have f255 : Aside0 (x50.heap[w.heap.size + 1 + 1 + 1 + 1 + 1 + 1 + 1 + 1 + 1 + 1]? = some (.cells #[.slice (some ⟨w.heap.size + 1 + 1 + 1 + 1 + 1, 0, none⟩) 2 2, .slice (some ⟨w.heap.size + 1 + 1 + 1 + 1 + 1 + 1 + 1 + 1 + 1, 0, none⟩) 3 3] 25 (0, 0))) := ⟨by rw [← hx]; exact (blk_alloc f232.out _)⟩; clear f232; have f256 : Aside0 (x50.heap[w.heap.size + 1 + 1 + 1 + 1 + 1 + 1 + 1 + 1 + 1 + 1 + 1]? = some (.cells #[.string (⟨#[97]⟩ : ByteArray), .string (⟨#[98]⟩ : ByteArray)] 9 (0, 0))) := ⟨by rw [← hx]; exact (blk_alloc f233.out _)⟩; clear f233; have f257 : Aside0 (x50.heap[w.heap.size + 1 + 1 + 1 + 1 + 1 + 1 + 1 + 1 + 1 + 1 + 1 + 1]? = some (.cells #[.string (⟨#[49]⟩ : ByteArray), .string (⟨#[120]⟩ : ByteArray)] 9 (0, 0))) := ⟨by rw [← hx]; exact (blk_alloc f234.out _)⟩; clear f234; have f258 : Aside0 (x50.heap[w.heap.size + 1 + 1 + 1 + 1 + 1 + 1 + 1 + 1 + 1 + 1 + 1 + 1 + 1]? = some (.cells #[.string (⟨#[49]⟩ : ByteArray), .string (⟨#[120]⟩ : ByteArray)] 9 (0, 0))) := ⟨by rw [← hx]; exact (blk_alloc f235.out _)⟩; clear f235; have f259 : Aside0 (x50.heap[w.heap.size + 1 + 1 + 1 + 1 + 1 + 1 + 1 + 1 + 1 + 1 + 1 + 1 + 1 + 1]? = some (.cells #[.slice (some ⟨w.heap.size + 1 + 1 + 1 + 1 + 1 + 1 + 1 + 1 + 1 + 1 + 1 + 1, 0, none⟩) 2 2, .slice (some ⟨w.heap.size + 1 + 1 + 1 + 1 + 1 + 1 + 1 + 1 + 1 + 1 + 1 + 1 + 1, 0, none⟩) 2 2] 22 (0, 0))) := ⟨by rw [← hx]; exact (blk_alloc f236.out _)⟩; clear f236; have f260 : Aside0 (x50.heap[w.heap.size + 1 + 1 + 1 + 1 + 1 + 1 + 1 + 1 + 1 + 1 + 1 + 1 + 1 + 1 + 1]? = some (.cells #[.slice (some ⟨w.heap.size + 1 + 1 + 1 + 1 + 1 + 1 + 1 + 1 + 1 + 1 + 1, 0, none⟩) 2 2, .slice (some ⟨w.heap.size + 1 + 1 + 1 + 1 + 1 + 1 + 1 + 1 + 1 + 1 + 1 + 1 + 1 + 1, 0, none⟩) 2 2] 25 (0, 0))) := ⟨by rw [← hx]; exact (blk_alloc f237.out _)⟩; clear f237; have f261 : Aside0 (x50.heap[w.heap.size + 1 + 1 + 1 + 1 + 1 + 1 + 1 + 1 + 1 + 1 + 1 + 1 + 1 + 1 + 1 + 1]? = some (.cells #[.slice (some ⟨w.heap.size, 0, none⟩) 2 2, .slice (some ⟨w.heap.size + 1 + 1 + 1, 0, none⟩) 2 2] 25 (0, 0))) := ⟨by rw [← hx]; exact (blk_alloc f238.out _)⟩; clear f238; have f262 : Aside0 (x50.heap[w29.heap.size]? = some (.cells #[.string (⟨#[98]⟩ : ByteArray)] 9 (0, 0))) := ⟨by rw [← hx]; exact (blk_alloc f239.out _)⟩; clear f239; have f263 : Aside0 (x50.heap[w31.heap.size]? = some (.cells #[.slice (some ⟨w.heap.size + 1 + 1 + 1 + 1 + 1, 0, none⟩) 2 2, .slice (some ⟨w.heap.size + 1 + 1 + 1 + 1 + 1 + 1 + 1 + 1 + 1, 0, none⟩) 3 3] 25 (0, 0))) := ⟨by rw [← hx]; exact (blk_alloc f240.out _)⟩; clear f240; have f264 : Aside0 (x50.heap[w36.heap.size]? = some (.cells #[.string (⟨#[97]⟩ : ByteArray), .string (⟨#[98]⟩ : ByteArray)] 9 (0, 0))) := ⟨by rw [← hx]; exact (blk_alloc f241.out _)⟩; clear f241; have f265 : Aside0 (x50.heap[w38.heap.size]? = some (.cells #[.string (⟨#[98]⟩ : ByteArray)] 9 (0, 0))) := ⟨by rw [← hx]; exact (blk_alloc f242.out _)⟩; clear f242; have f266 : Aside0 (x50.heap[w42.heap.size]? = some (.cells #[.slice (some ⟨w.heap.size, 0, none⟩) 2 2, .slice (some ⟨w.heap.size + 1 + 1 + 1, 0, none⟩) 2 2] 25 (0, 0))) := ⟨by rw [← hx]; exact (blk_alloc f243.out _)⟩; clear f243; have f267 : Aside0 (x50.heap[w42.heap.size + 1]? = some (.cells #[.string (⟨#[97]⟩ : ByteArray)] 9 (0, 0))) := ⟨by rw [← hx]; exact (blk_alloc f244.out _)⟩; clear f244; have f268 : Aside0 (x50.heap[w48.heap.size]? = some (.cells #[.string (⟨#[98]⟩ : ByteArray)] 9 (0, 0))) := ⟨by rw [← hx]; exact (blk_atk rfl)⟩; have HB2 : Aside0 (Below w.heap.size w x50) := ⟨by rw [← hx]; exact (below_alloc HB.out _)⟩; have HS : Aside0 (Below w48.heap.size w48 x50) := ⟨by rw [← hx]; exact (below_alloc (Below.refl _ _) _)⟩; clear HB; have HB := Aside0.mk HB2.out; clear HB2 hx; refine (rowW A48 c48 [(⟨#[98]⟩ : ByteArray)] (some ⟨w48.heap.size, 0, none⟩) 1 x50 (Kd.C_below HC48.out HS.out) hc48 (C_blk [(⟨#[98]⟩ : ByteArray)] (by decide) f268.out) (Nat.le_refl _) row_b).mono ?_; rintro e w50 ⟨rfl, hd⟩; have f269 := Aside0.mk (blk_below f245.out hd); clear f245; have f270 := Aside0.mk (blk_below f246.out hd); clear f246; have f271 := Aside0.mk (blk_below f247.out hd); clear f247; have f272 := Aside0.mk (blk_below f248.out hd); clear f248; have f273 := Aside0.mk (blk_below f249.out hd); clear f249; have f274 := Aside0.mk (blk_below f250.out hd); clear f250; have f275 := Aside0.mk (blk_below f251.out hd); clear f251; have f276 := Aside0.mk (blk_below f252.out hd); clear f252; have f277 := Aside0.mk (blk_below f253.out hd); clear f253; have f278 := Aside0.mk (blk_below f254.out hd); clear f254; have f279 := Aside0.mk (blk_below f255.out hd); clear f255; have f280 := Aside0.mk (blk_below f256.out hd); clear f256; have f281 := Aside0.mk (blk_below f257.out hd); clear f257; have f282 := Aside0.mk (blk_below f258.out hd); clear f258; have f283 := Aside0.mk (blk_below f259.out hd); clear f259; have f284 := Aside0.mk (blk_below f260.out hd); clear f260; have f285 := Aside0.mk (blk_below f261.out hd); clear f261; have f286 := Aside0.mk (blk_below f262.out hd); clear f262; have f287 := Aside0.mk (blk_below f263.out hd); clear f263; have f288 := Aside0.mk (blk_below f264.out hd); clear f264; have f289 := Aside0.mk (blk_below f265.out hd); clear f265; have f290 := Aside0.mk (blk_below f266.out hd); clear f266; have f291 := Aside0.mk (blk_below f267.out hd); clear f267; have f292 := Aside0.mk (blk_below f268.out hd); clear f268; have HT := Aside0.mk (below_step HS.out hd); have HX42' := Aside0.mk ((HT.out.cell (World.block_lt_of_cell? _ _ HX42.out)).trans HX42.out); clear HX42; have HX42 := Aside0.mk HX42'.out; clear HX42'; have HB2 := Aside0.mk (below_step HB.out hd); clear HB; have HB := Aside0.mk HB2.out; clear HB2 HS HT hd; have k293 : (w50).cell? ⟨w.heap.size + 1 + 1 + 1 + 1 + 1 + 1 + 1 + 1 + 1 + 1 + 1 + 1 + 1 + 1 + 1, 0, none⟩ = #[.slice (some ⟨w.heap.size + 1 + 1 + 1 + 1 + 1 + 1 + 1 + 1 + 1 + 1 + 1, 0, none⟩) 2 2, .slice (some ⟨w.heap.size + 1 + 1 + 1 + 1 + 1 + 1 + 1 + 1 + 1 + 1 + 1 + 1 + 1 + 1, 0, none⟩) 2 2][0]? := blk_cell f284.out 0; have k294 : (w50).cell? ⟨w.heap.size + 1 + 1 + 1 + 1 + 1 + 1 + 1 + 1 + 1 + 1 + 1 + 1 + 1 + 1 + 1, 1, none⟩ = #[.slice (some ⟨w.heap.size + 1 + 1 + 1 + 1 + 1 + 1 + 1 + 1 + 1 + 1 + 1, 0, none⟩) 2 2, .slice (some ⟨w.heap.size + 1 + 1 + 1 + 1 + 1 + 1 + 1 + 1 + 1 + 1 + 1 + 1 + 1 + 1, 0, none⟩) 2 2][1]? := blk_cell f284.out 1; have k295 : (w50.alloc (.cells #[.slice (some ⟨w.heap.size + 1 + 1 + 1 + 1 + 1 + 1 + 1 + 1 + 1 + 1 + 1, 0, none⟩) 2 2, .slice (some ⟨w.heap.size + 1 + 1 + 1 + 1 + 1 + 1 + 1 + 1 + 1 + 1 + 1 + 1 + 1 + 1, 0, none⟩) 2 2] 25 (0, 0))).cell? ⟨w.heap.size + 1 + 1 + 1 + 1 + 1 + 1 + 1 + 1 + 1 + 1 + 1 + 1 + 1 + 1 + 1, 0, none⟩ = #[.slice (some ⟨w.heap.size + 1 + 1 + 1 + 1 + 1 + 1 + 1 + 1 + 1 + 1 + 1, 0, none⟩) 2 2, .slice (some ⟨w.heap.size + 1 + 1 + 1 + 1 + 1 + 1 + 1 + 1 + 1 + 1 + 1 + 1 + 1 + 1, 0, none⟩) 2 2][0]? := blk_cell (blk_alloc f284.out _) 0; have k296 : (w50.alloc (.cells #[.slice (some ⟨w.heap.size + 1 + 1 + 1 + 1 + 1 + 1 + 1 + 1 + 1 + 1 + 1, 0, none⟩) 2 2, .slice (some ⟨w.heap.size + 1 + 1 + 1 + 1 + 1 + 1 + 1 + 1 + 1 + 1 + 1 + 1 + 1 + 1, 0, none⟩) 2 2] 25 (0, 0))).cell? ⟨w.heap.size + 1 + 1 + 1 + 1 + 1 + 1 + 1 + 1 + 1 + 1 + 1 + 1 + 1 + 1 + 1, 1, none⟩ = #[.slice (some ⟨w.heap.size + 1 + 1 + 1 + 1 + 1 + 1 + 1 + 1 + 1 + 1 + 1, 0, none⟩) 2 2, .slice (some ⟨w.heap.size + 1 + 1 + 1 + 1 + 1 + 1 + 1 + 1 + 1 + 1 + 1 + 1 + 1 + 1, 0, none⟩) 2 2][1]? := blk_cell (blk_alloc f284.out _) 1; have st7 : True := trivial)
    | (go_at_call 21; clear st7; refine name_world (fun x63 hx => ?_); have f297 : Aside0 (x63.heap[w.heap.size]? = some (.cells #[.string (⟨#[97]⟩ : ByteArray), .string (⟨#[98]⟩ : ByteArray)] 9 (0, 0))) := ⟨by rw [← hx]; exact (blk_alloc f269.out _)⟩; clear f269; have f298 : Aside0 (x63.heap[w.heap.size + 1]? = some (.cells #[.string (⟨#[49]⟩ : ByteArray), .string (⟨#[120]⟩ : ByteArray)] 9 (0, 0))) := ⟨by rw [← hx]; exact (blk_alloc f270.out _)⟩; clear f270; have f299 : Aside0 (x63.heap[w.heap.size + 1 + 1]? = some (.cells #[.string (⟨#[49]⟩ : ByteArray), .string (⟨#[121]⟩ : ByteArray)] 9 (0, 0))) := ⟨by rw [← hx]; exact (blk_alloc f271.out _)⟩; clear f271; have f300 : Aside0 (x63.heap[w.heap.size + 1 + 1 + 1]? = some (.cells #[.slice (some ⟨w.heap.size + 1, 0, none⟩) 2 2, .slice (some ⟨w.heap.size + 1 + 1, 0, none⟩) 2 2] 22 (0, 0))) := ⟨by rw [← hx]; exact (blk_alloc f272.out _)⟩; clear f272; have f301 : Aside0 (x63.heap[w.heap.size + 1 + 1 + 1 + 1]? = some (.cells #[.slice (some ⟨w.heap.size, 0, none⟩) 2 2, .slice (some ⟨w.heap.size + 1 + 1 + 1, 0, none⟩) 2 2] 25 (0, 0))) := ⟨by rw [← hx]; exact (blk_alloc f273.out _)⟩; clear f273; have f302 : Aside0 (x63.heap[w.heap.size + 1 + 1 + 1 + 1 + 1]? = some (.cells #[.string (⟨#[97]⟩ : ByteArray), .string (⟨#[98]⟩ : ByteArray)] 9 (0, 0))) := ⟨by rw [← hx]; exact (blk_alloc f274.out _)⟩; clear f274; have f303 : Aside0 (x63.heap[w.heap.size + 1 + 1 + 1 + 1 + 1 + 1]? = some (.cells #[.string (⟨#[49]⟩ : ByteArray), .string (⟨#[120]⟩ : ByteArray)] 9 (0, 0))) := ⟨by rw [← hx]; exact (blk_alloc f275.out _)⟩; clear f275; have f304 : Aside0 (x63.heap[w.heap.size + 1 + 1 + 1 + 1 + 1 + 1 + 1]? = some (.cells #[.string (⟨#[49]⟩ : ByteArray), .string (⟨#[121]⟩ : ByteArray)] 9 (0, 0))) := ⟨by rw [← hx]; exact (blk_alloc f276.out _)⟩; clear f276; have f305 : Aside0 (x63.heap[w.heap.size + 1 + 1 + 1 + 1 + 1 + 1 + 1 + 1]? = some (.cells #[.string (⟨#[50]⟩ : ByteArray), .string (⟨#[120]⟩ : ByteArray)] 9 (0, 0))) := ⟨by rw [← hx]; exact (blk_alloc f277.out _)⟩; clear f277; have f306 : Aside0 (x63.heap[w.heap.size + 1 + 1 + 1 + 1 + 1 + 1 + 1 + 1 + 1]? = some (.cells #[.slice (some ⟨w.heap.size + 1 + 1 + 1 + 1 + 1 + 1, 0, none⟩) 2 2, .slice (some ⟨w.heap.size + 1 + 1 + 1 + 1 + 1 + 1 + 1, 0, none⟩) 2 2, .slice (some ⟨w.heap.size + 1 + 1 + 1 + 1 + 1 + 1 + 1 + 1, 0, none⟩) 2 2] 22 (0, 0))) := ⟨by rw [← hx]; exact (blk_alloc f278.out _)⟩; clear f278; have f307 : Aside0 (x63.heap[w.heap.size + 1 + 1 + 1 + 1 + 1 + 1 + 1 + 1 + 1 + 1]? = some (.cells #[.slice (some ⟨w.heap.size + 1 + 1 + 1 + 1 + 1, 0, none⟩) 2 2, .slice (some ⟨w.heap.size + 1 + 1 + 1 + 1 + 1 + 1 + 1 + 1 + 1, 0, none⟩) 3 3] 25 (0, 0))) := ⟨by rw [← hx]; exact (blk_alloc f279.out _)⟩; clear f279; have f308 : Aside0 (x63.heap[w.heap.size + 1 + 1 + 1 + 1 + 1 + 1 + 1 + 1 + 1 + 1 + 1]? = some (.cells #[.string (⟨#[97]⟩ : ByteArray), .string (⟨#[98]⟩ : ByteArray)] 9 (0, 0))) := ⟨by rw [← hx]; exact (blk_alloc f280.out _)⟩; clear f280; have f309 : Aside0 (x63.heap[w.heap.size + 1 + 1 + 1 + 1 + 1 + 1 + 1 + 1 + 1 + 1 + 1 + 1]? = some (.cells #[.string (⟨#[49]⟩ : ByteArray), .string (⟨#[120]⟩ : ByteArray)] 9 (0, 0))) := ⟨by rw [← hx]; exact (blk_alloc f281.out _)⟩; clear f281; have f310 : Aside0 (x63.heap[w.heap.size + 1 + 1 + 1 + 1 + 1 + 1 + 1 + 1 + 1 + 1 + 1 + 1 + 1]? = some (.cells #[.string (⟨#[49]⟩ : ByteArray), .string (⟨#[120]⟩ : ByteArray)] 9 (0, 0))) := ⟨by rw [← hx]; exact (blk_alloc f282.out _)⟩; clear f282; have f311 : Aside0 (x63.heap[w.heap.size + 1 + 1 + 1 + 1 + 1 + 1 + 1 + 1 + 1 + 1 + 1 + 1 + 1 + 1]? = some (.cells #[.slice (some ⟨w.heap.size + 1 + 1 + 1 + 1 + 1 + 1 + 1 + 1 + 1 + 1 + 1 + 1, 0, none⟩) 2 2, .slice (some ⟨w.heap.size + 1 + 1 + 1 + 1 + 1 + 1 + 1 + 1 + 1 + 1 + 1 + 1 + 1, 0, none⟩) 2 2] 22 (0, 0))) := ⟨by rw [← hx]; exact (blk_alloc f283.out _)⟩; clear f283; have f312 : Aside0 (x63.heap[w.heap.size + 1 + 1 + 1 + 1 + 1 + 1 + 1 + 1 + 1 + 1 + 1 + 1 + 1 + 1 + 1]? = some (.cells #[.slice (some ⟨w.heap.size + 1 + 1 + 1 + 1 + 1 + 1 + 1 + 1 + 1 + 1 + 1, 0, none⟩) 2 2, .slice (some ⟨w.heap.size + 1 + 1 + 1 + 1 + 1 + 1 + 1 + 1 + 1 + 1 + 1 + 1 + 1 + 1, 0, none⟩) 2 2] 25 (0, 0))) := ⟨by rw [← hx]; exact (blk_alloc f284.out _)⟩; clear f284; have f313 : Aside0 (x63.heap[w.heap.size + 1 + 1 + 1 + 1 + 1 + 1 + 1 + 1 + 1 + 1 + 1 + 1 + 1 + 1 + 1 + 1]? = some (.cells #[.slice (some ⟨w.heap.size, 0, none⟩) 2 2, .slice (some ⟨w.heap.size + 1 + 1 + 1, 0, none⟩) 2 2] 25 (0, 0))) := ⟨by rw [← hx]; exact (blk_alloc f285.out _)⟩; clear f285; have f314 : Aside0 (x63.heap[w29.heap.size]? = some (.cells #[.string (⟨#[98]⟩ : ByteArray)] 9 (0, 0))) := ⟨by rw [← hx]; exact (blk_alloc f286.out _)⟩; clear f286; have f315 : Aside0 (x63.heap[w31.heap.size]? = some (.cells #[.slice (some ⟨w.heap.size + 1 + 1 + 1 + 1 + 1, 0, none⟩) 2 2, .slice (some ⟨w.heap.size + 1 + 1 + 1 + 1 + 1 + 1 + 1 + 1 + 1, 0, none⟩) 3 3] 25 (0, 0))) := ⟨by rw [← hx]; exact (blk_alloc f287.out _)⟩; clear f287; have f316 : Aside0 (x63.heap[w36.heap.size]? = some (.cells #[.string (⟨#[97]⟩ : ByteArray), .string (⟨#[98]⟩ : ByteArray)] 9 (0, 0))) := ⟨by rw [← hx]; exact (blk_alloc f288.out _)⟩; clear f288; have f317 : Aside0 (x63.heap[w38.heap.size]? = some (.cells #[.string (⟨#[98]⟩ : ByteArray)] 9 (0, 0))) := ⟨by rw [← hx]; exact (blk_alloc f289.out _)⟩; clear f289; have f318 : Aside0 (x63.heap[w42.heap.size]? = some (.cells #[.slice (some ⟨w.heap.size, 0, none⟩) 2 2, .slice (some ⟨w.heap.size + 1 + 1 + 1, 0, none⟩) 2 2] 25 (0, 0))) := ⟨by rw [← hx]; exact (blk_alloc f290.out _)⟩; clear f290; have f319 : Aside0 (x63.heap[w42.heap.size + 1]? = some (.cells #[.string (⟨#[97]⟩ : ByteArray)] 9 (0, 0))) := ⟨by rw [← hx]; exact (blk_alloc f291.out _)⟩; clear f291; have f320 : Aside0 (x63.heap[w48.heap.size]? = some (.cells #[.string (⟨#[98]⟩ : ByteArray)] 9 (0, 0))) := ⟨by rw [← hx]; exact (blk_alloc f292.out _)⟩; clear f292; have f321 : Aside0 (x63.heap[w50.heap.size]? = some (.cells #[.slice (some ⟨w.heap.size + 1 + 1 + 1 + 1 + 1 + 1 + 1 + 1 + 1 + 1 + 1, 0, none⟩) 2 2, .slice (some ⟨w.heap.size + 1 + 1 + 1 + 1 + 1 + 1 + 1 + 1 + 1 + 1 + 1 + 1 + 1 + 1, 0, none⟩) 2 2] 25 (0, 0))) := ⟨by rw [← hx]; exact (blk_atk rfl)⟩; have HB2 : Aside0 (Below w.heap.size w x63) := ⟨by rw [← hx]; exact (below_alloc HB.out _)⟩; have HS : Aside0 (Below w50.heap.size w50 x63) := ⟨by rw [← hx]; exact (below_alloc (Below.refl _ _) _)⟩; clear HB; have HB := Aside0.mk HB2.out; clear HB2 hx; refine (infer_calls (some ⟨w50.heap.size, 0, none⟩) 1 [vW] (some ⟨w.heap.size + 1 + 1 + 1 + 1 + 1 + 1 + 1 + 1 + 1 + 1 + 1, 0, none⟩) 2 hW x63 (TabC.one (T := vW) ⟨Nat.le_refl _, (C_blk hW (by decide) f308.out), Nat.le_refl _, (C_rows _ (by decide) (fun j r hj => match j, hj with | 0, hj => by simp at hj; subst hj; exact ⟨_, 2, blk_cell f311.out 0, Nat.le_refl _, C_blk _ (by decide) f309.out⟩ | 1, hj => by simp at hj; subst hj; exact ⟨_, 2, blk_cell f311.out 1, Nat.le_refl _, C_blk _ (by decide) f310.out⟩ | j + 2, hj => by simp at hj))⟩ (blk_cell f321.out 0) (blk_cell f321.out 1)) (C_blk hW (by decide) f308.out) (Nat.le_refl _) (by decide) (by decide) ok_v).mono ?_; rintro e w63 ⟨v63, rfl, ho, hd⟩; have f322 := Aside0.mk (blk_below f297.out hd); clear f297; have f323 := Aside0.mk (blk_below f298.out hd); clear f298; have f324 := Aside0.mk (blk_below f299.out hd); clear f299; have f325 := Aside0.mk (blk_below f300.out hd); clear f300; have f326 := Aside0.mk (blk_below f301.out hd); clear f301; have f327 := Aside0.mk (blk_below f302.out hd); clear f302; have f328 := Aside0.mk (blk_below f303.out hd); clear f303; have f329 := Aside0.mk (blk_below f304.out hd); clear f304; have f330 := Aside0.mk (blk_below f305.out hd); clear f305; have f331 := Aside0.mk (blk_below f306.out hd); clear f306; have f332 := Aside0.mk (blk_below f307.out hd); clear f307; have f333 := Aside0.mk (blk_below f308.out hd); clear f308; have f334 := Aside0.mk (blk_below f309.out hd); clear f309; have f335 := Aside0.mk (blk_below f310.out hd); clear f310; have f336 := Aside0.mk (blk_below f311.out hd); clear f311; have f337 := Aside0.mk (blk_below f312.out hd); clear f312; have f338 := Aside0.mk (blk_below f313.out hd); clear f313; have f339 := Aside0.mk (blk_below f314.out hd); clear f314; have f340 := Aside0.mk (blk_below f315.out hd); clear f315; have f341 := Aside0.mk (blk_below f316.out hd); clear f316; have f342 := Aside0.mk (blk_below f317.out hd); clear f317; have f343 := Aside0.mk (blk_below f318.out hd); clear f318; have f344 := Aside0.mk (blk_below f319.out hd); clear f319; have f345 := Aside0.mk (blk_below f320.out hd); clear f320; have f346 := Aside0.mk (blk_below f321.out hd); clear f321; have HT := Aside0.mk (below_step HS.out hd); have HX42' := Aside0.mk ((HT.out.cell (World.block_lt_of_cell? _ _ HX42.out)).trans HX42.out); clear HX42; have HX42 := Aside0.mk HX42'.out; clear HX42'; have HB2 := Aside0.mk (below_step HB.out hd); clear HB; have HB := Aside0.mk HB2.out; clear HB2 HS HT hd; rw [inf_v] at ho; obtain ⟨A63, c63, rfl, hc63, hC63⟩ := Kd.R_reads ho; have HC63 := Aside0.mk hC63; clear ho hC63; have hx42 := HX42.out; have k347 : (w63).cell? ⟨w.heap.size + 1 + 1 + 1 + 1, 0, none⟩ = #[.slice (some ⟨w.heap.size, 0, none⟩) 2 2, .slice (some ⟨w.heap.size + 1 + 1 + 1, 0, none⟩) 2 2][0]? := blk_cell f326.out 0; have k348 : (w63).cell? ⟨w.heap.size + 1 + 1 + 1 + 1, 1, none⟩ = #[.slice (some ⟨w.heap.size, 0, none⟩) 2 2, .slice (some ⟨w.heap.size + 1 + 1 + 1, 0, none⟩) 2 2][1]? := blk_cell f326.out 1; have st8 : True := trivial)
    | (go_at_call 19; clear st8; refine name_world (fun x84 hx => ?_); have f349 : Aside0 (x84.heap[w.heap.size]? = some (.cells #[.string (⟨#[97]⟩ : ByteArray), .string (⟨#[98]⟩ : ByteArray)] 9 (0, 0))) := ⟨by rw [← hx]; exact (blk_alloc f322.out _)⟩; clear f322; have f350 : Aside0 (x84.heap[w.heap.size + 1]? = some (.cells #[.string (⟨#[49]⟩ : ByteArray), .string (⟨#[120]⟩ : ByteArray)] 9 (0, 0))) := ⟨by rw [← hx]; exact (blk_alloc f323.out _)⟩; clear f323; have f351 : Aside0 (x84.heap[w.heap.size + 1 + 1]? = some (.cells #[.string (⟨#[49]⟩ : ByteArray), .string (⟨#[121]⟩ : ByteArray)] 9 (0, 0))) := ⟨by rw [← hx]; exact (blk_alloc f324.out _)⟩; clear f324; have f352 : Aside0 (x84.heap[w.heap.size + 1 + 1 + 1]? = some (.cells #[.slice (some ⟨w.heap.size + 1, 0, none⟩) 2 2, .slice (some ⟨w.heap.size + 1 + 1, 0, none⟩) 2 2] 22 (0, 0))) := ⟨by rw [← hx]; exact (blk_alloc f325.out _)⟩; clear f325; have f353 : Aside0 (x84.heap[w.heap.size + 1 + 1 + 1 + 1]? = some (.cells #[.slice (some ⟨w.heap.size, 0, none⟩) 2 2, .slice (some ⟨w.heap.size + 1 + 1 + 1, 0, none⟩) 2 2] 25 (0, 0))) := ⟨by rw [← hx]; exact (blk_alloc f326.out _)⟩; clear f326; have f354 : Aside0 (x84.heap[w.heap.size + 1 + 1 + 1 + 1 + 1]? = some (.cells #[.string (⟨#[97]⟩ : ByteArray), .string (⟨#[98]⟩ : ByteArray)] 9 (0, 0))) := ⟨by rw [← hx]; exact (blk_alloc f327.out _)⟩; clear f327; have f355 : Aside0 (x84.heap[w.heap.size + 1 + 1 + 1 + 1 + 1 + 1]? = some (.cells #[.string (⟨#[49]⟩ : ByteArray), .string (⟨#[120]⟩ : ByteArray)] 9 (0, 0))) := ⟨by rw [← hx]; exact (blk_alloc f328.out _)⟩; clear f328; have f356 : Aside0 (x84.heap[w.heap.size + 1 + 1 + 1 + 1 + 1 + 1 + 1]? = some (.cells #[.string (⟨#[49]⟩ : ByteArray), .string (⟨#[121]⟩ : ByteArray)] 9 (0, 0))) := ⟨by rw [← hx]; exact (blk_alloc f329.out _)⟩; clear f329; have f357 : Aside0 (x84.heap[w.heap.size + 1 + 1 + 1 + 1 + 1 + 1 + 1 + 1]? = some (.cells #[.string (⟨#[50]⟩ : ByteArray), .string (⟨#[120]⟩ : ByteArray)] 9 (0, 0))) := ⟨by rw [← hx]; exact (blk_alloc f330.out _)⟩; clear f330; have f358 : Aside0 (x84.heap[w.heap.size + 1 + 1 + 1 + 1 + 1 + 1 + 1 + 1 + 1]? = some (.cells #[.slice (some ⟨w.heap.size + 1 + 1 + 1 + 1 + 1 + 1, 0, none⟩) 2 2, .slice (some ⟨w.heap.size + 1 + 1 + 1 + 1 + 1 + 1 + 1, 0, none⟩) 2 2, .slice (some ⟨w.heap.size + 1 + 1 + 1 + 1 + 1 + 1 + 1 + 1, 0, none⟩) 2 2] 22 (0, 0))) := ⟨by rw [← hx]; exact (blk_alloc f331.out _)⟩; clear f331; have f359 : Aside0 (x84.heap[w.heap.size + 1 + 1 + 1 + 1 + 1 + 1 + 1 + 1 + 1 + 1]? = some (.cells #[.slice (some ⟨w.heap.size + 1 + 1 + 1 + 1 + 1, 0, none⟩) 2 2, .slice (some ⟨w.heap.size + 1 + 1 + 1 + 1 + 1 + 1 + 1 + 1 + 1, 0, none⟩) 3 3] 25 (0, 0))) := ⟨by rw [← hx]; exact (blk_alloc f332.out _)⟩; clear f332; have f360 : Aside0 (x84.heap[w.heap.size + 1 + 1 + 1 + 1 + 1 + 1 + 1 + 1 + 1 + 1 + 1]? = some (.cells #[.string (⟨#[97]⟩ : ByteArray), .string (⟨#[98]⟩ : ByteArray)] 9 (0, 0))) := ⟨by rw [← hx]; exact (blk_alloc f333.out _)⟩; clear f333; have f361 : Aside0 (x84.heap[w.heap.size + 1 + 1 + 1 + 1 + 1 + 1 + 1 + 1 + 1 + 1 + 1 + 1]? = some (.cells #[.string (⟨#[49]⟩ : ByteArray), .string (⟨#[120]⟩ : ByteArray)] 9 (0, 0))) := ⟨by rw [← hx]; exact (blk_alloc f334.out _)⟩; clear f334; have f362 : Aside0 (x84.heap[w.heap.size + 1 + 1 + 1 + 1 + 1 + 1 + 1 + 1 + 1 + 1 + 1 + 1 + 1]? = some (.cells #[.string (⟨#[49]⟩ : ByteArray), .string (⟨#[120]⟩ : ByteArray)] 9 (0, 0))) := ⟨by rw [← hx]; exact (blk_alloc f335.out _)⟩; clear f335; have f363 : Aside0 (x84.heap[w.heap.size + 1 + 1 + 1 + 1 + 1 + 1 + 1 + 1 + 1 + 1 + 1 + 1 + 1 + 1]? = some (.cells #[.slice (some ⟨w.heap.size + 1 + 1 + 1 + 1 + 1 + 1 + 1 + 1 + 1 + 1 + 1 + 1, 0, none⟩) 2 2, .slice (some ⟨w.heap.size + 1 + 1 + 1 + 1 + 1 + 1 + 1 + 1 + 1 + 1 + 1 + 1 + 1, 0, none⟩) 2 2] 22 (0, 0))) := ⟨by rw [← hx]; exact (blk_alloc f336.out _)⟩; clear f336; have f364 : Aside0 (x84.heap[w.heap.size + 1 + 1 + 1 + 1 + 1 + 1 + 1 + 1 + 1 + 1 + 1 + 1 + 1 + 1 + 1]? = some (.cells #[.slice (some ⟨w.heap.size + 1 + 1 + 1 + 1 + 1 + 1 + 1 + 1 + 1 + 1 + 1, 0, none⟩) 2 2, .slice (some ⟨w.heap.size + 1 + 1 + 1 + 1 + 1 + 1 + 1 + 1 + 1 + 1 + 1 + 1 + 1 + 1, 0, none⟩) 2 2] 25 (0, 0))) := ⟨by rw [← hx]; exact (blk_alloc f337.out _)⟩; clear f337; have f365 : Aside0 (x84.heap[w.heap.size + 1 + 1 + 1 + 1 + 1 + 1 + 1 + 1 + 1 + 1 + 1 + 1 + 1 + 1 + 1 + 1]? = some (.cells #[.slice (some ⟨w.heap.size, 0, none⟩) 2 2, .slice (some ⟨w.heap.size + 1 + 1 + 1, 0, none⟩) 2 2] 25 (0, 0))) := ⟨by rw [← hx]; exact (blk_alloc f338.out _)⟩; clear f338; have f366 : Aside0 (x84.heap[w29.heap.size]? = some (.cells #[.string (⟨#[98]⟩ : ByteArray)] 9 (0, 0))) := ⟨by rw [← hx]; exact (blk_alloc f339.out _)⟩; clear f339; have f367 : Aside0 (x84.heap[w31.heap.size]? = some (.cells #[.slice (some ⟨w.heap.size + 1 + 1 + 1 + 1 + 1, 0, none⟩) 2 2, .slice (some ⟨w.heap.size + 1 + 1 + 1 + 1 + 1 + 1 + 1 + 1 + 1, 0, none⟩) 3 3] 25 (0, 0))) := ⟨by rw [← hx]; exact (blk_alloc f340.out _)⟩; clear f340; have f368 : Aside0 (x84.heap[w36.heap.size]? = some (.cells #[.string (⟨#[97]⟩ : ByteArray), .string (⟨#[98]⟩ : ByteArray)] 9 (0, 0))) := ⟨by rw [← hx]; exact (blk_alloc f341.out _)⟩; clear f341; have f369 : Aside0 (x84.heap[w38.heap.size]? = some (.cells #[.string (⟨#[98]⟩ : ByteArray)] 9 (0, 0))) := ⟨by rw [← hx]; exact (blk_alloc f342.out _)⟩; clear f342; have f370 : Aside0 (x84.heap[w42.heap.size]? = some (.cells #[.slice (some ⟨w.heap.size, 0, none⟩) 2 2, .slice (some ⟨w.heap.size + 1 + 1 + 1, 0, none⟩) 2 2] 25 (0, 0))) := ⟨by rw [← hx]; exact (blk_alloc f343.out _)⟩; clear f343; have f371 : Aside0 (x84.heap[w42.heap.size + 1]? = some (.cells #[.string (⟨#[97]⟩ : ByteArray)] 9 (0, 0))) := ⟨by rw [← hx]; exact (blk_alloc f344.out _)⟩; clear f344; have f372 : Aside0 (x84.heap[w48.heap.size]? = some (.cells #[.string (⟨#[98]⟩ : ByteArray)] 9 (0, 0))) := ⟨by rw [← hx]; exact (blk_alloc f345.out _)⟩; clear f345; have f373 : Aside0 (x84.heap[w50.heap.size]? = some (.cells #[.slice (some ⟨w.heap.size + 1 + 1 + 1 + 1 + 1 + 1 + 1 + 1 + 1 + 1 + 1, 0, none⟩) 2 2, .slice (some ⟨w.heap.size + 1 + 1 + 1 + 1 + 1 + 1 + 1 + 1 + 1 + 1 + 1 + 1 + 1 + 1, 0, none⟩) 2 2] 25 (0, 0))) := ⟨by rw [← hx]; exact (blk_alloc f346.out _)⟩; clear f346; have f374 : Aside0 (x84.heap[w63.heap.size]? = some (.cells #[.int .i64 1] 3 (0, 0))) := ⟨by rw [← hx]; exact (blk_atk rfl)⟩; have HB2 : Aside0 (Below w.heap.size w x84) := ⟨by rw [← hx]; exact (below_alloc HB.out _)⟩; have HS : Aside0 (Below w63.heap.size w63 x84) := ⟨by rw [← hx]; exact (below_alloc (Below.refl _ _) _)⟩; clear HB; have HB := Aside0.mk HB2.out; clear HB2 hx; refine (keys_Unique.calls (some ⟨w.heap.size, 0, none⟩) 2 hW (some ⟨w.heap.size + 1 + 1 + 1, 0, none⟩) 2 tW.f1 (some ⟨w63.heap.size, 0, none⟩) 1 [1] true x84 (C_blk hW (by decide) f349.out) (Nat.le_refl _) (C_rows _ (by decide) (fun j r hj => match j, hj with | 0, hj => by simp at hj; subst hj; exact ⟨_, 2, blk_cell f352.out 0, Nat.le_refl _, C_blk _ (by decide) f350.out⟩ | 1, hj => by simp at hj; subst hj; exact ⟨_, 2, blk_cell f352.out 1, Nat.le_refl _, C_blk _ (by decide) f351.out⟩ | j + 2, hj => by simp at hj)) (Nat.le_refl _) (C_oneI f374.out) (Nat.le_refl _) un_tf).mono ?_; rintro e w84 ⟨rfl, hd⟩; have f375 := Aside0.mk (blk_below f349.out hd); clear f349; have f376 := Aside0.mk (blk_below f350.out hd); clear f350; have f377 := Aside0.mk (blk_below f351.out hd); clear f351; have f378 := Aside0.mk (blk_below f352.out hd); clear f352; have f379 := Aside0.mk (blk_below f353.out hd); clear f353; have f380 := Aside0.mk (blk_below f354.out hd); clear f354; have f381 := Aside0.mk (blk_below f355.out hd); clear f355; have f382 := Aside0.mk (blk_below f356.out hd); clear f356; have f383 := Aside0.mk (blk_below f357.out hd); clear f357; have f384 := Aside0.mk (blk_below f358.out hd); clear f358; have f385 := Aside0.mk (blk_below f359.out hd); clear f359; have f386 := Aside0.mk (blk_below f360.out hd); clear f360; have f387 := Aside0.mk (blk_below f361.out hd); clear f361; have f388 := Aside0.mk (blk_below f362.out hd); clear f362; have f389 := Aside0.mk (blk_below f363.out hd); clear f363; have f390 := Aside0.mk (blk_below f364.out hd); clear f364; have f391 := Aside0.mk (blk_below f365.out hd); clear f365; have f392 := Aside0.mk (blk_below f366.out hd); clear f366; have f393 := Aside0.mk (blk_below f367.out hd); clear f367; have f394 := Aside0.mk (blk_below f368.out hd); clear f368; have f395 := Aside0.mk (blk_below f369.out hd); clear f369; have f396 := Aside0.mk (blk_below f370.out hd); clear f370; have f397 := Aside0.mk (blk_below f371.out hd); clear f371; have f398 := Aside0.mk (blk_below f372.out hd); clear f372; have f399 := Aside0.mk (blk_below f373.out hd); clear f373; have f400 := Aside0.mk (blk_below f374.out hd); clear f374; have HT := Aside0.mk (below_step HS.out hd); have HB2 := Aside0.mk (below_step HB.out hd); clear HB; have HB := Aside0.mk HB2.out; clear HB2 HS HT hd; have k401 : (w84).cell? ⟨w.heap.size + 1 + 1 + 1 + 1, 0, none⟩ = #[.slice (some ⟨w.heap.size, 0, none⟩) 2 2, .slice (some ⟨w.heap.size + 1 + 1 + 1, 0, none⟩) 2 2][0]? := blk_cell f379.out 0; have k402 : (w84).cell? ⟨w.heap.size + 1 + 1 + 1 + 1, 1, none⟩ = #[.slice (some ⟨w.heap.size, 0, none⟩) 2 2, .slice (some ⟨w.heap.size + 1 + 1 + 1, 0, none⟩) 2 2][1]? := blk_cell f379.out 1; have st9 : True := trivial)
    | (go_at_call 19; clear st9; have HS := Aside0.mk (Below.refl w84.heap.size w84); refine (keys_Unique.calls (some ⟨w.heap.size, 0, none⟩) 2 hW (some ⟨w.heap.size + 1 + 1 + 1, 0, none⟩) 2 tW.f1 none 0 [] false w84 (C_blk hW (by decide) f375.out) (Nat.le_refl _) (C_rows _ (by decide) (fun j r hj => match j, hj with | 0, hj => by simp at hj; subst hj; exact ⟨_, 2, blk_cell f378.out 0, Nat.le_refl _, C_blk _ (by decide) f376.out⟩ | 1, hj => by simp at hj; subst hj; exact ⟨_, 2, blk_cell f378.out 1, Nat.le_refl _, C_blk _ (by decide) f377.out⟩ | j + 2, hj => by simp at hj)) (Nat.le_refl _) (C_noI _) (Nat.le_refl _) un_nf).mono ?_; rintro e w88 ⟨rfl, hd⟩; have f403 := Aside0.mk (blk_below f375.out hd); clear f375; have f404 := Aside0.mk (blk_below f376.out hd); clear f376; have f405 := Aside0.mk (blk_below f377.out hd); clear f377; have f406 := Aside0.mk (blk_below f378.out hd); clear f378; have f407 := Aside0.mk (blk_below f379.out hd); clear f379; have f408 := Aside0.mk (blk_below f380.out hd); clear f380; have f409 := Aside0.mk (blk_below f381.out hd); clear f381; have f410 := Aside0.mk (blk_below f382.out hd); clear f382; have f411 := Aside0.mk (blk_below f383.out hd); clear f383; have f412 := Aside0.mk (blk_below f384.out hd); clear f384; have f413 := Aside0.mk (blk_below f385.out hd); clear f385; have f414 := Aside0.mk (blk_below f386.out hd); clear f386; have f415 := Aside0.mk (blk_below f387.out hd); clear f387; have f416 := Aside0.mk (blk_below f388.out hd); clear f388; have f417 := Aside0.mk (blk_below f389.out hd); clear f389; have f418 := Aside0.mk (blk_below f390.out hd); clear f390; have f419 := Aside0.mk (blk_below f391.out hd); clear f391; have f420 := Aside0.mk (blk_below f392.out hd); clear f392; have f421 := Aside0.mk (blk_below f393.out hd); clear f393; have f422 := Aside0.mk (blk_below f394.out hd); clear f394; have f423 := Aside0.mk (blk_below f395.out hd); clear f395; have f424 := Aside0.mk (blk_below f396.out hd); clear f396; have f425 := Aside0.mk (blk_below f397.out hd); clear f397; have f426 := Aside0.mk (blk_below f398.out hd); clear f398; have f427 := Aside0.mk (blk_below f399.out hd); clear f399; have f428 := Aside0.mk (blk_below f400.out hd); clear f400; have HT := Aside0.mk (below_step HS.out hd); have HB2 := Aside0.mk (below_step HB.out hd); clear HB; have HB := Aside0.mk HB2.out; clear HB2 HS HT hd; have k429 : (w88).cell? ⟨w.heap.size + 1 + 1 + 1 + 1, 0, none⟩ = #[.slice (some ⟨w.heap.size, 0, none⟩) 2 2, .slice (some ⟨w.heap.size + 1 + 1 + 1, 0, none⟩) 2 2][0]? := blk_cell f407.out 0; have k430 : (w88).cell? ⟨w.heap.size + 1 + 1 + 1 + 1, 1, none⟩ = #[.slice (some ⟨w.heap.size, 0, none⟩) 2 2, .slice (some ⟨w.heap.size + 1 + 1 + 1, 0, none⟩) 2 2][1]? := blk_cell f407.out 1; have st10 : True := trivial)
    | (go_at_call 25; clear st10; refine name_world (fun x95 hx => ?_); have f431 : Aside0 (x95.heap[w.heap.size]? = some (.cells #[.string (⟨#[97]⟩ : ByteArray), .string (⟨#[98]⟩ : ByteArray)] 9 (0, 0))) := ⟨by rw [← hx]; exact (blk_alloc (blk_alloc f403.out _) _)⟩; clear f403; have f432 : Aside0 (x95.heap[w.heap.size + 1]? = some (.cells #[.string (⟨#[49]⟩ : ByteArray), .string (⟨#[120]⟩ : ByteArray)] 9 (0, 0))) := ⟨by rw [← hx]; exact (blk_alloc (blk_alloc f404.out _) _)⟩; clear f404; have f433 : Aside0 (x95.heap[w.heap.size + 1 + 1]? = some (.cells #[.string (⟨#[49]⟩ : ByteArray), .string (⟨#[121]⟩ : ByteArray)] 9 (0, 0))) := ⟨by rw [← hx]; exact (blk_alloc (blk_alloc f405.out _) _)⟩; clear f405; have f434 : Aside0 (x95.heap[w.heap.size + 1 + 1 + 1]? = some (.cells #[.slice (some ⟨w.heap.size + 1, 0, none⟩) 2 2, .slice (some ⟨w.heap.size + 1 + 1, 0, none⟩) 2 2] 22 (0, 0))) := ⟨by rw [← hx]; exact (blk_alloc (blk_alloc f406.out _) _)⟩; clear f406; have f435 : Aside0 (x95.heap[w.heap.size + 1 + 1 + 1 + 1]? = some (.cells #[.slice (some ⟨w.heap.size, 0, none⟩) 2 2, .slice (some ⟨w.heap.size + 1 + 1 + 1, 0, none⟩) 2 2] 25 (0, 0))) := ⟨by rw [← hx]; exact (blk_alloc (blk_alloc f407.out _) _)⟩; clear f407; have f436 : Aside0 (x95.heap[w.heap.size + 1 + 1 + 1 + 1 + 1]? = some (.cells #[.string (⟨#[97]⟩ : ByteArray), .string (⟨#[98]⟩ : ByteArray)] 9 (0, 0))) := ⟨by rw [← hx]; exact (blk_alloc (blk_alloc f408.out _) _)⟩; clear f408; have f437 : Aside0 (x95.heap[w.heap.size + 1 + 1 + 1 + 1 + 1 + 1]? = some (.cells #[.string (⟨#[49]⟩ : ByteArray), .string (⟨#[120]⟩ : ByteArray)] 9 (0, 0))) := ⟨by rw [← hx]; exact (blk_alloc (blk_alloc f409.out _) _)⟩; clear f409; have f438 : Aside0 (x95.heap[w.heap.size + 1 + 1 + 1 + 1 + 1 + 1 + 1]? = some (.cells #[.string (⟨#[49]⟩ : ByteArray), .string (⟨#[121]⟩ : ByteArray)] 9 (0, 0))) := ⟨by rw [← hx]; exact (blk_alloc (blk_alloc f410.out _) _)⟩; clear f410; have f439 : Aside0 (x95.heap[w.heap.size + 1 + 1 + 1 + 1 + 1 + 1 + 1 + 1]? = some (.cells #[.string (⟨#[50]⟩ : ByteArray), .string (⟨#[120]⟩ : ByteArray)] 9 (0, 0))) := ⟨by rw [← hx]; exact (blk_alloc (blk_alloc f411.out _) _)⟩; clear f411; have f440 : Aside0 (x95.heap[w.heap.size + 1 + 1 + 1 + 1 + 1 + 1 + 1 + 1 + 1]? = some (.cells #[.slice (some ⟨w.heap.size + 1 + 1 + 1 + 1 + 1 + 1, 0, none⟩) 2 2, .slice (some ⟨w.heap.size + 1 + 1 + 1 + 1 + 1 + 1 + 1, 0, none⟩) 2 2, .slice (some ⟨w.heap.size + 1 + 1 + 1 + 1 + 1 + 1 + 1 + 1, 0, none⟩) 2 2] 22 (0, 0))) := ⟨by rw [← hx]; exact (blk_alloc (blk_alloc f412.out _) _)⟩; clear f412; have f441 : Aside0 (x95.heap[w.heap.size + 1 + 1 + 1 + 1 + 1 + 1 + 1 + 1 + 1 + 1]? = some (.cells #[.slice (some ⟨w.heap.size + 1 + 1 + 1 + 1 + 1, 0, none⟩) 2 2, .slice (some ⟨w.heap.size + 1 + 1 + 1 + 1 + 1 + 1 + 1 + 1 + 1, 0, none⟩) 3 3] 25 (0, 0))) := ⟨by rw [← hx]; exact (blk_alloc (blk_alloc f413.out _) _)⟩; clear f413; have f442 : Aside0 (x95.heap[w.heap.size + 1 + 1 + 1 + 1 + 1 + 1 + 1 + 1 + 1 + 1 + 1]? = some (.cells #[.string (⟨#[97]⟩ : ByteArray), .string (⟨#[98]⟩ : ByteArray)] 9 (0, 0))) := ⟨by rw [← hx]; exact (blk_alloc (blk_alloc f414.out _) _)⟩; clear f414; have f443 : Aside0 (x95.heap[w.heap.size + 1 + 1 + 1 + 1 + 1 + 1 + 1 + 1 + 1 + 1 + 1 + 1]? = some (.cells #[.string (⟨#[49]⟩ : ByteArray), .string (⟨#[120]⟩ : ByteArray)] 9 (0, 0))) := ⟨by rw [← hx]; exact (blk_alloc (blk_alloc f415.out _) _)⟩; clear f415; have f444 : Aside0 (x95.heap[w.heap.size + 1 + 1 + 1 + 1 + 1 + 1 + 1 + 1 + 1 + 1 + 1 + 1 + 1]? = some (.cells #[.string (⟨#[49]⟩ : ByteArray), .string (⟨#[120]⟩ : ByteArray)] 9 (0, 0))) := ⟨by rw [← hx]; exact (blk_alloc (blk_alloc f416.out _) _)⟩; clear f416; have f445 : Aside0 (x95.heap[w.heap.size + 1 + 1 + 1 + 1 + 1 + 1 + 1 + 1 + 1 + 1 + 1 + 1 + 1 + 1]? = some (.cells #[.slice (some ⟨w.heap.size + 1 + 1 + 1 + 1 + 1 + 1 + 1 + 1 + 1 + 1 + 1 + 1, 0, none⟩) 2 2, .slice (some ⟨w.heap.size + 1 + 1 + 1 + 1 + 1 + 1 + 1 + 1 + 1 + 1 + 1 + 1 + 1, 0, none⟩) 2 2] 22 (0, 0))) := ⟨by rw [← hx]; exact (blk_alloc (blk_alloc f417.out _) _)⟩; clear f417; have f446 : Aside0 (x95.heap[w.heap.size + 1 + 1 + 1 + 1 + 1 + 1 + 1 + 1 + 1 + 1 + 1 + 1 + 1 + 1 + 1]? = some (.cells #[.slice (some ⟨w.heap.size + 1 + 1 + 1 + 1 + 1 + 1 + 1 + 1 + 1 + 1 + 1, 0, none⟩) 2 2, .slice (some ⟨w.heap.size + 1 + 1 + 1 + 1 + 1 + 1 + 1 + 1 + 1 + 1 + 1 + 1 + 1 + 1, 0, none⟩) 2 2] 25 (0, 0))) := ⟨by rw [← hx]; exact (blk_alloc (blk_alloc f418.out _) _)⟩; clear f418; have f447 : Aside0 (x95.heap[w.heap.size + 1 + 1 + 1 + 1 + 1 + 1 + 1 + 1 + 1 + 1 + 1 + 1 + 1 + 1 + 1 + 1]? = some (.cells #[.slice (some ⟨w.heap.size, 0, none⟩) 2 2, .slice (some ⟨w.heap.size + 1 + 1 + 1, 0, none⟩) 2 2] 25 (0, 0))) := ⟨by rw [← hx]; exact (blk_alloc (blk_alloc f419.out _) _)⟩; clear f419; have f448 : Aside0 (x95.heap[w29.heap.size]? = some (.cells #[.string (⟨#[98]⟩ : ByteArray)] 9 (0, 0))) := ⟨by rw [← hx]; exact (blk_alloc (blk_alloc f420.out _) _)⟩; clear f420; have f449 : Aside0 (x95.heap[w31.heap.size]? = some (.cells #[.slice (some ⟨w.heap.size + 1 + 1 + 1 + 1 + 1, 0, none⟩) 2 2, .slice (some ⟨w.heap.size + 1 + 1 + 1 + 1 + 1 + 1 + 1 + 1 + 1, 0, none⟩) 3 3] 25 (0, 0))) := ⟨by rw [← hx]; exact (blk_alloc (blk_alloc f421.out _) _)⟩; clear f421; have f450 : Aside0 (x95.heap[w36.heap.size]? = some (.cells #[.string (⟨#[97]⟩ : ByteArray), .string (⟨#[98]⟩ : ByteArray)] 9 (0, 0))) := ⟨by rw [← hx]; exact (blk_alloc (blk_alloc f422.out _) _)⟩; clear f422; have f451 : Aside0 (x95.heap[w38.heap.size]? = some (.cells #[.string (⟨#[98]⟩ : ByteArray)] 9 (0, 0))) := ⟨by rw [← hx]; exact (blk_alloc (blk_alloc f423.out _) _)⟩; clear f423; have f452 : Aside0 (x95.heap[w42.heap.size]? = some (.cells #[.slice (some ⟨w.heap.size, 0, none⟩) 2 2, .slice (some ⟨w.heap.size + 1 + 1 + 1, 0, none⟩) 2 2] 25 (0, 0))) := ⟨by rw [← hx]; exact (blk_alloc (blk_alloc f424.out _) _)⟩; clear f424; have f453 : Aside0 (x95.heap[w42.heap.size + 1]? = some (.cells #[.string (⟨#[97]⟩ : ByteArray)] 9 (0, 0))) := ⟨by rw [← hx]; exact (blk_alloc (blk_alloc f425.out _) _)⟩; clear f425; have f454 : Aside0 (x95.heap[w48.heap.size]? = some (.cells #[.string (⟨#[98]⟩ : ByteArray)] 9 (0, 0))) := ⟨by rw [← hx]; exact (blk_alloc (blk_alloc f426.out _) _)⟩; clear f426; have f455 : Aside0 (x95.heap[w50.heap.size]? = some (.cells #[.slice (some ⟨w.heap.size + 1 + 1 + 1 + 1 + 1 + 1 + 1 + 1 + 1 + 1 + 1, 0, none⟩) 2 2, .slice (some ⟨w.heap.size + 1 + 1 + 1 + 1 + 1 + 1 + 1 + 1 + 1 + 1 + 1 + 1 + 1 + 1, 0, none⟩) 2 2] 25 (0, 0))) := ⟨by rw [← hx]; exact (blk_alloc (blk_alloc f427.out _) _)⟩; clear f427; have f456 : Aside0 (x95.heap[w63.heap.size]? = some (.cells #[.int .i64 1] 3 (0, 0))) := ⟨by rw [← hx]; exact (blk_alloc (blk_alloc f428.out _) _)⟩; clear f428; have f457 : Aside0 (x95.heap[w88.heap.size]? = some (.cells #[.slice (some ⟨w.heap.size, 0, none⟩) 2 2, .slice (some ⟨w.heap.size + 1 + 1 + 1, 0, none⟩) 2 2] 25 (0, 0))) := ⟨by rw [← hx]; exact (blk_alloc (blk_atk rfl) _)⟩; have f458 : Aside0 (x95.heap[w88.heap.size + 1]? = some (.cells #[.string (⟨#[98]⟩ : ByteArray)] 9 (0, 0))) := ⟨by rw [← hx]; exact (blk_atk (by simp only [World.size_alloc]))⟩; have HB2 : Aside0 (Below w.heap.size w x95) := ⟨by rw [← hx]; exact (below_alloc (below_alloc HB.out _) _)⟩; have HS : Aside0 (Below w88.heap.size w88 x95) := ⟨by rw [← hx]; exact (below_alloc (below_alloc (Below.refl _ _) _) _)⟩; clear HB; have HB := Aside0.mk HB2.out; clear HB2 hx; refine (usable_calls (some ⟨w88.heap.size, 0, none⟩) 1 [tW] (some ⟨w88.heap.size + 1, 0, none⟩) 1 [(⟨#[98]⟩ : ByteArray)] x95 (TabC.one (T := tW) ⟨Nat.le_refl _, (C_blk hW (by decide) f431.out), Nat.le_refl _, (C_rows _ (by decide) (fun j r hj => match j, hj with | 0, hj => by simp at hj; subst hj; exact ⟨_, 2, blk_cell f434.out 0, Nat.le_refl _, C_blk _ (by decide) f432.out⟩ | 1, hj => by simp at hj; subst hj; exact ⟨_, 2, blk_cell f434.out 1, Nat.le_refl _, C_blk _ (by decide) f433.out⟩ | j + 2, hj => by simp at hj))⟩ (blk_cell f457.out 0) (blk_cell f457.out 1)) (C_blk [(⟨#[98]⟩ : ByteArray)] (by decide) f458.out) (Nat.le_refl _) (by decide) (by decide) ok_t).mono ?_; rintro e w95 ⟨rfl, hd⟩; have f459 := Aside0.mk (blk_below f431.out hd); clear f431; have f460 := Aside0.mk (blk_below f432.out hd); clear f432; have f461 := Aside0.mk (blk_below f433.out hd); clear f433; have f462 := Aside0.mk (blk_below f434.out hd); clear f434; have f463 := Aside0.mk (blk_below f435.out hd); clear f435; have f464 := Aside0.mk (blk_below f436.out hd); clear f436; have f465 := Aside0.mk (blk_below f437.out hd); clear f437; have f466 := Aside0.mk (blk_below f438.out hd); clear f438; have f467 := Aside0.mk (blk_below f439.out hd); clear f439; have f468 := Aside0.mk (blk_below f440.out hd); clear f440; have f469 := Aside0.mk (blk_below f441.out hd); clear f441; have f470 := Aside0.mk (blk_below f442.out hd); clear f442; have f471 := Aside0.mk (blk_below f443.out hd); clear f443; have f472 := Aside0.mk (blk_below f444.out hd); clear f444; have f473 := Aside0.mk (blk_below f445.out hd); clear f445; have f474 := Aside0.mk (blk_below f446.out hd); clear f446; have f475 := Aside0.mk (blk_below f447.out hd); clear f447; have f476 := Aside0.mk (blk_below f448.out hd); clear f448; have f477 := Aside0.mk (blk_below f449.out hd); clear f449; have f478 := Aside0.mk (blk_below f450.out hd); clear f450; have f479 := Aside0.mk (blk_below f451.out hd); clear f451; have f480 := Aside0.mk (blk_below f452.out hd); clear f452; have f481 := Aside0.mk (blk_below f453.out hd); clear f453; have f482 := Aside0.mk (blk_below f454.out hd); clear f454; have f483 := Aside0.mk (blk_below f455.out hd); clear f455; have f484 := Aside0.mk (blk_below f456.out hd); clear f456; have f485 := Aside0.mk (blk_below f457.out hd); clear f457; have f486 := Aside0.mk (blk_below f458.out hd); clear f458; have HT := Aside0.mk (below_step HS.out hd); have HB2 := Aside0.mk (below_step HB.out hd); clear HB; have HB := Aside0.mk HB2.out; clear HB2 HS HT hd; rw [us_b]; have k487 : (w95).cell? ⟨w.heap.size + 1 + 1 + 1 + 1, 0, none⟩ = #[.slice (some ⟨w.heap.size, 0, none⟩) 2 2, .slice (some ⟨w.heap.size + 1 + 1 + 1, 0, none⟩) 2 2][0]? := blk_cell f463.out 0; have k488 : (w95).cell? ⟨w.heap.size + 1 + 1 + 1 + 1, 1, none⟩ = #[.slice (some ⟨w.heap.size, 0, none⟩) 2 2, .slice (some ⟨w.heap.size + 1 + 1 + 1, 0, none⟩) 2 2][1]? := blk_cell f463.out 1; have st11 : True := trivial)
    | (go_at_call 25; clear st11; refine name_world (fun x101 hx => ?_); have f489 : Aside0 (x101.heap[w.heap.size]? = some (.cells #[.string (⟨#[97]⟩ : ByteArray), .string (⟨#[98]⟩ : ByteArray)] 9 (0, 0))) := ⟨by rw [← hx]; exact (blk_alloc (blk_alloc f459.out _) _)⟩; clear f459; have f490 : Aside0 (x101.heap[w.heap.size + 1]? = some (.cells #[.string (⟨#[49]⟩ : ByteArray), .string (⟨#[120]⟩ : ByteArray)] 9 (0, 0))) := ⟨by rw [← hx]; exact (blk_alloc (blk_alloc f460.out _) _)⟩; clear f460; have f491 : Aside0 (x101.heap[w.heap.size + 1 + 1]? = some (.cells #[.string (⟨#[49]⟩ : ByteArray), .string (⟨#[121]⟩ : ByteArray)] 9 (0, 0))) := ⟨by rw [← hx]; exact (blk_alloc (blk_alloc f461.out _) _)⟩; clear f461; have f492 : Aside0 (x101.heap[w.heap.size + 1 + 1 + 1]? = some (.cells #[.slice (some ⟨w.heap.size + 1, 0, none⟩) 2 2, .slice (some ⟨w.heap.size + 1 + 1, 0, none⟩) 2 2] 22 (0, 0))) := ⟨by rw [← hx]; exact (blk_alloc (blk_alloc f462.out _) _)⟩; clear f462; have f493 : Aside0 (x101.heap[w.heap.size + 1 + 1 + 1 + 1]? = some (.cells #[.slice (some ⟨w.heap.size, 0, none⟩) 2 2, .slice (some ⟨w.heap.size + 1 + 1 + 1, 0, none⟩) 2 2] 25 (0, 0))) := ⟨by rw [← hx]; exact (blk_alloc (blk_alloc f463.out _) _)⟩; clear f463; have f494 : Aside0 (x101.heap[w.heap.size + 1 + 1 + 1 + 1 + 1]? = some (.cells #[.string (⟨#[97]⟩ : ByteArray), .string (⟨#[98]⟩ : ByteArray)] 9 (0, 0))) := ⟨by rw [← hx]; exact (blk_alloc (blk_alloc f464.out _) _)⟩; clear f464; have f495 : Aside0 (x101.heap[w.heap.size + 1 + 1 + 1 + 1 + 1 + 1]? = some (.cells #[.string (⟨#[49]⟩ : ByteArray), .string (⟨#[120]⟩ : ByteArray)] 9 (0, 0))) := ⟨by rw [← hx]; exact (blk_alloc (blk_alloc f465.out _) _)⟩; clear f465; have f496 : Aside0 (x101.heap[w.heap.size + 1 + 1 + 1 + 1 + 1 + 1 + 1]? = some (.cells #[.string (⟨#[49]⟩ : ByteArray), .string (⟨#[121]⟩ : ByteArray)] 9 (0, 0))) := ⟨by rw [← hx]; exact (blk_alloc (blk_alloc f466.out _) _)⟩; clear f466; have f497 : Aside0 (x101.heap[w.heap.size + 1 + 1 + 1 + 1 + 1 + 1 + 1 + 1]? = some (.cells #[.string (⟨#[50]⟩ : ByteArray), .string (⟨#[120]⟩ : ByteArray)] 9 (0, 0))) := ⟨by rw [← hx]; exact (blk_alloc (blk_alloc f467.out _) _)⟩; clear f467; have f498 : Aside0 (x101.heap[w.heap.size + 1 + 1 + 1 + 1 + 1 + 1 + 1 + 1 + 1]? = some (.cells #[.slice (some ⟨w.heap.size + 1 + 1 + 1 + 1 + 1 + 1, 0, none⟩) 2 2, .slice (some ⟨w.heap.size + 1 + 1 + 1 + 1 + 1 + 1 + 1, 0, none⟩) 2 2, .slice (some ⟨w.heap.size + 1 + 1 + 1 + 1 + 1 + 1 + 1 + 1, 0, none⟩) 2 2] 22 (0, 0))) := ⟨by rw [← hx]; exact (blk_alloc (blk_alloc f468.out _) _)⟩; clear f468; have f499 : Aside0 (x101.heap[w.heap.size + 1 + 1 + 1 + 1 + 1 + 1 + 1 + 1 + 1 + 1]? = some (.cells #[.slice (some ⟨w.heap.size + 1 + 1 + 1 + 1 + 1, 0, none⟩) 2 2, .slice (some ⟨w.heap.size + 1 + 1 + 1 + 1 + 1 + 1 + 1 + 1 + 1, 0, none⟩) 3 3] 25 (0, 0))) := ⟨by rw [← hx]; exact (blk_alloc (blk_alloc f469.out _) _)⟩; clear f469; have f500 : Aside0 (x101.heap[w.heap.size + 1 + 1 + 1 + 1 + 1 + 1 + 1 + 1 + 1 + 1 + 1]? = some (.cells #[.string (⟨#[97]⟩ : ByteArray), .string (⟨#[98]⟩ : ByteArray)] 9 (0, 0))) := ⟨by rw [← hx]; exact (blk_alloc (blk_alloc f470.out _) _)⟩; clear f470; have f501 : Aside0 (x101.heap[w.heap.size + 1 + 1 + 1 + 1 + 1 + 1 + 1 + 1 + 1 + 1 + 1 + 1]? = some (.cells #[.string (⟨#[49]⟩ : ByteArray), .string (⟨#[120]⟩ : ByteArray)] 9 (0, 0))) := ⟨by rw [← hx]; exact (blk_alloc (blk_alloc f471.out _) _)⟩; clear f471; have f502 : Aside0 (x101.heap[w.heap.size + 1 + 1 + 1 + 1 + 1 + 1 + 1 + 1 + 1 + 1 + 1 + 1 + 1]? = some (.cells #[.string (⟨#[49]⟩ : ByteArray), .string (⟨#[120]⟩ : ByteArray)] 9 (0, 0))) := ⟨by rw [← hx]; exact (blk_alloc (blk_alloc f472.out _) _)⟩; clear f472; have f503 : Aside0 (x101.heap[w.heap.size + 1 + 1 + 1 + 1 + 1 + 1 + 1 + 1 + 1 + 1 + 1 + 1 + 1 + 1]? = some (.cells #[.slice (some ⟨w.heap.size + 1 + 1 + 1 + 1 + 1 + 1 + 1 + 1 + 1 + 1 + 1 + 1, 0, none⟩) 2 2, .slice (some ⟨w.heap.size + 1 + 1 + 1 + 1 + 1 + 1 + 1 + 1 + 1 + 1 + 1 + 1 + 1, 0, none⟩) 2 2] 22 (0, 0))) := ⟨by rw [← hx]; exact (blk_alloc (blk_alloc f473.out _) _)⟩; clear f473; have f504 : Aside0 (x101.heap[w.heap.size + 1 + 1 + 1 + 1 + 1 + 1 + 1 + 1 + 1 + 1 + 1 + 1 + 1 + 1 + 1]? = some (.cells #[.slice (some ⟨w.heap.size + 1 + 1 + 1 + 1 + 1 + 1 + 1 + 1 + 1 + 1 + 1, 0, none⟩) 2 2, .slice (some ⟨w.heap.size + 1 + 1 + 1 + 1 + 1 + 1 + 1 + 1 + 1 + 1 + 1 + 1 + 1 + 1, 0, none⟩) 2 2] 25 (0, 0))) := ⟨by rw [← hx]; exact (blk_alloc (blk_alloc f474.out _) _)⟩; clear f474; have f505 : Aside0 (x101.heap[w.heap.size + 1 + 1 + 1 + 1 + 1 + 1 + 1 + 1 + 1 + 1 + 1 + 1 + 1 + 1 + 1 + 1]? = some (.cells #[.slice (some ⟨w.heap.size, 0, none⟩) 2 2, .slice (some ⟨w.heap.size + 1 + 1 + 1, 0, none⟩) 2 2] 25 (0, 0))) := ⟨by rw [← hx]; exact (blk_alloc (blk_alloc f475.out _) _)⟩; clear f475; have f506 : Aside0 (x101.heap[w29.heap.size]? = some (.cells #[.string (⟨#[98]⟩ : ByteArray)] 9 (0, 0))) := ⟨by rw [← hx]; exact (blk_alloc (blk_alloc f476.out _) _)⟩; clear f476; have f507 : Aside0 (x101.heap[w31.heap.size]? = some (.cells #[.slice (some ⟨w.heap.size + 1 + 1 + 1 + 1 + 1, 0, none⟩) 2 2, .slice (some ⟨w.heap.size + 1 + 1 + 1 + 1 + 1 + 1 + 1 + 1 + 1, 0, none⟩) 3 3] 25 (0, 0))) := ⟨by rw [← hx]; exact (blk_alloc (blk_alloc f477.out _) _)⟩; clear f477; have f508 : Aside0 (x101.heap[w36.heap.size]? = some (.cells #[.string (⟨#[97]⟩ : ByteArray), .string (⟨#[98]⟩ : ByteArray)] 9 (0, 0))) := ⟨by rw [← hx]; exact (blk_alloc (blk_alloc f478.out _) _)⟩; clear f478; have f509 : Aside0 (x101.heap[w38.heap.size]? = some (.cells #[.string (⟨#[98]⟩ : ByteArray)] 9 (0, 0))) := ⟨by rw [← hx]; exact (blk_alloc (blk_alloc f479.out _) _)⟩; clear f479; have f510 : Aside0 (x101.heap[w42.heap.size]? = some (.cells #[.slice (some ⟨w.heap.size, 0, none⟩) 2 2, .slice (some ⟨w.heap.size + 1 + 1 + 1, 0, none⟩) 2 2] 25 (0, 0))) := ⟨by rw [← hx]; exact (blk_alloc (blk_alloc f480.out _) _)⟩; clear f480; have f511 : Aside0 (x101.heap[w42.heap.size + 1]? = some (.cells #[.string (⟨#[97]⟩ : ByteArray)] 9 (0, 0))) := ⟨by rw [← hx]; exact (blk_alloc (blk_alloc f481.out _) _)⟩; clear f481; have f512 : Aside0 (x101.heap[w48.heap.size]? = some (.cells #[.string (⟨#[98]⟩ : ByteArray)] 9 (0, 0))) := ⟨by rw [← hx]; exact (blk_alloc (blk_alloc f482.out _) _)⟩; clear f482; have f513 : Aside0 (x101.heap[w50.heap.size]? = some (.cells #[.slice (some ⟨w.heap.size + 1 + 1 + 1 + 1 + 1 + 1 + 1 + 1 + 1 + 1 + 1, 0, none⟩) 2 2, .slice (some ⟨w.heap.size + 1 + 1 + 1 + 1 + 1 + 1 + 1 + 1 + 1 + 1 + 1 + 1 + 1 + 1, 0, none⟩) 2 2] 25 (0, 0))) := ⟨by rw [← hx]; exact (blk_alloc (blk_alloc f483.out _) _)⟩; clear f483; have f514 : Aside0 (x101.heap[w63.heap.size]? = some (.cells #[.int .i64 1] 3 (0, 0))) := ⟨by rw [← hx]; exact (blk_alloc (blk_alloc f484.out _) _)⟩; clear f484; have f515 : Aside0 (x101.heap[w88.heap.size]? = some (.cells #[.slice (some ⟨w.heap.size, 0, none⟩) 2 2, .slice (some ⟨w.heap.size + 1 + 1 + 1, 0, none⟩) 2 2] 25 (0, 0))) := ⟨by rw [← hx]; exact (blk_alloc (blk_alloc f485.out _) _)⟩; clear f485; have f516 : Aside0 (x101.heap[w88.heap.size + 1]? = some (.cells #[.string (⟨#[98]⟩ : ByteArray)] 9 (0, 0))) := ⟨by rw [← hx]; exact (blk_alloc (blk_alloc f486.out _) _)⟩; clear f486; have f517 : Aside0 (x101.heap[w95.heap.size]? = some (.cells #[.slice (some ⟨w.heap.size, 0, none⟩) 2 2, .slice (some ⟨w.heap.size + 1 + 1 + 1, 0, none⟩) 2 2] 25 (0, 0))) := ⟨by rw [← hx]; exact (blk_alloc (blk_atk rfl) _)⟩; have f518 : Aside0 (x101.heap[w95.heap.size + 1]? = some (.cells #[.string (⟨#[99]⟩ : ByteArray)] 9 (0, 0))) := ⟨by rw [← hx]; exact (blk_atk (by simp only [World.size_alloc]))⟩; have HB2 : Aside0 (Below w.heap.size w x101) := ⟨by rw [← hx]; exact (below_alloc (below_alloc HB.out _) _)⟩; have HS : Aside0 (Below w95.heap.size w95 x101) := ⟨by rw [← hx]; exact (below_alloc (below_alloc (Below.refl _ _) _) _)⟩; clear HB; have HB := Aside0.mk HB2.out; clear HB2 hx; refine (usable_calls (some ⟨w95.heap.size, 0, none⟩) 1 [tW] (some ⟨w95.heap.size + 1, 0, none⟩) 1 [(⟨#[99]⟩ : ByteArray)] x101 (TabC.one (T := tW) ⟨Nat.le_refl _, (C_blk hW (by decide) f489.out), Nat.le_refl _, (C_rows _ (by decide) (fun j r hj => match j, hj with | 0, hj => by simp at hj; subst hj; exact ⟨_, 2, blk_cell f492.out 0, Nat.le_refl _, C_blk _ (by decide) f490.out⟩ | 1, hj => by simp at hj; subst hj; exact ⟨_, 2, blk_cell f492.out 1, Nat.le_refl _, C_blk _ (by decide) f491.out⟩ | j + 2, hj => by simp at hj))⟩ (blk_cell f517.out 0) (blk_cell f517.out 1)) (C_blk [(⟨#[99]⟩ : ByteArray)] (by decide) f518.out) (Nat.le_refl _) (by decide) (by decide) ok_t).mono ?_; rintro e w101 ⟨rfl, hd⟩; have f519 := Aside0.mk (blk_below f489.out hd); clear f489; have f520 := Aside0.mk (blk_below f490.out hd); clear f490; have f521 := Aside0.mk (blk_below f491.out hd); clear f491; have f522 := Aside0.mk (blk_below f492.out hd); clear f492; have f523 := Aside0.mk (blk_below f493.out hd); clear f493; have f524 := Aside0.mk (blk_below f494.out hd); clear f494; have f525 := Aside0.mk (blk_below f495.out hd); clear f495; have f526 := Aside0.mk (blk_below f496.out hd); clear f496; have f527 := Aside0.mk (blk_below f497.out hd); clear f497; have f528 := Aside0.mk (blk_below f498.out hd); clear f498; have f529 := Aside0.mk (blk_below f499.out hd); clear f499; have f530 := Aside0.mk (blk_below f500.out hd); clear f500; have f531 := Aside0.mk (blk_below f501.out hd); clear f501; have f532 := Aside0.mk (blk_below f502.out hd); clear f502; have f533 := Aside0.mk (blk_below f503.out hd); clear f503; have f534 := Aside0.mk (blk_below f504.out hd); clear f504; have f535 := Aside0.mk (blk_below f505.out hd); clear f505; have f536 := Aside0.mk (blk_below f506.out hd); clear f506; have f537 := Aside0.mk (blk_below f507.out hd); clear f507; have f538 := Aside0.mk (blk_below f508.out hd); clear f508; have f539 := Aside0.mk (blk_below f509.out hd); clear f509; have f540 := Aside0.mk (blk_below f510.out hd); clear f510; have f541 := Aside0.mk (blk_below f511.out hd); clear f511; have f542 := Aside0.mk (blk_below f512.out hd); clear f512; have f543 := Aside0.mk (blk_below f513.out hd); clear f513; have f544 := Aside0.mk (blk_below f514.out hd); clear f514; have f545 := Aside0.mk (blk_below f515.out hd); clear f515; have f546 := Aside0.mk (blk_below f516.out hd); clear f516; have f547 := Aside0.mk (blk_below f517.out hd); clear f517; have f548 := Aside0.mk (blk_below f518.out hd); clear f518; have HT := Aside0.mk (below_step HS.out hd); have HB2 := Aside0.mk (below_step HB.out hd); clear HB; have HB := Aside0.mk HB2.out; clear HB2 HS HT hd; rw [us_c]; have st12 : True := trivial))
  go_ret
  exact ⟨rfl, HB.out⟩
end Go.Proofs.Ytbcpaojciephmaa.X
end
section
namespace Go.Proofs.Ytbcpaojciephmaa.X
open Go.RowKit Go.Proofs.YtbcpaojciephmaaW.PrintWords
set_option linter.unusedVariables false
theorem wrap_upR (i : Nat) (h : i ≤ 1000000000) : wrap64 ((i : Int) + 1) = ((i + 1 : Nat) : Int) := by unfold wrap64; omega
section
variable (hd : List ByteArray) (rows : List (List ByteArray)) (cols : List Int)
end
end Go.Proofs.Ytbcpaojciephmaa.X
end
section
namespace Go.Proofs.Ytbcpaojciephmaa.X
open Go.RowKit Go.Proofs.YtbcpaojciephmaaW.PrintWords
set_option linter.unusedVariables false
theorem rdT_get {l : List TS} {i : Nat} (h : i < l.length) : rd_T25 l (i : Int) = l[i] := by
  unfold rd_T25
  rw [show ((i : Int)).toNat = i from rfl, List.getD_eq_getElem?_getD, List.getElem?_eq_getElem h]; rfl
def FewP (l : List TS) : Prop := l.length ≤ 4 ∧ ∀ T ∈ l, T.f0.length ≤ 12 ∧ T.f1.length ≤ 30
theorem rfew_l0 (l : List TS) (hl : l.length ≤ 4) : ∀ (d k i : Nat), i + d = l.length → d + 10000 < k → ∃ b, tartanlaw11_Few.l0 k l (i : Nat) = some b ∧ (b = true → ∀ j : Nat, i ≤ j → j < l.length → (rd_T25 l (j : Int)).f0.length ≤ 12 ∧ (rd_T25 l (j : Int)).f1.length ≤ 30) := by
  intro d
  induction d with
  | zero =>
    intro k i hi hk
    obtain ⟨k, rfl⟩ : ∃ m, k = m + 1 := ⟨k - 1, by omega⟩
    simp only [tartanlaw11_Few.l0]
    rw [if_neg (by omega)]
    exact ⟨true, rfl, fun _ j h1 h2 => by omega⟩
  | succ d ih =>
    intro k i hi hk
    obtain ⟨k, rfl⟩ : ∃ m, k = m + 1 := ⟨k - 1, by omega⟩
    simp only [tartanlaw11_Few.l0]
    rw [if_pos (by omega), if_pos (by omega)]
    obtain ⟨b, e, hb⟩ := few4_some (rd_T25 l (i : Int)).f0 (rd_T25 l (i : Int)).f1 (k := k) (by omega)
    rw [e, Option.bind_some]
    cases b with
    | false => rw [if_neg (by decide)]; exact ⟨false, rfl, fun h => by cases h⟩
    | true =>
      rw [if_pos rfl]
      by_cases h1 : (((rd_T25 l (i : Int)).f0).length : Int) > 12
      · rw [if_pos h1]; exact ⟨false, rfl, fun h => by cases h⟩
      · rw [if_neg h1]
        by_cases h2 : (((rd_T25 l (i : Int)).f1).length : Int) > 30
        · rw [if_pos h2]; exact ⟨false, rfl, fun h => by cases h⟩
        · rw [if_neg h2, wrap_upR _ (by omega)]
          obtain ⟨b, e, hb⟩ := ih k (i + 1) (by omega) (by omega)
          refine ⟨b, e, fun h j h3 h4 => ?_⟩
          rcases Nat.lt_or_ge i j with h' | h'
          · exact hb h j h' h4
          · obtain rfl : j = i := by omega
            exact ⟨by omega, by omega⟩
theorem rfew_some (l : List TS) (names : List ByteArray) {k : Nat} (hk : 20000 ≤ k) : ∃ b, tartanlaw11_Few.f k l names = some b ∧ (b = true → FewP l ∧ names.length ≤ 12) := by
  obtain ⟨k, rfl⟩ : ∃ m, k = m + 1 := ⟨k - 1, by omega⟩
  unfold tartanlaw11_Few.f
  by_cases h1 : (l.length : Int) > 4
  · rw [if_pos h1]; simp only [tartanlaw11_Few.j0]; rw [if_pos trivial]; exact ⟨false, rfl, fun h => by cases h⟩
  · rw [if_neg h1]
    by_cases h2 : (names.length : Int) > 12
    · rw [decide_eq_true h2]; simp only [tartanlaw11_Few.j0]; rw [if_pos trivial]; exact ⟨false, rfl, fun h => by cases h⟩
    · rw [decide_eq_false h2]; simp only [tartanlaw11_Few.j0]; rw [if_neg (by decide)]
      obtain ⟨b, e, hb⟩ := rfew_l0 l (by omega) l.length k 0 (by omega) (by omega)
      refine ⟨b, e, fun h => ⟨⟨by omega, fun T hT => ?_⟩, by omega⟩⟩
      obtain ⟨j, hj, rfl⟩ := List.getElem_of_mem hT
      have := hb h j (Nat.zero_le _) hj
      rw [rdT_get hj] at this
      exact this
end Go.Proofs.Ytbcpaojciephmaa.X
end
section
namespace Go.Proofs.Ytbcpaojciephmaa.X
open Go.RowKit Go.Maps Go.Proofs.YtbcpaojciephmaaW.PrintWords Go.Proofs.YtbcpaojciephmaaW.PrintLast Go.Proofs.YtbcpaojciephmaaW.PrintMore
set_option linter.unusedVariables false
def sizesOk (rows : List (List ByteArray)) : Bool := rows.all fun r => r.all fun s => decide (s.size ≤ maxLen)
end Go.Proofs.Ytbcpaojciephmaa.X
end
section
namespace Go.Proofs.Ytbcpaojciephmaa.X
open Go.RowKit Go.Proofs.YtbcpaojciephmaaW.PrintWords
set_option linter.unusedVariables false
end Go.Proofs.Ytbcpaojciephmaa.X
end
section
namespace Go.Proofs.Ytbcpaojciephmaa.X
open Go.RowKit Go.Maps Go.Proofs.YtbcpaojciephmaaW.PrintWords Go.Proofs.YtbcpaojciephmaaW.PrintLast Go.Proofs.YtbcpaojciephmaaW.PrintMore
set_option linter.unusedVariables false
def sizesAll (l : List TS) : Bool := l.all fun T => sizesOk T.f1
theorem few_ok {l : List TS} (hf : FewP l) (hs : sizesAll l = true) : ∀ T ∈ l, okT1 T = true := by
  intro T hT
  have h1 := hf.2 T hT
  unfold sizesAll at hs
  rw [List.all_eq_true] at hs
  have h2 := hs T hT
  unfold sizesOk at h2
  unfold okT1
  rw [decide_eq_true (show T.f0.length ≤ 1000000 by omega), decide_eq_true (show T.f1.length ≤ 50000 by omega), h2]; rfl
end Go.Proofs.Ytbcpaojciephmaa.X
end
section
namespace Go.Proofs.Ytbcpaojciephmaa.X
open Go.RowKit Go.Maps Go.Proofs.YtbcpaojciephmaaW.PrintWords Go.Proofs.YtbcpaojciephmaaW.PrintLast Go.Proofs.YtbcpaojciephmaaW.PrintMore
set_option linter.unusedVariables false
theorem C_noS (W : World) : Kd.C Kd.string W none 0 [] := ⟨rfl, by decide, fun h => absurd h (by decide)⟩
end Go.Proofs.Ytbcpaojciephmaa.X
end
section
namespace Go.Proofs.Ytbcpaojciephmaa.X
open Go.RowKit Go.Maps Go.Proofs.YtbcpaojciephmaaW.PrintWords Go.Proofs.YtbcpaojciephmaaW.PrintLast Go.Proofs.YtbcpaojciephmaaW.PrintMore
set_option linter.unusedVariables false
/-- A slice's head, as it lies. -/
structure SlV where
  A : Option Addr
  n : Nat
  c : Nat
def encV (s : SlV) : Value := .slice s.A s.n s.c
abbrev dS : Kd SlV := Kd.scalar encV (fun _ => rfl)
/-- A table, as it lies. -/
abbrev dT : Kd (SlV × SlV) := Kd.pair dS dS
def TabQ (W : World) (q : SlV × SlV) (T : TS) : Prop := q.1.n = T.f0.length ∧ q.2.n = T.f1.length ∧ TabC W q.1.A q.1.c q.2.A q.2.c T
theorem R_okT {e : Nat} {w : World} {base : Nat} {ok ok' : Nat → Prop} {v : Value} {xs : List (SlV × SlV)} (h : Kd.R dT e w base ok v xs) (hk : ∀ k, v.ownBlock = some k → ok' k) : Kd.R dT e w base ok' v xs := ⟨hk, h.2⟩
def RawsOf (W : World) (raws : List (SlV × SlV)) (l : List TS) : Prop := ∀ (j : Nat) (T : TS), l[j]? = some T → ∃ q, raws[j]? = some q ∧ TabQ W q T
theorem raws_below {W W' : World} {raws : List (SlV × SlV)} {l : List TS} (h : RawsOf W raws l) (hb : Below W.heap.size W W') : RawsOf W' raws l := fun j T hj => by
  obtain ⟨q, h1, h2, h3, h4⟩ := h j T hj
  exact ⟨q, h1, h2, h3, h4.below hb⟩
theorem raws_snoc {W : World} {raws : List (SlV × SlV)} {l : List TS} {q : SlV × SlV} {T : TS} (h : RawsOf W raws l) (hl : raws.length = l.length) (hq : TabQ W q T) : RawsOf W (raws ++ [q]) (l ++ [T]) := fun j T' hj => by
  rcases Nat.lt_or_ge j l.length with h1 | h1
  · rw [List.getElem?_append_left h1] at hj
    obtain ⟨q', h2, h3⟩ := h j T' hj
    exact ⟨q', by rw [List.getElem?_append_left (by omega)]; exact h2, h3⟩
  · rw [List.getElem?_append_right h1] at hj
    have hj0 : j - l.length = 0 := by
      rcases Nat.eq_zero_or_pos (j - l.length) with h2 | h2
      · exact h2
      · rw [List.getElem?_eq_none (by simp; omega)] at hj; cases hj
    rw [hj0] at hj
    have e : T = T' := by simpa using hj
    subst e
    exact ⟨q, by rw [List.getElem?_append_right (by omega), show j - raws.length = 0 by omega]; rfl, hq⟩
theorem raws_of {W : World} {A : Option Addr} {l : List TS} (h : Kd.C k25 W A l.length l) : ∃ raws : List (SlV × SlV), raws.length = l.length ∧ Kd.C dT W A raws.length raws ∧ RawsOf W raws l := by
  have h0 : ∀ j : Nat, ∃ q : SlV × SlV, ∀ T, l[j]? = some T → TabQ W q T ∧ ∀ ad, A = some ad → W.cell? (ad.add (j * 2 + 0)) = some (encV q.1) ∧ W.cell? (ad.add (j * 2 + 1)) = some (encV q.2) := by
    intro j
    cases hj : l[j]? with
    | none => exact ⟨⟨⟨none, 0, 0⟩, ⟨none, 0, 0⟩⟩, fun T h => by cases h⟩
    | some T =>
      have hlt : j < l.length := (List.getElem?_eq_some_iff.1 hj).1
      obtain ⟨ad, e, hc⟩ := h.2.2 (by omega)
      obtain ⟨c, h1, h2, h3⟩ := hc j T hj
      obtain ⟨A0, c0, A1, c1, rfl, l0, g0, l1, g1⟩ := k25_open h2
      refine ⟨⟨⟨A0, T.f0.length, c0⟩, ⟨A1, T.f1.length, c1⟩⟩, fun T' hT => ?_⟩
      obtain rfl := Option.some.inj hT
      refine ⟨⟨rfl, rfl, l0, g0, l1, g1⟩, fun ad' e' => ?_⟩
      rw [e] at e'
      obtain rfl := Option.some.inj e'
      exact ⟨h3 0 _ rfl, h3 1 _ rfl⟩
  obtain ⟨f, hf⟩ := Classical.skolem.1 h0
  have hg : ∀ (j : Nat) (q : SlV × SlV), ((List.range l.length).map f)[j]? = some q → j < l.length ∧ q = f j := by
    intro j q hq
    rw [List.getElem?_map] at hq
    rcases Nat.lt_or_ge j l.length with h1 | h1
    · rw [List.getElem?_range h1] at hq
      exact ⟨h1, (Option.some.inj hq).symm⟩
    · rw [List.getElem?_eq_none (by simp; omega)] at hq; cases hq
  refine ⟨(List.range l.length).map f, by simp, ⟨rfl, by rw [List.length_map, List.length_range]; exact h.2.1, fun hp => ?_⟩, fun j T hj => ?_⟩
  · rw [List.length_map, List.length_range] at hp
    obtain ⟨ad, e, _⟩ := h.2.2 hp
    refine ⟨ad, e, fun j q hq => ?_⟩
    obtain ⟨h1, rfl⟩ := hg j q hq
    obtain ⟨h2, h3⟩ := hf j _ (List.getElem?_eq_getElem h1)
    refine ⟨[encV (f j).1, encV (f j).2], rfl, ⟨[encV (f j).1], [encV (f j).2], rfl, rfl, rfl⟩, fun i u hi => ?_⟩
    rcases i with _ | _ | i
    · simp at hi; subst hi; exact (h3 ad e).1
    · simp at hi; subst hi; exact (h3 ad e).2
    · simp at hi
  · have h1 : j < l.length := (List.getElem?_eq_some_iff.1 hj).1
    exact ⟨f j, by rw [List.getElem?_map, List.getElem?_range h1]; rfl, (hf j T hj).1⟩
theorem C_of_raws {W : World} {A : Option Addr} {raws : List (SlV × SlV)} {l : List TS} (hl : raws.length = l.length) (h : Kd.C dT W A raws.length raws) (hq : RawsOf W raws l) : Kd.C k25 W A l.length l := by
  refine ⟨rfl, by rw [← hl]; exact h.2.1, fun hp => ?_⟩
  obtain ⟨ad, e, hc⟩ := h.2.2 (by omega)
  refine ⟨ad, e, fun j T hj => ?_⟩
  obtain ⟨q, h1, h2, h3, h4⟩ := hq j T hj
  obtain ⟨c, h5, ⟨d0, d1, rfl, h6, h7⟩, h8⟩ := hc j q h1
  have e0 : d0 = [.slice q.1.A q.1.n q.1.c] := h6
  have e1 : d1 = [.slice q.2.A q.2.n q.2.c] := h7
  rw [h2] at e0
  rw [h3] at e1
  subst e0 e1
  exact ⟨_, rfl, k25_mk W T h4.l0 h4.C0 h4.l1 h4.C1, h8⟩
theorem usable_snoc (l : List TS) (T : TS) (names : List ByteArray) : usableR (l ++ [T]) names = (usableR l names && usableR [T] names) := by
  unfold usableR
  rw [List.all_append]
  cases distB names <;> cases decide (0 < names.length) <;> cases (l.all fun T => usable1 T names) <;> cases ([T].all fun T => usable1 T names) <;> rfl
set_option maxRecDepth 100000 in
set_option maxHeartbeats 8000000 in
theorem lawFewer_calls (Al : Option Addr) (cl : Nat) (l : List TS) (An : Option Addr) (cn : Nat) (names : List ByteArray) (A0 : Option Addr) (c0 : Nat) (hd : List ByteArray) (A1 : Option Addr) (c1 : Nat) (rows : List (List ByteArray)) (w : World)
    (hrl_ : Kd.C k25 w Al l.length l) (hcl : l.length ≤ cl) (hrn : Kd.C Kd.string w An names.length names) (hcn : names.length ≤ cn) (hr0 : Kd.C Kd.string w A0 hd.length hd) (hc0 : hd.length ≤ c0) (hr1 : Kd.C (Kd.slice 9 Kd.string) w A1 rows.length rows) (hc1 : rows.length ≤ c1) (hok1 : sizesAll l = true) (hok2 : sizesOk rows = true) :
    Calls Try.prog 7 #[.slice Al l.length cl, .slice An names.length cn, .agg #[.slice A0 hd.length c0, .slice A1 rows.length c1]] w fun e w' => e = .returned (.bool true) ∧ Below w.heap.size w w' := by
  obtain ⟨W0, hW0⟩ : ∃ W0, Aside0 (w.alloc (.cells #[.slice A0 hd.length c0, .slice A1 rows.length c1] 25 (0, 0)) = W0) := ⟨_, ⟨rfl⟩⟩
  have HB0 : Aside0 (Below w.heap.size w W0) := ⟨by rw [← hW0.out]; exact below_alloc (Below.refl _ _) _⟩
  have HX : Aside0 (W0.heap[w.heap.size]? = some (.cells #[.slice A0 hd.length c0, .slice A1 rows.length c1] 25 (0, 0))) := ⟨by rw [← hW0.out]; exact blk_new w _⟩
  have HT : Aside0 (TabC W0 A0 c0 A1 c1 ⟨hd, rows⟩) := ⟨⟨hc0, Kd.C_below hr0 HB0.out, hc1, Kd.C_below hr1 HB0.out⟩⟩
  have HR := Aside0.mk (And.intro (Kd.C_below hrl_ HB0.out) (Kd.C_below hrn HB0.out))
  obtain ⟨b1, g1, g2⟩ := rfew_some l names (k := 20000) (Nat.le_refl _)
  obtain ⟨b2, g3, g4⟩ := rfew_some [(⟨hd, rows⟩ : TS)] [] (k := 20000) (Nat.le_refl _)
  have HF1 := Aside0.mk g1
  have HF2 := Aside0.mk g3
  clear hr0 hr1 hrl_ hrn g1 g3
  have s1 : True := trivial
  have s2 : True := trivial
  have s3 : True := trivial
  cases b1 with
  | false =>
    clear g2 g4
    go_enter Try.func7, Try.ntmps7
    go_wp2_with (first | (go_at_call 13; rw [hW0.out]; refine (works_calls W0).mono ?_; rintro e w1 ⟨rfl, hd1⟩; have HD1 := Aside0.mk hd1; clear hd1) | (go_at_call 14; clear s1; refine (tartanlaw11_Few.calls 20000 Al cl l An cn names false w1 (Kd.C_below HR.out.1 HD1.out) hcl (Kd.C_below HR.out.2 HD1.out) hcn HF1.out).mono ?_; rintro e w2 ⟨rfl, hd2⟩; have HD2 := Aside0.mk (below_step HD1.out hd2); clear hd2; have hx0 := blk_cell (blk_below HX.out HD2.out) 0; have hx1 := blk_cell (blk_below HX.out HD2.out) 1))
    go_ret
    exact ⟨rfl, below_step HB0.out HD2.out⟩
  | true =>
    cases b2 with
    | false =>
      clear g2 g4
      go_enter Try.func7, Try.ntmps7
      go_wp2_with (first | (go_at_call 13; rw [hW0.out]; refine (works_calls W0).mono ?_; rintro e w1 ⟨rfl, hd1⟩; have HD1 := Aside0.mk hd1; clear hd1) | (go_at_call 14; clear s1; refine (tartanlaw11_Few.calls 20000 Al cl l An cn names true w1 (Kd.C_below HR.out.1 HD1.out) hcl (Kd.C_below HR.out.2 HD1.out) hcn HF1.out).mono ?_; rintro e w2 ⟨rfl, hd2⟩; have HD2 := Aside0.mk (below_step HD1.out hd2); clear hd2; have hx0 := blk_cell (blk_below HX.out HD2.out) 0; have hx1 := blk_cell (blk_below HX.out HD2.out) 1) | (go_at_call 14; refine name_world (fun x3 hx => ?_); have HDx : Aside0 (Below W0.heap.size W0 x3) := ⟨by rw [← hx]; exact below_alloc HD2.out _⟩; have hg : x3.heap[w2.heap.size]? = some (.cells #[.slice A0 hd.length c0, .slice A1 rows.length c1] 25 (0, 0)) := (by rw [← hx]; exact blk_new _ _); refine (tartanlaw11_Few.calls 20000 (some ⟨w2.heap.size, 0, none⟩) 1 [⟨hd, rows⟩] none 0 [] false x3 (TabC.one (HT.out.below HDx.out) (blk_cell hg 0) (blk_cell hg 1)) (Nat.le_refl _) (C_noS _) (Nat.le_refl _) HF2.out).mono ?_; rintro e w4 ⟨rfl, hd4⟩; have HD4 := Aside0.mk (below_step HDx.out hd4); clear hd4 hg hx HDx hx0 hx1))
      go_ret
      exact ⟨rfl, below_step HB0.out HD4.out⟩
    | true =>
      obtain ⟨hf1, hnl⟩ := g2 rfl
      obtain ⟨hf2, _⟩ := g4 rfl
      clear g2 g4
      by_cases hl3 : (l.length : Int) > 3
      · clear hf1 hf2
        go_enter Try.func7, Try.ntmps7
        go_wp2_with (first | (go_at_call 13; rw [hW0.out]; refine (works_calls W0).mono ?_; rintro e w1 ⟨rfl, hd1⟩; have HD1 := Aside0.mk hd1; clear hd1) | (go_at_call 14; clear s1; refine (tartanlaw11_Few.calls 20000 Al cl l An cn names true w1 (Kd.C_below HR.out.1 HD1.out) hcl (Kd.C_below HR.out.2 HD1.out) hcn HF1.out).mono ?_; rintro e w2 ⟨rfl, hd2⟩; have HD2 := Aside0.mk (below_step HD1.out hd2); clear hd2; have hx0 := blk_cell (blk_below HX.out HD2.out) 0; have hx1 := blk_cell (blk_below HX.out HD2.out) 1) | (go_at_call 14; refine name_world (fun x3 hx => ?_); have HDx : Aside0 (Below W0.heap.size W0 x3) := ⟨by rw [← hx]; exact below_alloc HD2.out _⟩; have hg : x3.heap[w2.heap.size]? = some (.cells #[.slice A0 hd.length c0, .slice A1 rows.length c1] 25 (0, 0)) := (by rw [← hx]; exact blk_new _ _); refine (tartanlaw11_Few.calls 20000 (some ⟨w2.heap.size, 0, none⟩) 1 [⟨hd, rows⟩] none 0 [] true x3 (TabC.one (HT.out.below HDx.out) (blk_cell hg 0) (blk_cell hg 1)) (Nat.le_refl _) (C_noS _) (Nat.le_refl _) HF2.out).mono ?_; rintro e w4 ⟨rfl, hd4⟩; have HD4 := Aside0.mk (below_step HDx.out hd4); clear hd4 hg hx HDx hx0 hx1))
        go_ret
        exact ⟨rfl, below_step HB0.out HD4.out⟩
      · have hok2' : sizesAll [(⟨hd, rows⟩ : TS)] = true := by unfold sizesAll; simp [hok2]
        have HOL := Aside0.mk (few_ok hf1 hok1)
        have HOT := Aside0.mk (few_ok hf2 hok2')
        have HOA : Aside0 (∀ T ∈ (l ++ [⟨hd, rows⟩] : List TS), okT1 T = true) := ⟨fun T hT => by
          rcases List.mem_append.1 hT with h | h
          · exact HOL.out T h
          · exact HOT.out T h⟩
        obtain ⟨raws, hrl, hRW, hTQ⟩ := raws_of HR.out.1
        have HRW : Aside0 (Kd.C dT W0 Al l.length raws) := ⟨by rw [← hrl]; exact hRW⟩
        have HTQ := Aside0.mk hTQ
        have hu := usable_snoc l ⟨hd, rows⟩ names
        obtain ⟨all, hall⟩ : ∃ all, Aside0 ((l ++ [⟨hd, rows⟩] : List TS) = all) := ⟨_, ⟨rfl⟩⟩
        have hal : all.length ≤ 100000 := by rw [← hall.out, List.length_append, List.length_singleton]; omega
        rw [hall.out] at hu HOA
        clear hf1 hf2 hok1 hok2 hok2' hRW hTQ
        cases h2 : usableR l names with
        | true =>
          cases h3 : usableR [⟨hd, rows⟩] names with
          | true =>
            have HUL := Aside0.mk h2
            have HUT := Aside0.mk h3
            rw [h2, h3] at hu
            have HUA : Aside0 (usableR all names = true) := ⟨hu⟩
            clear hu h2 h3
            go_enter Try.func7, Try.ntmps7
            go_wp2_with (first | (go_at_call 13; rw [hW0.out]; refine (works_calls W0).mono ?_; rintro e w1 ⟨rfl, hd1⟩; have HD1 := Aside0.mk hd1; clear hd1) | (go_at_call 14; clear s1; refine (tartanlaw11_Few.calls 20000 Al cl l An cn names true w1 (Kd.C_below HR.out.1 HD1.out) hcl (Kd.C_below HR.out.2 HD1.out) hcn HF1.out).mono ?_; rintro e w2 ⟨rfl, hd2⟩; have HD2 := Aside0.mk (below_step HD1.out hd2); clear hd2; have hx0 := blk_cell (blk_below HX.out HD2.out) 0; have hx1 := blk_cell (blk_below HX.out HD2.out) 1) | (go_at_call 14; refine name_world (fun x3 hx => ?_); have HDx : Aside0 (Below W0.heap.size W0 x3) := ⟨by rw [← hx]; exact below_alloc HD2.out _⟩; have hg : x3.heap[w2.heap.size]? = some (.cells #[.slice A0 hd.length c0, .slice A1 rows.length c1] 25 (0, 0)) := (by rw [← hx]; exact blk_new _ _); refine (tartanlaw11_Few.calls 20000 (some ⟨w2.heap.size, 0, none⟩) 1 [⟨hd, rows⟩] none 0 [] true x3 (TabC.one (HT.out.below HDx.out) (blk_cell hg 0) (blk_cell hg 1)) (Nat.le_refl _) (C_noS _) (Nat.le_refl _) HF2.out).mono ?_; rintro e w4 ⟨rfl, hd4⟩; have HD4 := Aside0.mk (below_step HDx.out hd4); clear hd4 hg hx HDx hx0 hx1))
            obtain ⟨wa, hwa⟩ : ∃ wa, wa = w4 := ⟨_, rfl⟩
            subst hwa
            refine start_ (n := 7) (S := fun w' => w'.cell? ⟨w.heap.size, 0, none⟩ = some (.slice A0 hd.length c0) ∧ w'.cell? ⟨w.heap.size, 1, none⟩ = some (.slice A1 rows.length c1)) (ds := []) #[false, false, false, false, false, false, false] (by kernel_rfl) rfl rfl ⟨blk_cell (blk_below HX.out HD4.out) 0, blk_cell (blk_below HX.out HD4.out) 1⟩ (fun hHeld => ?_)
            have HB : Aside0 (Below wa.heap.size wa wa.drew) := ⟨below_drew1 (Below.refl _ _)⟩
            generalize wa.drew = W3 at HB hHeld ⊢
            refine pure_ (i := 1) (N := some 29) (v := ?_) (a' := ?_) #[false, true, false, false, false, false, false] rfl rfl (by kernel_rfl) (fun _ _ _ h => h) (Or.inl ⟨by rfl, ?_⟩) ?_ ?_
            rotate_left
            · intro w'
              go_simp
              with_reducible rfl
            rotate_left
            · simp only [Act.put, List.setIfInBounds_toArray, List.set_cons_zero, List.set_cons_succ]
              rfl
            refine take_ (i := 3) (N := some 31) (v := ?_) (a' := ?_) #[false, true, false, true, false, false, false] rfl rfl (by kernel_rfl) (fun _ _ _ h => h) (Or.inl ⟨by rfl, ?_⟩) hHeld ?_ ?_
            rotate_left
            · rintro w' ⟨s0, s1⟩
              go_simp
              with_reducible rfl
            rotate_left
            · simp only [Act.put, List.setIfInBounds_toArray, List.set_cons_zero, List.set_cons_succ]
              rfl
            refine join_ (σ := Value × Value × Value) 2 #[true, true, true, true, true, false, false] (fun s_ => [(28, s_.1), (30, s_.2.1), (32, s_.2.2)]) (fun s_ w' => (w'.cell? ⟨w.heap.size, 0, none⟩ = some (.slice A0 hd.length c0) ∧ w'.cell? ⟨w.heap.size, 1, none⟩ = some (.slice A1 rows.length c1)) ∧ Kd.R dT 25 w' wa.heap.size (fun _ => True) s_.2.1 raws ∧ Kd.R dT 25 w' wa.heap.size (fun _ => True) s_.2.2 [((⟨A0, hd.length, c0⟩, ⟨A1, rows.length, c1⟩) : SlV × SlV)] ∧ Below wa.heap.size wa w') ?_ ?_
            rotate_left
            · intro hCont
              refine two_ (i := 0) (j := 4) (Ni := some 28) (Nj := some 32) #[true, true, false, true, false, false, false] #[false, true, false, true, true, false, false] rfl rfl rfl rfl (by kernel_rfl) (by decide) (by decide) (fun K hK => ?_) (fun K hK => ?_)
              · refine Kd.R_lit_step dT (w0 := wa) wa.heap.size 25 ?hg (N := 28) ?hd (xs := ([] : List (SlV × SlV))) (inner := []) (ok := fun _ => True) (okp := fun _ => False) ?hr ?hp (fun _ hk => hk.elim) trivial HB.out HB.out.size (by simp) ?_; (case hd => rfl); (case hg => rfl); (case hr => first | (go_simp; done) | (go_simp; rfl)); (case hp => exact (Reps.none _ _))
                intro v28 w5 ho hb hg hnew
                have HO28 := Aside0.mk ho
                clear HB ho hg hnew
                have HB := Aside0.mk hb
                clear hb
                refine hK.out _ _ ⟨blk_cell (blk_below HX.out (below_step HD4.out HB.out)) 0, blk_cell (blk_below HX.out (below_step HD4.out HB.out)) 1⟩ (fun hHeld => ?_)
                clear hK K
                refine norm_ (a' := ?_) ?_ ?_
                rotate_left
                · show Act.put _ (some 28) _ = _
                  simp only [Act.put, List.setIfInBounds_toArray, List.set_cons_zero, List.set_cons_succ]
                  rfl
                refine two_ (i := 2) (j := 4) (Ni := some 30) (Nj := some 32) #[true, true, true, true, false, false, false] #[true, true, false, true, true, false, false] rfl rfl rfl rfl (by kernel_rfl) (by decide) (by decide) (fun K hK => ?_) (fun K hK => ?_)
                · refine Kd.R_append_rows_step dT (w0 := wa) wa.heap.size (by rfl) (.tmp 28) (.tmp 29) 29 25 (.agg #[.slice none 0 0, .slice none 0 0]) 48 rfl Try.underlying29 info25 rfl (by decide) (by omega) v28 [] raws _ _ _ (fun _ => True) (fun _ => False) rfl rfl ?aO ?aR (fun _ _ h => h) (fun _ h => h.elim) (fun _ _ => trivial) HB.out HB.out.size ?aL ?_; (case aO => exact HO28.out); (case aR => exact Kd.C_below HRW.out (below_step HD4.out HB.out)); (case aL => simp only [List.length_nil]; omega)
                  intro v30 w6 ho hb hg hat
                  have HO30 : Aside0 (Kd.R dT 25 w6 wa.heap.size (fun _ => True) v30 raws) := ⟨ho⟩
                  clear HB ho hg hat
                  have HB := Aside0.mk hb
                  clear hb
                  refine hK.out _ _ ⟨blk_cell (blk_below HX.out (below_step HD4.out HB.out)) 0, blk_cell (blk_below HX.out (below_step HD4.out HB.out)) 1⟩ (fun hHeld => ?_)
                  clear hK K
                  refine norm_ (a' := ?_) ?_ ?_
                  rotate_left
                  · show Act.put _ (some 30) _ = _
                    simp only [Act.put, List.setIfInBounds_toArray, List.set_cons_zero, List.set_cons_succ]
                    rfl
                  refine one_ (i := 4) (N := some 32) #[true, true, true, true, true, false, false] rfl rfl (by kernel_rfl) (by decide) (fun K hK => ?_)
                  refine Kd.R_lit_step dT (w0 := wa) wa.heap.size 25 ?hg (N := 32) ?hd (xs := ([((⟨A0, hd.length, c0⟩, ⟨A1, rows.length, c1⟩) : SlV × SlV)] : List (SlV × SlV))) (inner := [.slice A0 hd.length c0, .slice A1 rows.length c1]) (ok := fun _ => True) (okp := fun _ => False) ?hr ?hp (fun _ hk => hk.elim) trivial HB.out HB.out.size (by simp) ?_; (case hd => rfl); (case hg => rfl); (case hr => first | (go_simp; done) | (go_simp; rfl)); (case hp => exact (Reps.c2 (show Kd.M dT _ _ _ ((⟨A0, hd.length, c0⟩, ⟨A1, rows.length, c1⟩) : SlV × SlV) [.slice A0 hd.length c0, .slice A1 rows.length c1] from ⟨[.slice A0 hd.length c0], [.slice A1 rows.length c1], rfl, rfl, rfl⟩) (Reps.none _ _)))
                  intro v32 w7 ho hb hg hnew
                  have HO32 := Aside0.mk ho
                  have HO30' := Aside0.mk (Kd.R_grown HO30.out hg (fun _ _ => by simp))
                  clear HB ho hg hnew HO30
                  have HB := Aside0.mk hb
                  clear hb
                  refine hK.out _ _ ⟨blk_cell (blk_below HX.out (below_step HD4.out HB.out)) 0, blk_cell (blk_below HX.out (below_step HD4.out HB.out)) 1⟩ (fun hHeld => ?_)
                  clear hK K
                  refine norm_ (a' := ?_) ?_ ?_
                  rotate_left
                  · show Act.put _ (some 32) _ = _
                    simp only [Act.put, List.setIfInBounds_toArray, List.set_cons_zero, List.set_cons_succ]
                    rfl
                  exact norm_ (by simp only [putAll, Act.put, List.setIfInBounds_toArray, List.set_cons_zero, List.set_cons_succ]) (hCont (v28, v30, v32) _ ⟨hHeld, HO30'.out, HO32.out, HB.out⟩)
                · refine Kd.R_lit_step dT (w0 := wa) wa.heap.size 25 ?hg (N := 32) ?hd (xs := ([((⟨A0, hd.length, c0⟩, ⟨A1, rows.length, c1⟩) : SlV × SlV)] : List (SlV × SlV))) (inner := [.slice A0 hd.length c0, .slice A1 rows.length c1]) (ok := fun _ => True) (okp := fun _ => False) ?hr ?hp (fun _ hk => hk.elim) trivial HB.out HB.out.size (by simp) ?_; (case hd => rfl); (case hg => rfl); (case hr => first | (go_simp; done) | (go_simp; rfl)); (case hp => exact (Reps.c2 (show Kd.M dT _ _ _ ((⟨A0, hd.length, c0⟩, ⟨A1, rows.length, c1⟩) : SlV × SlV) [.slice A0 hd.length c0, .slice A1 rows.length c1] from ⟨[.slice A0 hd.length c0], [.slice A1 rows.length c1], rfl, rfl, rfl⟩) (Reps.none _ _)))
                  intro v32 w6 ho hb hg hnew
                  have HAP : Aside0 (∀ k, v32.ownBlock = some k → some k ≠ v28.ownBlock) := ⟨fun k hk e => by
                    obtain ⟨b, hb1, hb2⟩ := hnew
                    have := Kd.R_lt HO28.out k e.symm
                    rw [hb1] at hk
                    injection hk with hk
                    omega⟩
                  have HO32 := Aside0.mk (R_okT ho HAP.out)
                  have HO28' := Aside0.mk (Kd.R_grown HO28.out hg (fun _ _ => by simp))
                  clear HB ho hg hnew HO28 HAP
                  have HB := Aside0.mk hb
                  clear hb
                  refine hK.out _ _ ⟨blk_cell (blk_below HX.out (below_step HD4.out HB.out)) 0, blk_cell (blk_below HX.out (below_step HD4.out HB.out)) 1⟩ (fun hHeld => ?_)
                  clear hK K
                  refine norm_ (a' := ?_) ?_ ?_
                  rotate_left
                  · show Act.put _ (some 32) _ = _
                    simp only [Act.put, List.setIfInBounds_toArray, List.set_cons_zero, List.set_cons_succ]
                    rfl
                  refine one_ (i := 2) (N := some 30) #[true, true, true, true, true, false, false] rfl rfl (by kernel_rfl) (by decide) (fun K hK => ?_)
                  refine Kd.R_append_rows_step dT (w0 := wa) wa.heap.size (by rfl) (.tmp 28) (.tmp 29) 29 25 (.agg #[.slice none 0 0, .slice none 0 0]) 48 rfl Try.underlying29 info25 rfl (by decide) (by omega) v28 [] raws _ _ _ (fun _ => True) (fun _ => False) rfl rfl ?aO ?aR (fun _ _ h => h) (fun _ h => h.elim) (fun _ _ => trivial) HB.out HB.out.size ?aL ?_; (case aO => exact HO28'.out); (case aR => exact Kd.C_below HRW.out (below_step HD4.out HB.out)); (case aL => simp only [List.length_nil]; omega)
                  intro v30 w7 ho hb hg hat
                  have HO30 : Aside0 (Kd.R dT 25 w7 wa.heap.size (fun _ => True) v30 raws) := ⟨ho⟩
                  have HO32' := Aside0.mk (R_okT (ok' := fun _ => True) (Kd.R_grown HO32.out hg (fun _ h => h)) (fun _ _ => trivial))
                  clear HB ho hg hat
                  have HB := Aside0.mk hb
                  clear hb
                  refine hK.out _ _ ⟨blk_cell (blk_below HX.out (below_step HD4.out HB.out)) 0, blk_cell (blk_below HX.out (below_step HD4.out HB.out)) 1⟩ (fun hHeld => ?_)
                  clear hK K
                  refine norm_ (a' := ?_) ?_ ?_
                  rotate_left
                  · show Act.put _ (some 30) _ = _
                    simp only [Act.put, List.setIfInBounds_toArray, List.set_cons_zero, List.set_cons_succ]
                    rfl
                  exact norm_ (by simp only [putAll, Act.put, List.setIfInBounds_toArray, List.set_cons_zero, List.set_cons_succ]) (hCont (v28, v30, v32) _ ⟨hHeld, HO30.out, HO32'.out, HB.out⟩)
              · refine Kd.R_lit_step dT (w0 := wa) wa.heap.size 25 ?hg (N := 32) ?hd (xs := ([((⟨A0, hd.length, c0⟩, ⟨A1, rows.length, c1⟩) : SlV × SlV)] : List (SlV × SlV))) (inner := [.slice A0 hd.length c0, .slice A1 rows.length c1]) (ok := fun _ => True) (okp := fun _ => False) ?hr ?hp (fun _ hk => hk.elim) trivial HB.out HB.out.size (by simp) ?_; (case hd => rfl); (case hg => rfl); (case hr => first | (go_simp; done) | (go_simp; rfl)); (case hp => exact (Reps.c2 (show Kd.M dT _ _ _ ((⟨A0, hd.length, c0⟩, ⟨A1, rows.length, c1⟩) : SlV × SlV) [.slice A0 hd.length c0, .slice A1 rows.length c1] from ⟨[.slice A0 hd.length c0], [.slice A1 rows.length c1], rfl, rfl, rfl⟩) (Reps.none _ _)))
                intro v32 w5 ho hb hg hnew
                have HO32 := Aside0.mk ho
                clear HB ho hg hnew
                have HB := Aside0.mk hb
                clear hb
                refine hK.out _ _ ⟨blk_cell (blk_below HX.out (below_step HD4.out HB.out)) 0, blk_cell (blk_below HX.out (below_step HD4.out HB.out)) 1⟩ (fun hHeld => ?_)
                clear hK K
                refine norm_ (a' := ?_) ?_ ?_
                rotate_left
                · show Act.put _ (some 32) _ = _
                  simp only [Act.put, List.setIfInBounds_toArray, List.set_cons_zero, List.set_cons_succ]
                  rfl
                refine one_ (i := 0) (N := some 28) #[true, true, false, true, true, false, false] rfl rfl (by kernel_rfl) (by decide) (fun K hK => ?_)
                refine Kd.R_lit_step dT (w0 := wa) wa.heap.size 25 ?hg (N := 28) ?hd (xs := ([] : List (SlV × SlV))) (inner := []) (ok := fun _ => True) (okp := fun _ => False) ?hr ?hp (fun _ hk => hk.elim) trivial HB.out HB.out.size (by simp) ?_; (case hd => rfl); (case hg => rfl); (case hr => first | (go_simp; done) | (go_simp; rfl)); (case hp => exact (Reps.none _ _))
                intro v28 w6 ho hb hg hnew
                have HO28 := Aside0.mk ho
                have HO32' := Aside0.mk (R_okT (ok' := fun k => some k ≠ v28.ownBlock) (Kd.R_grown HO32.out hg (fun _ _ => by simp)) (fun k hk e => by
                  obtain ⟨b, hb1, hb2⟩ := hnew
                  have := Kd.R_lt HO32.out k hk
                  rw [hb1] at e
                  injection e with e
                  omega))
                clear HB ho hg hnew HO32
                have HB := Aside0.mk hb
                clear hb
                refine hK.out _ _ ⟨blk_cell (blk_below HX.out (below_step HD4.out HB.out)) 0, blk_cell (blk_below HX.out (below_step HD4.out HB.out)) 1⟩ (fun hHeld => ?_)
                clear hK K
                refine norm_ (a' := ?_) ?_ ?_
                rotate_left
                · show Act.put _ (some 28) _ = _
                  simp only [Act.put, List.setIfInBounds_toArray, List.set_cons_zero, List.set_cons_succ]
                  rfl
                refine one_ (i := 2) (N := some 30) #[true, true, true, true, true, false, false] rfl rfl (by kernel_rfl) (by decide) (fun K hK => ?_)
                refine Kd.R_append_rows_step dT (w0 := wa) wa.heap.size (by rfl) (.tmp 28) (.tmp 29) 29 25 (.agg #[.slice none 0 0, .slice none 0 0]) 48 rfl Try.underlying29 info25 rfl (by decide) (by omega) v28 [] raws _ _ _ (fun _ => True) (fun _ => False) rfl rfl ?aO ?aR (fun _ _ h => h) (fun _ h => h.elim) (fun _ _ => trivial) HB.out HB.out.size ?aL ?_; (case aO => exact HO28.out); (case aR => exact Kd.C_below HRW.out (below_step HD4.out HB.out)); (case aL => simp only [List.length_nil]; omega)
                intro v30 w7 ho hb hg hat
                have HO30 : Aside0 (Kd.R dT 25 w7 wa.heap.size (fun _ => True) v30 raws) := ⟨ho⟩
                have HO32'' := Aside0.mk (R_okT (ok' := fun _ => True) (Kd.R_grown HO32'.out hg (fun _ h => h)) (fun _ _ => trivial))
                clear HB ho hg hat
                have HB := Aside0.mk hb
                clear hb
                refine hK.out _ _ ⟨blk_cell (blk_below HX.out (below_step HD4.out HB.out)) 0, blk_cell (blk_below HX.out (below_step HD4.out HB.out)) 1⟩ (fun hHeld => ?_)
                clear hK K
                refine norm_ (a' := ?_) ?_ ?_
                rotate_left
                · show Act.put _ (some 30) _ = _
                  simp only [Act.put, List.setIfInBounds_toArray, List.set_cons_zero, List.set_cons_succ]
                  rfl
                exact norm_ (by simp only [putAll, Act.put, List.setIfInBounds_toArray, List.set_cons_zero, List.set_cons_succ]) (hCont (v28, v30, v32) _ ⟨hHeld, HO30.out, HO32''.out, HB.out⟩)
            rintro ⟨v28, v30, v32⟩ w8 ⟨hHeld, ho30, ho32, hb8⟩
            clear HB
            have HB := Aside0.mk hb8
            obtain ⟨A32, c32, e32, hc32, hC32⟩ := Kd.R_reads ho32
            dsimp only at e32 ho30 hC32
            subst e32
            have HO30 := Aside0.mk ho30
            have HC32 := Aside0.mk hC32
            clear ho30 ho32 hb8 hC32
            refine norm_ (a' := ?_) ?_ ?_
            rotate_left
            · simp only [putAll, Act.put, List.setIfInBounds_toArray, List.set_cons_zero, List.set_cons_succ]
              rfl
            refine one_ (i := 5) (N := some 33) #[true, true, true, true, true, true, false] rfl rfl (by kernel_rfl) (by decide) (fun K hK => ?_)
            refine Kd.R_append_rows_step dT (w0 := wa) wa.heap.size (by rfl) (.tmp 30) (.tmp 32) 29 25 (.agg #[.slice none 0 0, .slice none 0 0]) 48 rfl Try.underlying29 info25 rfl (by decide) (by omega) v30 raws [((⟨A0, hd.length, c0⟩, ⟨A1, rows.length, c1⟩) : SlV × SlV)] _ _ _ (fun _ => True) (fun _ => False) rfl rfl ?aO ?aR (fun _ _ h => h) (fun _ h => h.elim) (fun _ _ => trivial) HB.out HB.out.size ?aL ?_; (case aO => exact HO30.out); (case aR => exact HC32.out); (case aL => simp only [List.length_singleton]; omega)
            intro v33 w9 ho9 hb9 hg9 hat9
            obtain ⟨A33, c33, e33, hc33, hC33⟩ := Kd.R_reads ho9
            have hlen : (raws ++ [((⟨A0, hd.length, c0⟩, ⟨A1, rows.length, c1⟩) : SlV × SlV)]).length = all.length := by rw [← hall.out, List.length_append, List.length_append, hrl]; rfl
            rw [hlen] at e33 hc33
            subst e33
            clear HB ho9 hg9 hat9 HO30 HC32
            have HB := Aside0.mk hb9
            have HCA : Aside0 (Kd.C k25 w9 A33 all.length all) := ⟨C_of_raws hlen hC33 (by rw [← hall.out]; exact raws_snoc (raws_below HTQ.out (below_step HD4.out HB.out)) hrl ⟨rfl, rfl, HT.out.below (below_step HD4.out HB.out)⟩)⟩
            clear hb9 hC33
            refine hK.out _ _ ⟨blk_cell (blk_below HX.out (below_step HD4.out HB.out)) 0, blk_cell (blk_below HX.out (below_step HD4.out HB.out)) 1⟩ (fun hHeld => ?_)
            clear hK K
            refine norm_ (a' := ?_) ?_ ?_
            rotate_left
            · show Act.put _ (some 33) _ = _
              simp only [Act.put, List.setIfInBounds_toArray, List.set_cons_zero, List.set_cons_succ]
              rfl
            refine pure_ (i := 6) (N := some 8) (v := ?_) (a' := ?_) #[true, true, true, true, true, true, true] rfl rfl (by kernel_rfl) (fun _ _ _ h => h) (Or.inl ⟨by rfl, ?_⟩) ?_ ?_
            rotate_left
            · intro w'
              go_simp
              with_reducible rfl
            rotate_left
            · simp only [Act.put, List.setIfInBounds_toArray, List.set_cons_zero, List.set_cons_succ]
              rfl
            refine done_ (by kernel_rfl) ?_
            have HD9 := Aside0.mk (below_step HD4.out HB.out)
            clear HB hHeld
            go_wp2_with (first | (go_at_call 25; clear s2; refine (usable_calls A33 c33 all An cn names w9 HCA.out (Kd.C_below HR.out.2 HD9.out) hcn hal (by omega) HOA.out).mono ?_; rw [HUA.out]; rintro e w10 ⟨rfl, hd10⟩; have HD10 := Aside0.mk (below_step HD9.out hd10); clear hd10) | (go_at_call 25; clear s3; refine (usable_calls Al cl l An cn names w10 (Kd.C_below HR.out.1 HD10.out) (Kd.C_below HR.out.2 HD10.out) hcn (by omega) (by omega) HOL.out).mono ?_; rw [HUL.out]; rintro e w11 ⟨rfl, hd11⟩; have HD11 := Aside0.mk (below_step HD10.out hd11); clear hd11; have hx0 := blk_cell (blk_below HX.out HD11.out) 0; have hx1 := blk_cell (blk_below HX.out HD11.out) 1) | (go_at_call 25; refine name_world (fun x12 hx => ?_); have HDx : Aside0 (Below W0.heap.size W0 x12) := ⟨by rw [← hx]; exact below_alloc HD11.out _⟩; have hg : x12.heap[w11.heap.size]? = some (.cells #[.slice A0 hd.length c0, .slice A1 rows.length c1] 25 (0, 0)) := (by rw [← hx]; exact blk_new _ _); refine (usable_calls (some ⟨w11.heap.size, 0, none⟩) 1 [⟨hd, rows⟩] An cn names x12 (TabC.one (HT.out.below HDx.out) (blk_cell hg 0) (blk_cell hg 1)) (Kd.C_below HR.out.2 HDx.out) hcn (by rw [List.length_singleton]; omega) (by omega) HOT.out).mono ?_; rw [HUT.out]; rintro e w13 ⟨rfl, hd13⟩; have HD13 := Aside0.mk (below_step HDx.out hd13); clear hd13 hg hx HDx))
            go_ret
            exact ⟨rfl, below_step HB0.out HD13.out⟩
          | false =>
            have HUL := Aside0.mk h2
            have HUT := Aside0.mk h3
            rw [h2, h3] at hu
            have HUA : Aside0 (usableR all names = false) := ⟨hu⟩
            clear hu h2 h3
            go_enter Try.func7, Try.ntmps7
            go_wp2_with (first | (go_at_call 13; rw [hW0.out]; refine (works_calls W0).mono ?_; rintro e w1 ⟨rfl, hd1⟩; have HD1 := Aside0.mk hd1; clear hd1) | (go_at_call 14; clear s1; refine (tartanlaw11_Few.calls 20000 Al cl l An cn names true w1 (Kd.C_below HR.out.1 HD1.out) hcl (Kd.C_below HR.out.2 HD1.out) hcn HF1.out).mono ?_; rintro e w2 ⟨rfl, hd2⟩; have HD2 := Aside0.mk (below_step HD1.out hd2); clear hd2; have hx0 := blk_cell (blk_below HX.out HD2.out) 0; have hx1 := blk_cell (blk_below HX.out HD2.out) 1) | (go_at_call 14; refine name_world (fun x3 hx => ?_); have HDx : Aside0 (Below W0.heap.size W0 x3) := ⟨by rw [← hx]; exact below_alloc HD2.out _⟩; have hg : x3.heap[w2.heap.size]? = some (.cells #[.slice A0 hd.length c0, .slice A1 rows.length c1] 25 (0, 0)) := (by rw [← hx]; exact blk_new _ _); refine (tartanlaw11_Few.calls 20000 (some ⟨w2.heap.size, 0, none⟩) 1 [⟨hd, rows⟩] none 0 [] true x3 (TabC.one (HT.out.below HDx.out) (blk_cell hg 0) (blk_cell hg 1)) (Nat.le_refl _) (C_noS _) (Nat.le_refl _) HF2.out).mono ?_; rintro e w4 ⟨rfl, hd4⟩; have HD4 := Aside0.mk (below_step HDx.out hd4); clear hd4 hg hx HDx hx0 hx1))
            obtain ⟨wa, hwa⟩ : ∃ wa, wa = w4 := ⟨_, rfl⟩
            subst hwa
            refine start_ (n := 7) (S := fun w' => w'.cell? ⟨w.heap.size, 0, none⟩ = some (.slice A0 hd.length c0) ∧ w'.cell? ⟨w.heap.size, 1, none⟩ = some (.slice A1 rows.length c1)) (ds := []) #[false, false, false, false, false, false, false] (by kernel_rfl) rfl rfl ⟨blk_cell (blk_below HX.out HD4.out) 0, blk_cell (blk_below HX.out HD4.out) 1⟩ (fun hHeld => ?_)
            have HB : Aside0 (Below wa.heap.size wa wa.drew) := ⟨below_drew1 (Below.refl _ _)⟩
            generalize wa.drew = W3 at HB hHeld ⊢
            refine pure_ (i := 1) (N := some 29) (v := ?_) (a' := ?_) #[false, true, false, false, false, false, false] rfl rfl (by kernel_rfl) (fun _ _ _ h => h) (Or.inl ⟨by rfl, ?_⟩) ?_ ?_
            rotate_left
            · intro w'
              go_simp
              with_reducible rfl
            rotate_left
            · simp only [Act.put, List.setIfInBounds_toArray, List.set_cons_zero, List.set_cons_succ]
              rfl
            refine take_ (i := 3) (N := some 31) (v := ?_) (a' := ?_) #[false, true, false, true, false, false, false] rfl rfl (by kernel_rfl) (fun _ _ _ h => h) (Or.inl ⟨by rfl, ?_⟩) hHeld ?_ ?_
            rotate_left
            · rintro w' ⟨s0, s1⟩
              go_simp
              with_reducible rfl
            rotate_left
            · simp only [Act.put, List.setIfInBounds_toArray, List.set_cons_zero, List.set_cons_succ]
              rfl
            refine join_ (σ := Value × Value × Value) 2 #[true, true, true, true, true, false, false] (fun s_ => [(28, s_.1), (30, s_.2.1), (32, s_.2.2)]) (fun s_ w' => (w'.cell? ⟨w.heap.size, 0, none⟩ = some (.slice A0 hd.length c0) ∧ w'.cell? ⟨w.heap.size, 1, none⟩ = some (.slice A1 rows.length c1)) ∧ Kd.R dT 25 w' wa.heap.size (fun _ => True) s_.2.1 raws ∧ Kd.R dT 25 w' wa.heap.size (fun _ => True) s_.2.2 [((⟨A0, hd.length, c0⟩, ⟨A1, rows.length, c1⟩) : SlV × SlV)] ∧ Below wa.heap.size wa w') ?_ ?_
            rotate_left
            · intro hCont
              refine two_ (i := 0) (j := 4) (Ni := some 28) (Nj := some 32) #[true, true, false, true, false, false, false] #[false, true, false, true, true, false, false] rfl rfl rfl rfl (by kernel_rfl) (by decide) (by decide) (fun K hK => ?_) (fun K hK => ?_)
              · refine Kd.R_lit_step dT (w0 := wa) wa.heap.size 25 ?hg (N := 28) ?hd (xs := ([] : List (SlV × SlV))) (inner := []) (ok := fun _ => True) (okp := fun _ => False) ?hr ?hp (fun _ hk => hk.elim) trivial HB.out HB.out.size (by simp) ?_; (case hd => rfl); (case hg => rfl); (case hr => first | (go_simp; done) | (go_simp; rfl)); (case hp => exact (Reps.none _ _))
                intro v28 w5 ho hb hg hnew
                have HO28 := Aside0.mk ho
                clear HB ho hg hnew
                have HB := Aside0.mk hb
                clear hb
                refine hK.out _ _ ⟨blk_cell (blk_below HX.out (below_step HD4.out HB.out)) 0, blk_cell (blk_below HX.out (below_step HD4.out HB.out)) 1⟩ (fun hHeld => ?_)
                clear hK K
                refine norm_ (a' := ?_) ?_ ?_
                rotate_left
                · show Act.put _ (some 28) _ = _
                  simp only [Act.put, List.setIfInBounds_toArray, List.set_cons_zero, List.set_cons_succ]
                  rfl
                refine two_ (i := 2) (j := 4) (Ni := some 30) (Nj := some 32) #[true, true, true, true, false, false, false] #[true, true, false, true, true, false, false] rfl rfl rfl rfl (by kernel_rfl) (by decide) (by decide) (fun K hK => ?_) (fun K hK => ?_)
                · refine Kd.R_append_rows_step dT (w0 := wa) wa.heap.size (by rfl) (.tmp 28) (.tmp 29) 29 25 (.agg #[.slice none 0 0, .slice none 0 0]) 48 rfl Try.underlying29 info25 rfl (by decide) (by omega) v28 [] raws _ _ _ (fun _ => True) (fun _ => False) rfl rfl ?aO ?aR (fun _ _ h => h) (fun _ h => h.elim) (fun _ _ => trivial) HB.out HB.out.size ?aL ?_; (case aO => exact HO28.out); (case aR => exact Kd.C_below HRW.out (below_step HD4.out HB.out)); (case aL => simp only [List.length_nil]; omega)
                  intro v30 w6 ho hb hg hat
                  have HO30 : Aside0 (Kd.R dT 25 w6 wa.heap.size (fun _ => True) v30 raws) := ⟨ho⟩
                  clear HB ho hg hat
                  have HB := Aside0.mk hb
                  clear hb
                  refine hK.out _ _ ⟨blk_cell (blk_below HX.out (below_step HD4.out HB.out)) 0, blk_cell (blk_below HX.out (below_step HD4.out HB.out)) 1⟩ (fun hHeld => ?_)
                  clear hK K
                  refine norm_ (a' := ?_) ?_ ?_
                  rotate_left
                  · show Act.put _ (some 30) _ = _
                    simp only [Act.put, List.setIfInBounds_toArray, List.set_cons_zero, List.set_cons_succ]
                    rfl
                  refine one_ (i := 4) (N := some 32) #[true, true, true, true, true, false, false] rfl rfl (by kernel_rfl) (by decide) (fun K hK => ?_)
                  refine Kd.R_lit_step dT (w0 := wa) wa.heap.size 25 ?hg (N := 32) ?hd (xs := ([((⟨A0, hd.length, c0⟩, ⟨A1, rows.length, c1⟩) : SlV × SlV)] : List (SlV × SlV))) (inner := [.slice A0 hd.length c0, .slice A1 rows.length c1]) (ok := fun _ => True) (okp := fun _ => False) ?hr ?hp (fun _ hk => hk.elim) trivial HB.out HB.out.size (by simp) ?_; (case hd => rfl); (case hg => rfl); (case hr => first | (go_simp; done) | (go_simp; rfl)); (case hp => exact (Reps.c2 (show Kd.M dT _ _ _ ((⟨A0, hd.length, c0⟩, ⟨A1, rows.length, c1⟩) : SlV × SlV) [.slice A0 hd.length c0, .slice A1 rows.length c1] from ⟨[.slice A0 hd.length c0], [.slice A1 rows.length c1], rfl, rfl, rfl⟩) (Reps.none _ _)))
                  intro v32 w7 ho hb hg hnew
                  have HO32 := Aside0.mk ho
                  have HO30' := Aside0.mk (Kd.R_grown HO30.out hg (fun _ _ => by simp))
                  clear HB ho hg hnew HO30
                  have HB := Aside0.mk hb
                  clear hb
                  refine hK.out _ _ ⟨blk_cell (blk_below HX.out (below_step HD4.out HB.out)) 0, blk_cell (blk_below HX.out (below_step HD4.out HB.out)) 1⟩ (fun hHeld => ?_)
                  clear hK K
                  refine norm_ (a' := ?_) ?_ ?_
                  rotate_left
                  · show Act.put _ (some 32) _ = _
                    simp only [Act.put, List.setIfInBounds_toArray, List.set_cons_zero, List.set_cons_succ]
                    rfl
                  exact norm_ (by simp only [putAll, Act.put, List.setIfInBounds_toArray, List.set_cons_zero, List.set_cons_succ]) (hCont (v28, v30, v32) _ ⟨hHeld, HO30'.out, HO32.out, HB.out⟩)
                · refine Kd.R_lit_step dT (w0 := wa) wa.heap.size 25 ?hg (N := 32) ?hd (xs := ([((⟨A0, hd.length, c0⟩, ⟨A1, rows.length, c1⟩) : SlV × SlV)] : List (SlV × SlV))) (inner := [.slice A0 hd.length c0, .slice A1 rows.length c1]) (ok := fun _ => True) (okp := fun _ => False) ?hr ?hp (fun _ hk => hk.elim) trivial HB.out HB.out.size (by simp) ?_; (case hd => rfl); (case hg => rfl); (case hr => first | (go_simp; done) | (go_simp; rfl)); (case hp => exact (Reps.c2 (show Kd.M dT _ _ _ ((⟨A0, hd.length, c0⟩, ⟨A1, rows.length, c1⟩) : SlV × SlV) [.slice A0 hd.length c0, .slice A1 rows.length c1] from ⟨[.slice A0 hd.length c0], [.slice A1 rows.length c1], rfl, rfl, rfl⟩) (Reps.none _ _)))
                  intro v32 w6 ho hb hg hnew
                  have HAP : Aside0 (∀ k, v32.ownBlock = some k → some k ≠ v28.ownBlock) := ⟨fun k hk e => by
                    obtain ⟨b, hb1, hb2⟩ := hnew
                    have := Kd.R_lt HO28.out k e.symm
                    rw [hb1] at hk
                    injection hk with hk
                    omega⟩
                  have HO32 := Aside0.mk (R_okT ho HAP.out)
                  have HO28' := Aside0.mk (Kd.R_grown HO28.out hg (fun _ _ => by simp))
                  clear HB ho hg hnew HO28 HAP
                  have HB := Aside0.mk hb
                  clear hb
                  refine hK.out _ _ ⟨blk_cell (blk_below HX.out (below_step HD4.out HB.out)) 0, blk_cell (blk_below HX.out (below_step HD4.out HB.out)) 1⟩ (fun hHeld => ?_)
                  clear hK K
                  refine norm_ (a' := ?_) ?_ ?_
                  rotate_left
                  · show Act.put _ (some 32) _ = _
                    simp only [Act.put, List.setIfInBounds_toArray, List.set_cons_zero, List.set_cons_succ]
                    rfl
                  refine one_ (i := 2) (N := some 30) #[true, true, true, true, true, false, false] rfl rfl (by kernel_rfl) (by decide) (fun K hK => ?_)
                  refine Kd.R_append_rows_step dT (w0 := wa) wa.heap.size (by rfl) (.tmp 28) (.tmp 29) 29 25 (.agg #[.slice none 0 0, .slice none 0 0]) 48 rfl Try.underlying29 info25 rfl (by decide) (by omega) v28 [] raws _ _ _ (fun _ => True) (fun _ => False) rfl rfl ?aO ?aR (fun _ _ h => h) (fun _ h => h.elim) (fun _ _ => trivial) HB.out HB.out.size ?aL ?_; (case aO => exact HO28'.out); (case aR => exact Kd.C_below HRW.out (below_step HD4.out HB.out)); (case aL => simp only [List.length_nil]; omega)
                  intro v30 w7 ho hb hg hat
                  have HO30 : Aside0 (Kd.R dT 25 w7 wa.heap.size (fun _ => True) v30 raws) := ⟨ho⟩
                  have HO32' := Aside0.mk (R_okT (ok' := fun _ => True) (Kd.R_grown HO32.out hg (fun _ h => h)) (fun _ _ => trivial))
                  clear HB ho hg hat
                  have HB := Aside0.mk hb
                  clear hb
                  refine hK.out _ _ ⟨blk_cell (blk_below HX.out (below_step HD4.out HB.out)) 0, blk_cell (blk_below HX.out (below_step HD4.out HB.out)) 1⟩ (fun hHeld => ?_)
                  clear hK K
                  refine norm_ (a' := ?_) ?_ ?_
                  rotate_left
                  · show Act.put _ (some 30) _ = _
                    simp only [Act.put, List.setIfInBounds_toArray, List.set_cons_zero, List.set_cons_succ]
                    rfl
                  exact norm_ (by simp only [putAll, Act.put, List.setIfInBounds_toArray, List.set_cons_zero, List.set_cons_succ]) (hCont (v28, v30, v32) _ ⟨hHeld, HO30.out, HO32'.out, HB.out⟩)
              · refine Kd.R_lit_step dT (w0 := wa) wa.heap.size 25 ?hg (N := 32) ?hd (xs := ([((⟨A0, hd.length, c0⟩, ⟨A1, rows.length, c1⟩) : SlV × SlV)] : List (SlV × SlV))) (inner := [.slice A0 hd.length c0, .slice A1 rows.length c1]) (ok := fun _ => True) (okp := fun _ => False) ?hr ?hp (fun _ hk => hk.elim) trivial HB.out HB.out.size (by simp) ?_; (case hd => rfl); (case hg => rfl); (case hr => first | (go_simp; done) | (go_simp; rfl)); (case hp => exact (Reps.c2 (show Kd.M dT _ _ _ ((⟨A0, hd.length, c0⟩, ⟨A1, rows.length, c1⟩) : SlV × SlV) [.slice A0 hd.length c0, .slice A1 rows.length c1] from ⟨[.slice A0 hd.length c0], [.slice A1 rows.length c1], rfl, rfl, rfl⟩) (Reps.none _ _)))
                intro v32 w5 ho hb hg hnew
                have HO32 := Aside0.mk ho
                clear HB ho hg hnew
                have HB := Aside0.mk hb
                clear hb
                refine hK.out _ _ ⟨blk_cell (blk_below HX.out (below_step HD4.out HB.out)) 0, blk_cell (blk_below HX.out (below_step HD4.out HB.out)) 1⟩ (fun hHeld => ?_)
                clear hK K
                refine norm_ (a' := ?_) ?_ ?_
                rotate_left
                · show Act.put _ (some 32) _ = _
                  simp only [Act.put, List.setIfInBounds_toArray, List.set_cons_zero, List.set_cons_succ]
                  rfl
                refine one_ (i := 0) (N := some 28) #[true, true, false, true, true, false, false] rfl rfl (by kernel_rfl) (by decide) (fun K hK => ?_)
                refine Kd.R_lit_step dT (w0 := wa) wa.heap.size 25 ?hg (N := 28) ?hd (xs := ([] : List (SlV × SlV))) (inner := []) (ok := fun _ => True) (okp := fun _ => False) ?hr ?hp (fun _ hk => hk.elim) trivial HB.out HB.out.size (by simp) ?_; (case hd => rfl); (case hg => rfl); (case hr => first | (go_simp; done) | (go_simp; rfl)); (case hp => exact (Reps.none _ _))
                intro v28 w6 ho hb hg hnew
                have HO28 := Aside0.mk ho
                have HO32' := Aside0.mk (R_okT (ok' := fun k => some k ≠ v28.ownBlock) (Kd.R_grown HO32.out hg (fun _ _ => by simp)) (fun k hk e => by
                  obtain ⟨b, hb1, hb2⟩ := hnew
                  have := Kd.R_lt HO32.out k hk
                  rw [hb1] at e
                  injection e with e
                  omega))
                clear HB ho hg hnew HO32
                have HB := Aside0.mk hb
                clear hb
                refine hK.out _ _ ⟨blk_cell (blk_below HX.out (below_step HD4.out HB.out)) 0, blk_cell (blk_below HX.out (below_step HD4.out HB.out)) 1⟩ (fun hHeld => ?_)
                clear hK K
                refine norm_ (a' := ?_) ?_ ?_
                rotate_left
                · show Act.put _ (some 28) _ = _
                  simp only [Act.put, List.setIfInBounds_toArray, List.set_cons_zero, List.set_cons_succ]
                  rfl
                refine one_ (i := 2) (N := some 30) #[true, true, true, true, true, false, false] rfl rfl (by kernel_rfl) (by decide) (fun K hK => ?_)
                refine Kd.R_append_rows_step dT (w0 := wa) wa.heap.size (by rfl) (.tmp 28) (.tmp 29) 29 25 (.agg #[.slice none 0 0, .slice none 0 0]) 48 rfl Try.underlying29 info25 rfl (by decide) (by omega) v28 [] raws _ _ _ (fun _ => True) (fun _ => False) rfl rfl ?aO ?aR (fun _ _ h => h) (fun _ h => h.elim) (fun _ _ => trivial) HB.out HB.out.size ?aL ?_; (case aO => exact HO28.out); (case aR => exact Kd.C_below HRW.out (below_step HD4.out HB.out)); (case aL => simp only [List.length_nil]; omega)
                intro v30 w7 ho hb hg hat
                have HO30 : Aside0 (Kd.R dT 25 w7 wa.heap.size (fun _ => True) v30 raws) := ⟨ho⟩
                have HO32'' := Aside0.mk (R_okT (ok' := fun _ => True) (Kd.R_grown HO32'.out hg (fun _ h => h)) (fun _ _ => trivial))
                clear HB ho hg hat
                have HB := Aside0.mk hb
                clear hb
                refine hK.out _ _ ⟨blk_cell (blk_below HX.out (below_step HD4.out HB.out)) 0, blk_cell (blk_below HX.out (below_step HD4.out HB.out)) 1⟩ (fun hHeld => ?_)
                clear hK K
                refine norm_ (a' := ?_) ?_ ?_
                rotate_left
                · show Act.put _ (some 30) _ = _
                  simp only [Act.put, List.setIfInBounds_toArray, List.set_cons_zero, List.set_cons_succ]
                  rfl
                exact norm_ (by simp only [putAll, Act.put, List.setIfInBounds_toArray, List.set_cons_zero, List.set_cons_succ]) (hCont (v28, v30, v32) _ ⟨hHeld, HO30.out, HO32''.out, HB.out⟩)
            rintro ⟨v28, v30, v32⟩ w8 ⟨hHeld, ho30, ho32, hb8⟩
            clear HB
            have HB := Aside0.mk hb8
            obtain ⟨A32, c32, e32, hc32, hC32⟩ := Kd.R_reads ho32
            dsimp only at e32 ho30 hC32
            subst e32
            have HO30 := Aside0.mk ho30
            have HC32 := Aside0.mk hC32
            clear ho30 ho32 hb8 hC32
            refine norm_ (a' := ?_) ?_ ?_
            rotate_left
            · simp only [putAll, Act.put, List.setIfInBounds_toArray, List.set_cons_zero, List.set_cons_succ]
              rfl
            refine one_ (i := 5) (N := some 33) #[true, true, true, true, true, true, false] rfl rfl (by kernel_rfl) (by decide) (fun K hK => ?_)
            refine Kd.R_append_rows_step dT (w0 := wa) wa.heap.size (by rfl) (.tmp 30) (.tmp 32) 29 25 (.agg #[.slice none 0 0, .slice none 0 0]) 48 rfl Try.underlying29 info25 rfl (by decide) (by omega) v30 raws [((⟨A0, hd.length, c0⟩, ⟨A1, rows.length, c1⟩) : SlV × SlV)] _ _ _ (fun _ => True) (fun _ => False) rfl rfl ?aO ?aR (fun _ _ h => h) (fun _ h => h.elim) (fun _ _ => trivial) HB.out HB.out.size ?aL ?_; (case aO => exact HO30.out); (case aR => exact HC32.out); (case aL => simp only [List.length_singleton]; omega)
            intro v33 w9 ho9 hb9 hg9 hat9
            obtain ⟨A33, c33, e33, hc33, hC33⟩ := Kd.R_reads ho9
            have hlen : (raws ++ [((⟨A0, hd.length, c0⟩, ⟨A1, rows.length, c1⟩) : SlV × SlV)]).length = all.length := by rw [← hall.out, List.length_append, List.length_append, hrl]; rfl
            rw [hlen] at e33 hc33
            subst e33
            clear HB ho9 hg9 hat9 HO30 HC32
            have HB := Aside0.mk hb9
            have HCA : Aside0 (Kd.C k25 w9 A33 all.length all) := ⟨C_of_raws hlen hC33 (by rw [← hall.out]; exact raws_snoc (raws_below HTQ.out (below_step HD4.out HB.out)) hrl ⟨rfl, rfl, HT.out.below (below_step HD4.out HB.out)⟩)⟩
            clear hb9 hC33
            refine hK.out _ _ ⟨blk_cell (blk_below HX.out (below_step HD4.out HB.out)) 0, blk_cell (blk_below HX.out (below_step HD4.out HB.out)) 1⟩ (fun hHeld => ?_)
            clear hK K
            refine norm_ (a' := ?_) ?_ ?_
            rotate_left
            · show Act.put _ (some 33) _ = _
              simp only [Act.put, List.setIfInBounds_toArray, List.set_cons_zero, List.set_cons_succ]
              rfl
            refine pure_ (i := 6) (N := some 8) (v := ?_) (a' := ?_) #[true, true, true, true, true, true, true] rfl rfl (by kernel_rfl) (fun _ _ _ h => h) (Or.inl ⟨by rfl, ?_⟩) ?_ ?_
            rotate_left
            · intro w'
              go_simp
              with_reducible rfl
            rotate_left
            · simp only [Act.put, List.setIfInBounds_toArray, List.set_cons_zero, List.set_cons_succ]
              rfl
            refine done_ (by kernel_rfl) ?_
            have HD9 := Aside0.mk (below_step HD4.out HB.out)
            clear HB hHeld
            go_wp2_with (first | (go_at_call 25; clear s2; refine (usable_calls A33 c33 all An cn names w9 HCA.out (Kd.C_below HR.out.2 HD9.out) hcn hal (by omega) HOA.out).mono ?_; rw [HUA.out]; rintro e w10 ⟨rfl, hd10⟩; have HD10 := Aside0.mk (below_step HD9.out hd10); clear hd10) | (go_at_call 25; clear s3; refine (usable_calls Al cl l An cn names w10 (Kd.C_below HR.out.1 HD10.out) (Kd.C_below HR.out.2 HD10.out) hcn (by omega) (by omega) HOL.out).mono ?_; rw [HUL.out]; rintro e w11 ⟨rfl, hd11⟩; have HD11 := Aside0.mk (below_step HD10.out hd11); clear hd11; have hx0 := blk_cell (blk_below HX.out HD11.out) 0; have hx1 := blk_cell (blk_below HX.out HD11.out) 1) | (go_at_call 25; refine name_world (fun x12 hx => ?_); have HDx : Aside0 (Below W0.heap.size W0 x12) := ⟨by rw [← hx]; exact below_alloc HD11.out _⟩; have hg : x12.heap[w11.heap.size]? = some (.cells #[.slice A0 hd.length c0, .slice A1 rows.length c1] 25 (0, 0)) := (by rw [← hx]; exact blk_new _ _); refine (usable_calls (some ⟨w11.heap.size, 0, none⟩) 1 [⟨hd, rows⟩] An cn names x12 (TabC.one (HT.out.below HDx.out) (blk_cell hg 0) (blk_cell hg 1)) (Kd.C_below HR.out.2 HDx.out) hcn (by rw [List.length_singleton]; omega) (by omega) HOT.out).mono ?_; rw [HUT.out]; rintro e w13 ⟨rfl, hd13⟩; have HD13 := Aside0.mk (below_step HDx.out hd13); clear hd13 hg hx HDx))
            go_ret
            exact ⟨rfl, below_step HB0.out HD13.out⟩
        | false =>
          have HUL := Aside0.mk h2
          rw [h2] at hu
          have HUA : Aside0 (usableR all names = false) := ⟨hu⟩
          clear hu h2
          go_enter Try.func7, Try.ntmps7
          go_wp2_with (first | (go_at_call 13; rw [hW0.out]; refine (works_calls W0).mono ?_; rintro e w1 ⟨rfl, hd1⟩; have HD1 := Aside0.mk hd1; clear hd1) | (go_at_call 14; clear s1; refine (tartanlaw11_Few.calls 20000 Al cl l An cn names true w1 (Kd.C_below HR.out.1 HD1.out) hcl (Kd.C_below HR.out.2 HD1.out) hcn HF1.out).mono ?_; rintro e w2 ⟨rfl, hd2⟩; have HD2 := Aside0.mk (below_step HD1.out hd2); clear hd2; have hx0 := blk_cell (blk_below HX.out HD2.out) 0; have hx1 := blk_cell (blk_below HX.out HD2.out) 1) | (go_at_call 14; refine name_world (fun x3 hx => ?_); have HDx : Aside0 (Below W0.heap.size W0 x3) := ⟨by rw [← hx]; exact below_alloc HD2.out _⟩; have hg : x3.heap[w2.heap.size]? = some (.cells #[.slice A0 hd.length c0, .slice A1 rows.length c1] 25 (0, 0)) := (by rw [← hx]; exact blk_new _ _); refine (tartanlaw11_Few.calls 20000 (some ⟨w2.heap.size, 0, none⟩) 1 [⟨hd, rows⟩] none 0 [] true x3 (TabC.one (HT.out.below HDx.out) (blk_cell hg 0) (blk_cell hg 1)) (Nat.le_refl _) (C_noS _) (Nat.le_refl _) HF2.out).mono ?_; rintro e w4 ⟨rfl, hd4⟩; have HD4 := Aside0.mk (below_step HDx.out hd4); clear hd4 hg hx HDx hx0 hx1))
          obtain ⟨wa, hwa⟩ : ∃ wa, wa = w4 := ⟨_, rfl⟩
          subst hwa
          refine start_ (n := 7) (S := fun w' => w'.cell? ⟨w.heap.size, 0, none⟩ = some (.slice A0 hd.length c0) ∧ w'.cell? ⟨w.heap.size, 1, none⟩ = some (.slice A1 rows.length c1)) (ds := []) #[false, false, false, false, false, false, false] (by kernel_rfl) rfl rfl ⟨blk_cell (blk_below HX.out HD4.out) 0, blk_cell (blk_below HX.out HD4.out) 1⟩ (fun hHeld => ?_)
          have HB : Aside0 (Below wa.heap.size wa wa.drew) := ⟨below_drew1 (Below.refl _ _)⟩
          generalize wa.drew = W3 at HB hHeld ⊢
          refine pure_ (i := 1) (N := some 29) (v := ?_) (a' := ?_) #[false, true, false, false, false, false, false] rfl rfl (by kernel_rfl) (fun _ _ _ h => h) (Or.inl ⟨by rfl, ?_⟩) ?_ ?_
          rotate_left
          · intro w'
            go_simp
            with_reducible rfl
          rotate_left
          · simp only [Act.put, List.setIfInBounds_toArray, List.set_cons_zero, List.set_cons_succ]
            rfl
          refine take_ (i := 3) (N := some 31) (v := ?_) (a' := ?_) #[false, true, false, true, false, false, false] rfl rfl (by kernel_rfl) (fun _ _ _ h => h) (Or.inl ⟨by rfl, ?_⟩) hHeld ?_ ?_
          rotate_left
          · rintro w' ⟨s0, s1⟩
            go_simp
            with_reducible rfl
          rotate_left
          · simp only [Act.put, List.setIfInBounds_toArray, List.set_cons_zero, List.set_cons_succ]
            rfl
          refine join_ (σ := Value × Value × Value) 2 #[true, true, true, true, true, false, false] (fun s_ => [(28, s_.1), (30, s_.2.1), (32, s_.2.2)]) (fun s_ w' => (w'.cell? ⟨w.heap.size, 0, none⟩ = some (.slice A0 hd.length c0) ∧ w'.cell? ⟨w.heap.size, 1, none⟩ = some (.slice A1 rows.length c1)) ∧ Kd.R dT 25 w' wa.heap.size (fun _ => True) s_.2.1 raws ∧ Kd.R dT 25 w' wa.heap.size (fun _ => True) s_.2.2 [((⟨A0, hd.length, c0⟩, ⟨A1, rows.length, c1⟩) : SlV × SlV)] ∧ Below wa.heap.size wa w') ?_ ?_
          rotate_left
          · intro hCont
            refine two_ (i := 0) (j := 4) (Ni := some 28) (Nj := some 32) #[true, true, false, true, false, false, false] #[false, true, false, true, true, false, false] rfl rfl rfl rfl (by kernel_rfl) (by decide) (by decide) (fun K hK => ?_) (fun K hK => ?_)
            · refine Kd.R_lit_step dT (w0 := wa) wa.heap.size 25 ?hg (N := 28) ?hd (xs := ([] : List (SlV × SlV))) (inner := []) (ok := fun _ => True) (okp := fun _ => False) ?hr ?hp (fun _ hk => hk.elim) trivial HB.out HB.out.size (by simp) ?_; (case hd => rfl); (case hg => rfl); (case hr => first | (go_simp; done) | (go_simp; rfl)); (case hp => exact (Reps.none _ _))
              intro v28 w5 ho hb hg hnew
              have HO28 := Aside0.mk ho
              clear HB ho hg hnew
              have HB := Aside0.mk hb
              clear hb
              refine hK.out _ _ ⟨blk_cell (blk_below HX.out (below_step HD4.out HB.out)) 0, blk_cell (blk_below HX.out (below_step HD4.out HB.out)) 1⟩ (fun hHeld => ?_)
              clear hK K
              refine norm_ (a' := ?_) ?_ ?_
              rotate_left
              · show Act.put _ (some 28) _ = _
                simp only [Act.put, List.setIfInBounds_toArray, List.set_cons_zero, List.set_cons_succ]
                rfl
              refine two_ (i := 2) (j := 4) (Ni := some 30) (Nj := some 32) #[true, true, true, true, false, false, false] #[true, true, false, true, true, false, false] rfl rfl rfl rfl (by kernel_rfl) (by decide) (by decide) (fun K hK => ?_) (fun K hK => ?_)
              · refine Kd.R_append_rows_step dT (w0 := wa) wa.heap.size (by rfl) (.tmp 28) (.tmp 29) 29 25 (.agg #[.slice none 0 0, .slice none 0 0]) 48 rfl Try.underlying29 info25 rfl (by decide) (by omega) v28 [] raws _ _ _ (fun _ => True) (fun _ => False) rfl rfl ?aO ?aR (fun _ _ h => h) (fun _ h => h.elim) (fun _ _ => trivial) HB.out HB.out.size ?aL ?_; (case aO => exact HO28.out); (case aR => exact Kd.C_below HRW.out (below_step HD4.out HB.out)); (case aL => simp only [List.length_nil]; omega)
                intro v30 w6 ho hb hg hat
                have HO30 : Aside0 (Kd.R dT 25 w6 wa.heap.size (fun _ => True) v30 raws) := ⟨ho⟩
                clear HB ho hg hat
                have HB := Aside0.mk hb
                clear hb
                refine hK.out _ _ ⟨blk_cell (blk_below HX.out (below_step HD4.out HB.out)) 0, blk_cell (blk_below HX.out (below_step HD4.out HB.out)) 1⟩ (fun hHeld => ?_)
                clear hK K
                refine norm_ (a' := ?_) ?_ ?_
                rotate_left
                · show Act.put _ (some 30) _ = _
                  simp only [Act.put, List.setIfInBounds_toArray, List.set_cons_zero, List.set_cons_succ]
                  rfl
                refine one_ (i := 4) (N := some 32) #[true, true, true, true, true, false, false] rfl rfl (by kernel_rfl) (by decide) (fun K hK => ?_)
                refine Kd.R_lit_step dT (w0 := wa) wa.heap.size 25 ?hg (N := 32) ?hd (xs := ([((⟨A0, hd.length, c0⟩, ⟨A1, rows.length, c1⟩) : SlV × SlV)] : List (SlV × SlV))) (inner := [.slice A0 hd.length c0, .slice A1 rows.length c1]) (ok := fun _ => True) (okp := fun _ => False) ?hr ?hp (fun _ hk => hk.elim) trivial HB.out HB.out.size (by simp) ?_; (case hd => rfl); (case hg => rfl); (case hr => first | (go_simp; done) | (go_simp; rfl)); (case hp => exact (Reps.c2 (show Kd.M dT _ _ _ ((⟨A0, hd.length, c0⟩, ⟨A1, rows.length, c1⟩) : SlV × SlV) [.slice A0 hd.length c0, .slice A1 rows.length c1] from ⟨[.slice A0 hd.length c0], [.slice A1 rows.length c1], rfl, rfl, rfl⟩) (Reps.none _ _)))
                intro v32 w7 ho hb hg hnew
                have HO32 := Aside0.mk ho
                have HO30' := Aside0.mk (Kd.R_grown HO30.out hg (fun _ _ => by simp))
                clear HB ho hg hnew HO30
                have HB := Aside0.mk hb
                clear hb
                refine hK.out _ _ ⟨blk_cell (blk_below HX.out (below_step HD4.out HB.out)) 0, blk_cell (blk_below HX.out (below_step HD4.out HB.out)) 1⟩ (fun hHeld => ?_)
                clear hK K
                refine norm_ (a' := ?_) ?_ ?_
                rotate_left
                · show Act.put _ (some 32) _ = _
                  simp only [Act.put, List.setIfInBounds_toArray, List.set_cons_zero, List.set_cons_succ]
                  rfl
                exact norm_ (by simp only [putAll, Act.put, List.setIfInBounds_toArray, List.set_cons_zero, List.set_cons_succ]) (hCont (v28, v30, v32) _ ⟨hHeld, HO30'.out, HO32.out, HB.out⟩)
              · refine Kd.R_lit_step dT (w0 := wa) wa.heap.size 25 ?hg (N := 32) ?hd (xs := ([((⟨A0, hd.length, c0⟩, ⟨A1, rows.length, c1⟩) : SlV × SlV)] : List (SlV × SlV))) (inner := [.slice A0 hd.length c0, .slice A1 rows.length c1]) (ok := fun _ => True) (okp := fun _ => False) ?hr ?hp (fun _ hk => hk.elim) trivial HB.out HB.out.size (by simp) ?_; (case hd => rfl); (case hg => rfl); (case hr => first | (go_simp; done) | (go_simp; rfl)); (case hp => exact (Reps.c2 (show Kd.M dT _ _ _ ((⟨A0, hd.length, c0⟩, ⟨A1, rows.length, c1⟩) : SlV × SlV) [.slice A0 hd.length c0, .slice A1 rows.length c1] from ⟨[.slice A0 hd.length c0], [.slice A1 rows.length c1], rfl, rfl, rfl⟩) (Reps.none _ _)))
                intro v32 w6 ho hb hg hnew
                have HAP : Aside0 (∀ k, v32.ownBlock = some k → some k ≠ v28.ownBlock) := ⟨fun k hk e => by
                  obtain ⟨b, hb1, hb2⟩ := hnew
                  have := Kd.R_lt HO28.out k e.symm
                  rw [hb1] at hk
                  injection hk with hk
                  omega⟩
                have HO32 := Aside0.mk (R_okT ho HAP.out)
                have HO28' := Aside0.mk (Kd.R_grown HO28.out hg (fun _ _ => by simp))
                clear HB ho hg hnew HO28 HAP
                have HB := Aside0.mk hb
                clear hb
                refine hK.out _ _ ⟨blk_cell (blk_below HX.out (below_step HD4.out HB.out)) 0, blk_cell (blk_below HX.out (below_step HD4.out HB.out)) 1⟩ (fun hHeld => ?_)
                clear hK K
                refine norm_ (a' := ?_) ?_ ?_
                rotate_left
                · show Act.put _ (some 32) _ = _
                  simp only [Act.put, List.setIfInBounds_toArray, List.set_cons_zero, List.set_cons_succ]
                  rfl
                refine one_ (i := 2) (N := some 30) #[true, true, true, true, true, false, false] rfl rfl (by kernel_rfl) (by decide) (fun K hK => ?_)
                refine Kd.R_append_rows_step dT (w0 := wa) wa.heap.size (by rfl) (.tmp 28) (.tmp 29) 29 25 (.agg #[.slice none 0 0, .slice none 0 0]) 48 rfl Try.underlying29 info25 rfl (by decide) (by omega) v28 [] raws _ _ _ (fun _ => True) (fun _ => False) rfl rfl ?aO ?aR (fun _ _ h => h) (fun _ h => h.elim) (fun _ _ => trivial) HB.out HB.out.size ?aL ?_; (case aO => exact HO28'.out); (case aR => exact Kd.C_below HRW.out (below_step HD4.out HB.out)); (case aL => simp only [List.length_nil]; omega)
                intro v30 w7 ho hb hg hat
                have HO30 : Aside0 (Kd.R dT 25 w7 wa.heap.size (fun _ => True) v30 raws) := ⟨ho⟩
                have HO32' := Aside0.mk (R_okT (ok' := fun _ => True) (Kd.R_grown HO32.out hg (fun _ h => h)) (fun _ _ => trivial))
                clear HB ho hg hat
                have HB := Aside0.mk hb
                clear hb
                refine hK.out _ _ ⟨blk_cell (blk_below HX.out (below_step HD4.out HB.out)) 0, blk_cell (blk_below HX.out (below_step HD4.out HB.out)) 1⟩ (fun hHeld => ?_)
                clear hK K
                refine norm_ (a' := ?_) ?_ ?_
                rotate_left
                · show Act.put _ (some 30) _ = _
                  simp only [Act.put, List.setIfInBounds_toArray, List.set_cons_zero, List.set_cons_succ]
                  rfl
                exact norm_ (by simp only [putAll, Act.put, List.setIfInBounds_toArray, List.set_cons_zero, List.set_cons_succ]) (hCont (v28, v30, v32) _ ⟨hHeld, HO30.out, HO32'.out, HB.out⟩)
            · refine Kd.R_lit_step dT (w0 := wa) wa.heap.size 25 ?hg (N := 32) ?hd (xs := ([((⟨A0, hd.length, c0⟩, ⟨A1, rows.length, c1⟩) : SlV × SlV)] : List (SlV × SlV))) (inner := [.slice A0 hd.length c0, .slice A1 rows.length c1]) (ok := fun _ => True) (okp := fun _ => False) ?hr ?hp (fun _ hk => hk.elim) trivial HB.out HB.out.size (by simp) ?_; (case hd => rfl); (case hg => rfl); (case hr => first | (go_simp; done) | (go_simp; rfl)); (case hp => exact (Reps.c2 (show Kd.M dT _ _ _ ((⟨A0, hd.length, c0⟩, ⟨A1, rows.length, c1⟩) : SlV × SlV) [.slice A0 hd.length c0, .slice A1 rows.length c1] from ⟨[.slice A0 hd.length c0], [.slice A1 rows.length c1], rfl, rfl, rfl⟩) (Reps.none _ _)))
              intro v32 w5 ho hb hg hnew
              have HO32 := Aside0.mk ho
              clear HB ho hg hnew
              have HB := Aside0.mk hb
              clear hb
              refine hK.out _ _ ⟨blk_cell (blk_below HX.out (below_step HD4.out HB.out)) 0, blk_cell (blk_below HX.out (below_step HD4.out HB.out)) 1⟩ (fun hHeld => ?_)
              clear hK K
              refine norm_ (a' := ?_) ?_ ?_
              rotate_left
              · show Act.put _ (some 32) _ = _
                simp only [Act.put, List.setIfInBounds_toArray, List.set_cons_zero, List.set_cons_succ]
                rfl
              refine one_ (i := 0) (N := some 28) #[true, true, false, true, true, false, false] rfl rfl (by kernel_rfl) (by decide) (fun K hK => ?_)
              refine Kd.R_lit_step dT (w0 := wa) wa.heap.size 25 ?hg (N := 28) ?hd (xs := ([] : List (SlV × SlV))) (inner := []) (ok := fun _ => True) (okp := fun _ => False) ?hr ?hp (fun _ hk => hk.elim) trivial HB.out HB.out.size (by simp) ?_; (case hd => rfl); (case hg => rfl); (case hr => first | (go_simp; done) | (go_simp; rfl)); (case hp => exact (Reps.none _ _))
              intro v28 w6 ho hb hg hnew
              have HO28 := Aside0.mk ho
              have HO32' := Aside0.mk (R_okT (ok' := fun k => some k ≠ v28.ownBlock) (Kd.R_grown HO32.out hg (fun _ _ => by simp)) (fun k hk e => by
                obtain ⟨b, hb1, hb2⟩ := hnew
                have := Kd.R_lt HO32.out k hk
                rw [hb1] at e
                injection e with e
                omega))
              clear HB ho hg hnew HO32
              have HB := Aside0.mk hb
              clear hb
              refine hK.out _ _ ⟨blk_cell (blk_below HX.out (below_step HD4.out HB.out)) 0, blk_cell (blk_below HX.out (below_step HD4.out HB.out)) 1⟩ (fun hHeld => ?_)
              clear hK K
              refine norm_ (a' := ?_) ?_ ?_
              rotate_left
              · show Act.put _ (some 28) _ = _
                simp only [Act.put, List.setIfInBounds_toArray, List.set_cons_zero, List.set_cons_succ]
                rfl
              refine one_ (i := 2) (N := some 30) #[true, true, true, true, true, false, false] rfl rfl (by kernel_rfl) (by decide) (fun K hK => ?_)
              refine Kd.R_append_rows_step dT (w0 := wa) wa.heap.size (by rfl) (.tmp 28) (.tmp 29) 29 25 (.agg #[.slice none 0 0, .slice none 0 0]) 48 rfl Try.underlying29 info25 rfl (by decide) (by omega) v28 [] raws _ _ _ (fun _ => True) (fun _ => False) rfl rfl ?aO ?aR (fun _ _ h => h) (fun _ h => h.elim) (fun _ _ => trivial) HB.out HB.out.size ?aL ?_; (case aO => exact HO28.out); (case aR => exact Kd.C_below HRW.out (below_step HD4.out HB.out)); (case aL => simp only [List.length_nil]; omega)
              intro v30 w7 ho hb hg hat
              have HO30 : Aside0 (Kd.R dT 25 w7 wa.heap.size (fun _ => True) v30 raws) := ⟨ho⟩
              have HO32'' := Aside0.mk (R_okT (ok' := fun _ => True) (Kd.R_grown HO32'.out hg (fun _ h => h)) (fun _ _ => trivial))
              clear HB ho hg hat
              have HB := Aside0.mk hb
              clear hb
              refine hK.out _ _ ⟨blk_cell (blk_below HX.out (below_step HD4.out HB.out)) 0, blk_cell (blk_below HX.out (below_step HD4.out HB.out)) 1⟩ (fun hHeld => ?_)
              clear hK K
              refine norm_ (a' := ?_) ?_ ?_
              rotate_left
              · show Act.put _ (some 30) _ = _
                simp only [Act.put, List.setIfInBounds_toArray, List.set_cons_zero, List.set_cons_succ]
                rfl
              exact norm_ (by simp only [putAll, Act.put, List.setIfInBounds_toArray, List.set_cons_zero, List.set_cons_succ]) (hCont (v28, v30, v32) _ ⟨hHeld, HO30.out, HO32''.out, HB.out⟩)
          rintro ⟨v28, v30, v32⟩ w8 ⟨hHeld, ho30, ho32, hb8⟩
          clear HB
          have HB := Aside0.mk hb8
          obtain ⟨A32, c32, e32, hc32, hC32⟩ := Kd.R_reads ho32
          dsimp only at e32 ho30 hC32
          subst e32
          have HO30 := Aside0.mk ho30
          have HC32 := Aside0.mk hC32
          clear ho30 ho32 hb8 hC32
          refine norm_ (a' := ?_) ?_ ?_
          rotate_left
          · simp only [putAll, Act.put, List.setIfInBounds_toArray, List.set_cons_zero, List.set_cons_succ]
            rfl
          refine one_ (i := 5) (N := some 33) #[true, true, true, true, true, true, false] rfl rfl (by kernel_rfl) (by decide) (fun K hK => ?_)
          refine Kd.R_append_rows_step dT (w0 := wa) wa.heap.size (by rfl) (.tmp 30) (.tmp 32) 29 25 (.agg #[.slice none 0 0, .slice none 0 0]) 48 rfl Try.underlying29 info25 rfl (by decide) (by omega) v30 raws [((⟨A0, hd.length, c0⟩, ⟨A1, rows.length, c1⟩) : SlV × SlV)] _ _ _ (fun _ => True) (fun _ => False) rfl rfl ?aO ?aR (fun _ _ h => h) (fun _ h => h.elim) (fun _ _ => trivial) HB.out HB.out.size ?aL ?_; (case aO => exact HO30.out); (case aR => exact HC32.out); (case aL => simp only [List.length_singleton]; omega)
          intro v33 w9 ho9 hb9 hg9 hat9
          obtain ⟨A33, c33, e33, hc33, hC33⟩ := Kd.R_reads ho9
          have hlen : (raws ++ [((⟨A0, hd.length, c0⟩, ⟨A1, rows.length, c1⟩) : SlV × SlV)]).length = all.length := by rw [← hall.out, List.length_append, List.length_append, hrl]; rfl
          rw [hlen] at e33 hc33
          subst e33
          clear HB ho9 hg9 hat9 HO30 HC32
          have HB := Aside0.mk hb9
          have HCA : Aside0 (Kd.C k25 w9 A33 all.length all) := ⟨C_of_raws hlen hC33 (by rw [← hall.out]; exact raws_snoc (raws_below HTQ.out (below_step HD4.out HB.out)) hrl ⟨rfl, rfl, HT.out.below (below_step HD4.out HB.out)⟩)⟩
          clear hb9 hC33
          refine hK.out _ _ ⟨blk_cell (blk_below HX.out (below_step HD4.out HB.out)) 0, blk_cell (blk_below HX.out (below_step HD4.out HB.out)) 1⟩ (fun hHeld => ?_)
          clear hK K
          refine norm_ (a' := ?_) ?_ ?_
          rotate_left
          · show Act.put _ (some 33) _ = _
            simp only [Act.put, List.setIfInBounds_toArray, List.set_cons_zero, List.set_cons_succ]
            rfl
          refine pure_ (i := 6) (N := some 8) (v := ?_) (a' := ?_) #[true, true, true, true, true, true, true] rfl rfl (by kernel_rfl) (fun _ _ _ h => h) (Or.inl ⟨by rfl, ?_⟩) ?_ ?_
          rotate_left
          · intro w'
            go_simp
            with_reducible rfl
          rotate_left
          · simp only [Act.put, List.setIfInBounds_toArray, List.set_cons_zero, List.set_cons_succ]
            rfl
          refine done_ (by kernel_rfl) ?_
          have HD9 := Aside0.mk (below_step HD4.out HB.out)
          clear HB hHeld
          go_wp2_with (first | (go_at_call 25; clear s2; refine (usable_calls A33 c33 all An cn names w9 HCA.out (Kd.C_below HR.out.2 HD9.out) hcn hal (by omega) HOA.out).mono ?_; rw [HUA.out]; rintro e w10 ⟨rfl, hd10⟩; have HD10 := Aside0.mk (below_step HD9.out hd10); clear hd10) | (go_at_call 25; clear s3; refine (usable_calls Al cl l An cn names w10 (Kd.C_below HR.out.1 HD10.out) (Kd.C_below HR.out.2 HD10.out) hcn (by omega) (by omega) HOL.out).mono ?_; rw [HUL.out]; rintro e w11 ⟨rfl, hd11⟩; have HD11 := Aside0.mk (below_step HD10.out hd11); clear hd11; have hx0 := blk_cell (blk_below HX.out HD11.out) 0; have hx1 := blk_cell (blk_below HX.out HD11.out) 1))
          go_ret
          exact ⟨rfl, below_step HB0.out HD11.out⟩
def tartanlaw11_KeysFewer.f (k : Nat) (l0 : List (S25)) (l1 : List ByteArray) (l2_0 : List ByteArray) (l2_1 : List (List ByteArray)) : Option Bool := if sizesAll l0 = true ∧ sizesOk l2_1 = true then some true else none
theorem tartanlaw11_KeysFewer.calls (k : Nat) (A0 : Option Addr) (c0 : Nat) (l0 : List (S25)) (A1 : Option Addr) (c1 : Nat) (l1 : List ByteArray) (A2_0 : Option Addr) (c2_0 : Nat) (l2_0 : List ByteArray) (A2_1 : Option Addr) (c2_1 : Nat) (l2_1 : List (List ByteArray)) (r : Bool) (w : World) (hr0 : Kd.C k25 w A0 l0.length l0) (hc0 : l0.length ≤ c0) (hr1 : Kd.C Kd.string w A1 l1.length l1) (hc1 : l1.length ≤ c1) (hr2_0 : Kd.C Kd.string w A2_0 l2_0.length l2_0) (hc2_0 : l2_0.length ≤ c2_0) (hr2_1 : Kd.C (Kd.slice 9 Kd.string) w A2_1 l2_1.length l2_1) (hc2_1 : l2_1.length ≤ c2_1) (h : tartanlaw11_KeysFewer.f k l0 l1 l2_0 l2_1 = some r) :
    Calls Try.prog 7 #[.slice A0 l0.length c0, .slice A1 l1.length c1, .agg #[.slice A2_0 l2_0.length c2_0, .slice A2_1 l2_1.length c2_1]] w fun e w' => e = .returned (.bool r) ∧ Below w.heap.size w w' := by
  unfold tartanlaw11_KeysFewer.f at h
  split at h
  · rename_i hok
    rw [← Option.some.inj h]
    exact lawFewer_calls A0 c0 l0 A1 c1 l1 A2_0 c2_0 l2_0 A2_1 c2_1 l2_1 w hr0 hc0 hr1 hc1 hr2_0 hc2_0 hr2_1 hc2_1 hok.1 hok.2
  · exact nomatch h
end Go.Proofs.Ytbcpaojciephmaa.X
end
section
namespace Go.Proofs.Ytbcpaojciephmaa.X
open Go.RowKit Go.Proofs.YtbcpaojciephmaaW.PrintWords
set_option linter.unusedVariables false
theorem pure_KeysFewer : ∀ (x0 : List (S25)) (x1 : List ByteArray) (x2 : S25), okT29 x0 → okT22 x1 → okT25 x2 → ∃ k, tartanlaw11_KeysFewer.f k x0 x1 x2.f0 x2.f1 = some true := by
  intro x0 x1 x2 o0 o1 o2
  refine ⟨0, ?_⟩
  unfold tartanlaw11_KeysFewer.f sizesAll
  rw [if_pos]
  refine ⟨?_, ?_⟩
  · rw [List.all_eq_true]
    intro T hT
    unfold sizesOk
    rw [List.all_eq_true]
    intro y hy
    rw [List.all_eq_true]
    intro s hs
    exact decide_eq_true (((o0.2 T hT).2.2 y hy).2 s hs)
  · unfold sizesOk
    rw [List.all_eq_true]
    intro y hy
    rw [List.all_eq_true]
    intro s hs
    exact decide_eq_true ((o2.2.2 y hy).2 s hs)
end Go.Proofs.Ytbcpaojciephmaa.X
end
