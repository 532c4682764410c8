/- The texts that the law KeysLeast wants, part 4 of 5: what is kept of them. -/
import Derived.WalkMore
import Derived.Test.YtbcpaojciephmaaCKeysLeast3
section
namespace Go.Proofs.Ytbcpaojciephmaa.X
open Go.RowKit Go.Maps Go.Proofs.YtbcpaojciephmaaW.PrintWords Go.Proofs.YtbcpaojciephmaaW.PrintLast Go.Proofs.YtbcpaojciephmaaW.PrintMore
set_option linter.unusedVariables false
/-- A table has no such name. -/
def lacks (T : TS) (name : ByteArray) : Bool := decide (findI T.f0 name < 0)
set_option maxRecDepth 100000 in
theorem i1_calls (T : TS) (A0 : Option Addr) (c0 : Nat) (A1 : Option Addr) (c1 : Nat) (name : ByteArray) (B : Nat) (W : World) (hB : W.heap[B]? = some (.cells #[.string name] 9 (0, 0)))
    (hr0 : Kd.C Kd.string W A0 T.f0.length T.f0) (hc0 : T.f0.length ≤ c0) (hr1 : Kd.C (Kd.slice 9 Kd.string) W A1 T.f1.length T.f1) (hc1 : T.f1.length ≤ c1) (hok : T.f0.length ≤ 1000000) :
    Calls Try.prog 50 #[.agg #[.slice A0 T.f0.length c0, .slice A1 T.f1.length c1], .pointer (some ⟨B, 0, none⟩)] W fun e w' => e = .returned (.bool (lacks T name)) ∧ Below W.heap.size W w' := by
  have HF := Aside0.mk (find_some T.f0 T.f1 name hok (k := 1000001) (by decide))
  unfold lacks
  obtain ⟨W0, hW0⟩ : ∃ W0, Aside0 (W.alloc (.cells #[.slice A0 T.f0.length c0, .slice A1 T.f1.length c1] 25 (0, 0)) = W0) := ⟨_, ⟨rfl⟩⟩
  have HB0 : Aside0 (Below W.heap.size W W0) := ⟨by rw [← hW0.out]; exact below_alloc (Below.refl _ _) _⟩
  have hT : W0.heap[W.heap.size]? = some (.cells #[.slice A0 T.f0.length c0, .slice A1 T.f1.length c1] 25 (0, 0)) := by rw [← hW0.out]; exact blk_new W _
  have HR := Aside0.mk (And.intro (Kd.C_below hr0 HB0.out) (Kd.C_below hr1 HB0.out))
  have hT0 := blk_cell hT 0
  have hT1 := blk_cell hT 1
  have hN0 := blk_cell (blk_below hB HB0.out) 0
  rw [← hW0.out] at hT0 hT1 hN0
  clear hr0 hr1 hB hT
  generalize hr : findI T.f0 name = r at *
  go_enter Try.func50, Try.ntmps50
  go_wp2_with (go_at_call 40; rw [hW0.out]; refine (table_Find.calls 1000001 A0 c0 T.f0 A1 c1 T.f1 name r W0 HR.out.1 hc0 HR.out.2 hc1 HF.out).mono ?_; rintro e w1 ⟨rfl, hd⟩; have HD := Aside0.mk (below_step HB0.out hd); clear hd)
  go_ret
  exact ⟨rfl, HD.out⟩
theorem tabAt_inf {w : World} {A : Option Addr} {l : List TS} (h : Kd.C k25 w A l.length l) {t : Nat} (ht : t < l.length) : ∃ ad A0 c0 A1 c1, A = some ad ∧ w.cell? (ad.add (t * 2)) = some (.slice A0 (rd_T25 l (t : Int)).f0.length c0) ∧ w.cell? ⟨(ad.add (t * 2)).block, (ad.add (t * 2)).off + 1, none⟩ = some (.slice A1 (rd_T25 l (t : Int)).f1.length c1) ∧
    (rd_T25 l (t : Int)).f0.length ≤ c0 ∧ Kd.C Kd.string w A0 (rd_T25 l (t : Int)).f0.length (rd_T25 l (t : Int)).f0 ∧ (rd_T25 l (t : Int)).f1.length ≤ c1 ∧ Kd.C (Kd.slice 9 Kd.string) w A1 (rd_T25 l (t : Int)).f1.length (rd_T25 l (t : Int)).f1 := by
  obtain ⟨ad, A0, c0, A1, c1, e, h0, h1, r⟩ := at_T25 h (t : Int) (by omega) (by omega)
  exact ⟨ad, A0, c0, A1, c1, e, h0, h1, r⟩
set_option maxRecDepth 100000 in
set_option maxHeartbeats 800000 in
theorem idx_inf (Al : Option Addr) (cl : Nat) (l : List TS) (name : ByteArray) (B : Nat) (W : World) (hB : W.heap[B]? = some (.cells #[.string name] 9 (0, 0))) (hrl : Kd.C k25 W Al l.length l) (hll : l.length ≤ 100000) (hok : ∀ T ∈ l, T.f0.length ≤ 1000000) :
    Calls Try.prog 72 #[.slice Al l.length cl, .func (.func 50) #[] #[.pointer (some ⟨B, 0, none⟩)]] W fun e w' => (∃ i : Int, e = .returned (.int .i64 i) ∧ decide (0 ≤ i) = l.any fun T => lacks T name) ∧ Below W.heap.size W w' := by
  have HR := Aside0.mk (And.intro hrl hB)
  have HOK := Aside0.mk hok
  clear hrl hB hok
  go_enter Try.func72, Try.ntmps72
  go_wp2
  go_loopw [8] (fun vi wr => ∃ i : Nat, vi = .int .i64 i ∧ i ≤ l.length ∧ Aside0 ((l.take i).any (fun T => lacks T name) = false) ∧ Aside0 (Below W.heap.size W wr))
    (fun vi _ => l.length - (intOf vi).toNat)
  case atStart => exact ⟨0, rfl, Nat.zero_le _, ⟨by simp⟩, ⟨Below.refl _ _⟩⟩
  case round =>
    obtain ⟨i, rfl, hi, HN, HB⟩ := hrel
    by_cases hlt : i < l.length
    · obtain ⟨ad, A0, c0, A1, c1, eA, hx0, hx1, hc0, hC0, hc1, hC1⟩ := tabAt_inf (Kd.C_below HR.out.1 HB.out) hlt
      cases eA
      have hltI : (i : Int) < (l.length : Int) := by omega
      have hm : rd_T25 l (i : Int) ∈ l := by
        unfold rd_T25
        rw [show ((i : Int)).toNat = i from rfl, List.getD_eq_getElem?_getD, List.getElem?_eq_getElem hlt]; exact List.getElem_mem hlt
      have Htk : Aside0 ((l.take (i + 1)).any (fun T => lacks T name) = ((l.take i).any (fun T => lacks T name) || (fun T => lacks T name) (rd_T25 l (i : Int)))) := ⟨by
        unfold rd_T25
        rw [show ((i : Int)).toNat = i from rfl, List.take_succ_eq_append_getElem hlt, List.getD_eq_getElem?_getD, List.getElem?_eq_getElem hlt, List.any_append]; simp⟩
      have HYes : Aside0 ((fun T => lacks T name) (rd_T25 l (i : Int)) = true → l.any (fun T => lacks T name) = true) := ⟨fun h => List.any_eq_true.2 ⟨_, hm, h⟩⟩
      have hokT := HOK.out _ hm
      generalize rd_T25 l (i : Int) = T at *
      have HK := Aside0.mk (i1_calls T A0 c0 A1 c1 name B wr (blk_below HR.out.2 HB.out) hC0 hc0 hC1 hc1 hokT)
      clear hm hC0 hC1
      obtain ⟨p, hp⟩ : ∃ p : Bool, Aside0 ((lacks T name) = p) := ⟨_, ⟨rfl⟩⟩
      rw [hp.out] at HK
      cases p with
      | true =>
        have HY := Aside0.mk (HYes.out hp.out)
        go_wp2_with (go_at_call 50; refine HK.out.mono ?_; rintro e w1 ⟨rfl, hd⟩; have HD1 := Aside0.mk hd; clear hd)
        go_ret
        exact ⟨⟨(i : Int), rfl, by rw [HY.out]; simp⟩, below_step HB.out HD1.out⟩
      | false =>
        have HN2 : Aside0 ((l.take (i + 1)).any (fun T => lacks T name) = false) := ⟨by rw [Htk.out, HN.out]; exact hp.out⟩
        go_wp2_with (go_at_call 50; refine HK.out.mono ?_; rintro e w1 ⟨rfl, hd⟩; have HD1 := Aside0.mk hd; clear hd)
        go_roundw
        case rel => exact ⟨i + 1, by go_num, by omega, HN2, ⟨below_step HB.out HD1.out⟩⟩
        case measure => simp [intOf]; omega
    · obtain rfl : i = l.length := by omega
      rw [List.take_length] at HN
      go_wp2
      go_ret
      exact ⟨⟨-1, rfl, by rw [HN.out]; rfl⟩, HB.out⟩
set_option maxRecDepth 100000 in
theorem any_inf (Al : Option Addr) (cl : Nat) (l : List TS) (name : ByteArray) (B : Nat) (W : World) (hB : W.heap[B]? = some (.cells #[.string name] 9 (0, 0))) (hrl : Kd.C k25 W Al l.length l) (hll : l.length ≤ 100000) (hok : ∀ T ∈ l, T.f0.length ≤ 1000000) :
    Calls Try.prog 52 #[.slice Al l.length cl, .func (.func 50) #[] #[.pointer (some ⟨B, 0, none⟩)]] W fun e w' => e = .returned (.bool (l.any fun T => lacks T name)) ∧ Below W.heap.size W w' := by
  have HI := Aside0.mk (idx_inf Al cl l name B W hB hrl hll hok)
  clear hrl hB hok
  generalize (l.any fun T => lacks T name) = q at *
  go_enter Try.func52, Try.ntmps52
  go_wp2_with (go_at_call 72; refine HI.out.mono ?_; rintro e w1 ⟨⟨i, rfl, hq⟩, hd⟩; have HD := Aside0.mk hd; have HQ := Aside0.mk hq; clear hd hq)
  go_ret
  exact ⟨by rw [← HQ.out]; rfl, HD.out⟩
end Go.Proofs.Ytbcpaojciephmaa.X
end
section
namespace Go.Proofs.Ytbcpaojciephmaa.X
open Go.RowKit Go.Maps Go.Proofs.YtbcpaojciephmaaW.PrintWords Go.Proofs.YtbcpaojciephmaaW.PrintLast Go.Proofs.YtbcpaojciephmaaW.PrintMore
set_option linter.unusedVariables false
attribute [local go_sem] Oper.semAt_some
/-- One more candidate. -/
def candS (l : List TS) (c : List ByteArray) (n : ByteArray) : List ByteArray := if inB c n = true then c else if (l.any fun T => lacks T n) = true then c else c ++ [n]
def candR (l : List TS) (names : List ByteArray) : List ByteArray := names.foldl (candS l) []
theorem cand_len (l : List TS) (c : List ByteArray) (n : ByteArray) : (candS l c n).length ≤ c.length + 1 := by
  unfold candS
  split
  · omega
  · split
    · omega
    · simp
theorem cands_len (l : List TS) : ∀ (names c : List ByteArray), (names.foldl (candS l) c).length ≤ c.length + names.length
  | [], c => by simp
  | n :: r, c => by
    have h1 := cands_len l r (candS l c n)
    have h2 := cand_len l c n
    simp only [List.foldl_cons, List.length_cons]
    omega
/-- The first one that may be. -/
def chAll (c : List ByteArray) : List (List ByteArray) := cho 1 c ++ (cho 2 c ++ cho 3 c)
def bestR (l : List TS) (c : List ByteArray) : List ByteArray := ((chAll c).find? (usableR l)).getD []
def inferR (l : List TS) (names : List ByteArray) : List ByteArray := bestR l (candR l names)
theorem find_hit (l : List TS) (L : List (List ByteArray)) (pre : List (List ByteArray)) (x : List ByteArray) (hp : pre ++ [x] <+: L) (hpre : ∀ y ∈ pre, usableR l y = false) (hx : usableR l x = true) : L.find? (usableR l) = some x := by
  obtain ⟨s, rfl⟩ := hp
  have h1 : pre.find? (usableR l) = none := List.find?_eq_none.2 (fun y hy => by rw [hpre y hy]; decide)
  rw [List.find?_append, List.find?_append, h1]
  simp [hx]
theorem find_miss (l : List TS) (L : List (List ByteArray)) (h : ∀ y ∈ L, usableR l y = false) : L.find? (usableR l) = none := List.find?_eq_none.2 (fun y hy => by rw [h y hy]; decide)
theorem best_found (l : List TS) (c : List ByteArray) (n : Nat) (h1 : 1 ≤ n) (h3 : n ≤ 3) (hno : ∀ k, 1 ≤ k → k < n → ∀ x ∈ cho k c, usableR l x = false) (pre : List (List ByteArray)) (x : List ByteArray) (hp : pre ++ [x] <+: cho n c) (hpre : ∀ y ∈ pre, usableR l y = false) (hx : usableR l x = true) : bestR l c = x := by
  have hf := find_hit l _ pre x hp hpre hx
  unfold bestR chAll
  rw [List.find?_append, List.find?_append]
  obtain rfl | rfl | rfl : n = 1 ∨ n = 2 ∨ n = 3 := by omega
  · rw [hf]; rfl
  · rw [hf, find_miss l _ (hno 1 (by omega) (by omega))]; rfl
  · rw [hf, find_miss l _ (hno 1 (by omega) (by omega)), find_miss l _ (hno 2 (by omega) (by omega))]; rfl
theorem best_none (l : List TS) (c : List ByteArray) (hno : ∀ k, 1 ≤ k → k < 4 → ∀ x ∈ cho k c, usableR l x = false) : bestR l c = [] := by
  unfold bestR chAll
  rw [List.find?_append, List.find?_append, find_miss l _ (hno 1 (by omega) (by omega)), find_miss l _ (hno 2 (by omega) (by omega)), find_miss l _ (hno 3 (by omega) (by omega))]; rfl
theorem Own.far {n₀ : Nat} {V : World} {p : Addr} {v u : Value} {xs : List ByteArray} (h : V.ownsRow n₀ 9 1 v xs.length (encs Value.string xs)) (hne : ∀ k, v.ownBlock = some k → k ≠ p.block) : (V.setCell p u).ownsRow n₀ 9 1 v xs.length (encs Value.string xs) :=
  own_move h (fun k hk => heap_setCell_other V p k u (hne k hk))
set_option maxRecDepth 100000 in
set_option maxHeartbeats 8000000 in
theorem infer_calls (Al : Option Addr) (cl : Nat) (l : List TS) (An : Option Addr) (cn : Nat) (names : List ByteArray) (w : World) (hrl : Kd.C k25 w Al l.length l) (hrn : Kd.C Kd.string w An names.length names) (hcn : names.length ≤ cn)
    (hll : l.length ≤ 100000) (hn : names.length ≤ 1000) (hok : ∀ T ∈ l, okT1 T = true) :
    Calls Try.prog 21 #[.slice Al l.length cl, .slice An names.length cn] w fun e w' => ∃ v : Value, e = .returned v ∧ Kd.R Kd.string 9 w' w.heap.size (fun _ => True) v (inferR l names) ∧ Below w.heap.size w w' := by
  obtain ⟨W0, hW0⟩ : ∃ W0, Aside0 (w.alloc (.cells #[.slice Al l.length cl] 29 (0, 0)) = W0) := ⟨_, ⟨rfl⟩⟩
  have HB0 : Aside0 (Below w.heap.size w W0) := ⟨by rw [← hW0.out]; exact below_alloc (Below.refl _ _) _⟩
  have HT : Aside0 (W0.heap[w.heap.size]? = some (.cells #[.slice Al l.length cl] 29 (0, 0))) := ⟨by rw [← hW0.out]; exact blk_new w _⟩
  have HR := Aside0.mk (And.intro (Kd.C_below hrl HB0.out) (Kd.C_below hrn HB0.out))
  have HOK := Aside0.mk hok
  have hw0 : w.heap.size < W0.heap.size := by rw [← hW0.out, World.size_alloc]; omega
  clear hrl hrn hok
  refine (callsIn_wide (n := 10)).1 ?_
  refine callsIn_of_wp_marks Try.func21 rfl trivial (wpIn_wide.2 ?_) rfl
  simp only [Try.ntmps21, List.size_toArray, List.length_cons, List.length_nil, Nat.reduceAdd, Nat.reduceSub, Array.replicate_succ, Array.replicate_zero, List.push_toArray, List.append_toArray, List.nil_append, List.cons_append]
  go_wp2
  go_step3
  go_wp2
  rw [hW0.out]
  go_loopw [5, 14] (fun vc vi wr => ∃ i : Nat, vi = .int .i64 i ∧ i ≤ names.length ∧ Aside0 (Kd.R Kd.string 9 wr W0.heap.size (fun _ => True) vc ((names.take i).foldl (candS l) [])) ∧ Aside0 (Below W0.heap.size W0 wr))
    (fun _ vi _ => names.length - (intOf vi).toNat)
  case atStart => exact ⟨0, rfl, Nat.zero_le _, ⟨Kd.R_nil _ _ _ _ _⟩, ⟨Below.refl _ _⟩⟩
  case round =>
    obtain ⟨i, rfl, hi, HC, HB⟩ := hrel
    have hszr := HB.out.size
    by_cases hlt : i < names.length
    · have hltI : (i : Int) < (names.length : Int) := by omega
      obtain ⟨ad, eA, hx⟩ := Kd.at_string (Kd.C_below HR.out.2 HB.out) (i : Int) (by omega) (by omega)
      cases eA
      rw [show ((i : Int)).toNat = i from rfl] at hx
      obtain ⟨name, hname⟩ : ∃ name, Aside0 (rdOf ByteArray.empty names (i : Int) = name) := ⟨_, ⟨rfl⟩⟩
      rw [hname.out] at hx
      have Htk : Aside0 ((names.take (i + 1)).foldl (candS l) [] = candS l ((names.take i).foldl (candS l) []) name) := ⟨by
        rw [List.take_succ_eq_append_getElem hlt, List.foldl_append, ← hname.out]
        unfold rdOf
        rw [show ((i : Int)).toNat = i from rfl, List.getD_eq_getElem?_getD, List.getElem?_eq_getElem hlt]; rfl⟩
      have hcl : ((names.take i).foldl (candS l) []).length ≤ 1000 := by
        have := cands_len l (names.take i) []
        rw [List.length_take, List.length_nil] at this
        omega
      obtain ⟨cand, hcand⟩ : ∃ cand, (names.take i).foldl (candS l) [] = cand := ⟨_, rfl⟩
      rw [hcand] at Htk HC hcl
      clear hcand
      obtain ⟨Ac, cc, rfl, hcc, hCC⟩ := Kd.R_reads HC.out
      have HCC := Aside0.mk hCC
      clear hCC
      obtain ⟨W1, hW1⟩ : ∃ W1, Aside0 (wr.alloc (.cells #[.string name] 9 (0, 0)) = W1) := ⟨_, ⟨rfl⟩⟩
      have HB1 : Aside0 (Below wr.heap.size wr W1) := ⟨by rw [← hW1.out]; exact below_alloc (Below.refl _ _) _⟩
      have HN1 : Aside0 (W1.heap[wr.heap.size]? = some (.cells #[.string name] 9 (0, 0))) := ⟨by rw [← hW1.out]; exact blk_new wr _⟩
      have HK := Aside0.mk (contains_calls Ac cc cand name W1 (Kd.C_below HCC.out HB1.out) hcc (by omega))
      cases hin : inB cand name with
      | true =>
        rw [hin] at HK
        have HE : Aside0 (candS l cand name = cand) := ⟨by unfold candS; rw [if_pos hin]⟩
        clear hin
        go_wp2_with (go_at_call 51; rw [hW1.out]; refine HK.out.mono ?_; rintro e w1 ⟨rfl, hd⟩; have HD1 := Aside0.mk (below_step HB1.out hd.below); clear hd)
        go_roundw
        case rel => exact ⟨i + 1, by go_num, by omega, ⟨by rw [Htk.out, HE.out]; exact Kd.R_below HC.out HD1.out⟩, ⟨below_step HB.out HD1.out⟩⟩
        case measure => simp [intOf]; omega
      | false =>
        rw [hin] at HK
        cases han : l.any fun T => lacks T name with
        | true =>
          have HE : Aside0 (candS l cand name = cand) := ⟨by unfold candS; rw [if_neg (by rw [hin]; decide), if_pos han]⟩
          have han2 := Aside0.mk han
          clear hin han
          go_wp2_with (first
            | (go_at_call 51; rw [hW1.out]; refine HK.out.mono ?_; rintro e w1 ⟨rfl, hd⟩; have HD1 := Aside0.mk (below_step HB1.out hd.below); have HN2 := Aside0.mk (blk_below HN1.out hd.below); have hT1 := blk_cell (blk_below HT.out (below_step HB.out HD1.out)) 0; clear hd)
            | (go_at_call 52; refine (any_inf Al cl l name wr.heap.size w1 HN2.out (Kd.C_below HR.out.1 (below_step HB.out HD1.out)) hll (fun T hT => okT1_h (HOK.out T hT))).mono ?_; rw [han2.out]; rintro e w2 ⟨rfl, hd⟩; have HD2 := Aside0.mk (below_step HD1.out hd); clear hd))
          go_roundw
          case rel => exact ⟨i + 1, by go_num, by omega, ⟨by rw [Htk.out, HE.out]; exact Kd.R_below HC.out HD2.out⟩, ⟨below_step HB.out HD2.out⟩⟩
          case measure => simp [intOf]; omega
        | false =>
          have HE : Aside0 (candS l cand name = cand ++ [name]) := ⟨by unfold candS; rw [if_neg (by rw [hin]; decide), if_neg (by rw [han]; decide)]⟩
          have han2 := Aside0.mk han
          clear hin han
          go_wp2_with (first
            | (go_at_call 51; rw [hW1.out]; refine HK.out.mono ?_; rintro e w1 ⟨rfl, hd⟩; have HD1 := Aside0.mk (below_step HB1.out hd.below); have HN2 := Aside0.mk (blk_below HN1.out hd.below); have hT1 := blk_cell (blk_below HT.out (below_step HB.out HD1.out)) 0; clear hd)
            | (go_at_call 52; refine (any_inf Al cl l name wr.heap.size w1 HN2.out (Kd.C_below HR.out.1 (below_step HB.out HD1.out)) hll (fun T hT => okT1_h (HOK.out T hT))).mono ?_; rw [han2.out]; rintro e w2 ⟨rfl, hd⟩; have HD2 := Aside0.mk (below_step HD1.out hd); have hN3 := blk_cell (blk_below HN2.out hd) 0; have HC2 := Aside0.mk (Kd.R_below HC.out HD2.out); have HB2 := Aside0.mk (below_step HB.out HD2.out); have hsz2 := HB2.out.size; clear hd)
            | ((with_reducible refine gate_builtin (b := .append) (xs := #[.tmp 29, .tmp 31]) rfl ?_); at_builtin; refine Kd.R_append Kd.string (w0 := W0) W0.heap.size rfl (.tmp 29) (.tmp 31) 22 9 (.string ⟨#[]⟩) 16 rfl Try.underlying22 info9 rfl (by decide) (by omega) (.slice Ac cand.length cc) cand name [.string name] (fun _ => True) (fun _ => False) rfl rfl ?aP (fun _ hk => hk.elim) (fun _ _ => trivial) HC2.out HB2.out hsz2 ?aL ?_; (case aP => exact rfl); (case aL => omega); intro v1 w3 ho hb hg hat; have HO3 := Aside0.mk ho; have HB3 := Aside0.mk hb; clear ho hb hg hat))
          go_roundw
          case rel => exact ⟨i + 1, by go_num, by omega, ⟨by rw [Htk.out, HE.out]; exact HO3.out⟩, ⟨HB3.out⟩⟩
          case measure => simp [intOf]; omega
    · obtain rfl : i = names.length := by omega
      rw [List.take_length] at HC
      have HC2 : Aside0 (Kd.R Kd.string 9 wr W0.heap.size (fun _ => True) u5 (candR l names)) := ⟨HC.out⟩
      have hcl : (candR l names).length ≤ 1000 := by
        have := cands_len l names []
        rw [List.length_nil] at this
        unfold candR
        omega
      clear HC
      obtain ⟨Ac, cc, rfl, hcc, hCC⟩ := Kd.R_reads HC2.out
      have hownc := Kd.own_of_R HC2.out
      obtain ⟨wB, hWB⟩ : ∃ wB, Aside0 (wr.alloc (.cells #[.slice none 0 0] 22 (0, 0)) = wB) := ⟨_, ⟨rfl⟩⟩
      have HBB : Aside0 (Below wr.heap.size wr wB) := ⟨by rw [← hWB.out]; exact below_alloc (Below.refl _ _) _⟩
      have hszB : wB.heap.size = wr.heap.size + 1 := by rw [← hWB.out, World.size_alloc]
      have HNB : Aside0 (wB.heap[wr.heap.size]? = some (.cells #[.slice none 0 0] 22 (0, 0))) := ⟨by rw [← hWB.out]; exact blk_new wr _⟩
      have HSC : Aside0 (StR wr.heap.size wB Ac (candR l names)) := ⟨⟨Kd.C_below hCC HBB.out, fun ad' h0 e' => by
        have h9 := own_lt hownc ad'.block (by
          obtain ⟨g, cap, h8, _⟩ := hownc.form h0
          injection h8 with h8
          rw [h8] at e'
          cases e'
          rw [h8]; rfl)
        omega⟩⟩
      have HLO : Aside0 (∀ V, Below W0.heap.size wB V → Below W0.heap.size W0 V) := ⟨fun V hV => (HB.out.trans (HBB.out.mono hszr)).trans hV⟩
      clear hownc hCC HC2
      go_wp2
      go_step3
      go_wp2
      rw [hWB.out]
      refine wp_loop (fun a' V => ∃ (n : Nat) (u10 x34 x35 x36 x37 x38 x39 x40 : Value) (ds : List Deferred), (1 ≤ n ∧ n ≤ 4 ∧ u10 = .int .i64 (n : Int) ∧ Aside0 (MarksAt wB.heap.size V.heap.size ds V) ∧ Aside0 (V.heap[wr.heap.size]? = some (.cells #[.slice none 0 0] 22 (0, 0))) ∧ Aside0 (CK W0.heap.size wr.heap.size wB V) ∧ Aside0 (∀ k, 1 ≤ k → k < n → ∀ x ∈ cho k (candR l names), usableR l x = false) ∧ wB.heap.size ≤ V.heap.size) ∧ a' = { tmps := #[Value.slice Al l.length cl, Value.slice An names.length cn, Value.pointer (some ⟨w.heap.size, 0, none⟩), undef, Value.slice none 0 0, Value.slice Ac (candR l names).length cc, undef, u7, u8, Value.pointer (some ⟨wr.heap.size, 0, none⟩), u10, undef, Value.slice An names.length cn, Value.int IntKind.i64 (names.length : Int), Value.int IntKind.i64 (names.length : Int), Value.bool false, u16, u17, u18, u19, u20, u21, u22, u23, u24, u25, u26, u27, u28, u29, u30, u31, u32, u33, x34, x35, x36, x37, x38, x39, x40, undef, undef, undef, undef, undef, undef], defers := ds }) (fun a' _ => 4 - (intOf (a'.tmps.getD 10 undef)).toNat) ?start ?round
      case start => exact ⟨1, .int .i64 1, undef, undef, undef, undef, undef, undef, undef, [], ⟨Nat.le_refl _, by omega, rfl, ⟨MarksAt.nil _ _ _⟩, HNB, ⟨CK.below (Below.refl _ _) (by omega)⟩, ⟨fun k h1 h2 => by omega⟩, Nat.le_refl _⟩, rfl⟩
      case round =>
        rintro _ V ⟨n, u10, x34, x35, x36, x37, x38, x39, x40, ds, ⟨hn1, hn4, hv, HM, HNV, HCK, HNO, hsV⟩, rfl⟩
        subst hv
        by_cases hn3 : n ≤ 3
        · have hnI : (n : Int) ≤ 3 := by omega
          go_wp2_with (go_at_call 53; refine (choices_calls none 0 0 Ac cc (candR l names).length (n : Int) _).mono ?_; rintro e w8 ⟨Bi2, Bh2, Br2, rfl, h1, h2, h3, hlo, hb8⟩; have HL8 := Aside0.mk (And.intro h1 (And.intro h2 (And.intro h3 hlo))); have HB8 := Aside0.mk hb8; clear h1 h2 h3 hlo hb8)
          have hsz8 := HB8.out.size
          have hlo := HL8.out.2.2.2
          have hBn8 : wr.heap.size < w8.heap.size := by omega
          have hn8 : W0.heap.size ≤ w8.heap.size := by omega
          have HS8 : Aside0 (ChS wr.heap.size Bi2 Bh2 Br2 (n : Int) none 0 [] Ac cc (candR l names) w8) := ⟨⟨HL8.out.1, HL8.out.2.1, HL8.out.2.2.1, ⟨by omega, by omega, by omega⟩, Nat.le_refl _, hcc, ⟨⟨rfl, by simp, fun h => absurd h (by simp)⟩, fun _ h => absurd h (by simp)⟩, (HSC.out.ck HCK.out).ck (CK.below (n₀ := V.heap.size) HB8.out (Nat.le_refl _))⟩⟩
          have HSQ := Aside0.mk (SeqRd.of (n₀ := W0.heap.size) (Bn := wr.heap.size) (fd := 9) (Bi := Bi2) (Bh := Bh2) (Br := Br2) (full := (cho n (candR l names)).map ([] ++ ·)) (N := (cho n (candR l names)).length) (w := w8) (fun l2 J2 Jx2 W2 hW2 hJ2 hJx2 hY2 h02 => choose_calls W0.heap.size wr.heap.size n Bi2 Bh2 Br2 none 0 [] Ac cc (candR l names) l2 J2 Jx2 W2 (Nat.le_trans hn8 hW2.size) (Nat.lt_of_lt_of_le hBn8 hW2.size) (by simp; omega) hcl (HS8.out.below hW2) hJ2 hJx2 hY2 h02))
          have HN8 := Aside0.mk (blk_below HNV.out HB8.out)
          have HC8 : Aside0 (CK W0.heap.size wr.heap.size wB w8) := ⟨HCK.out.trans (CK.below HB8.out (by omega))⟩
          have HM8 : Aside0 (MarksAt wB.heap.size w8.heap.size ds w8) := ⟨(HM.out.grown (grown_belowC HB8.out) (by simp)).up hsz8⟩
          have hw8 : wB.heap.size ≤ w8.heap.size := by omega
          clear HL8 HB8 HS8 HNV HCK HM hlo hsz8 HSC
          refine (wpIn_wide (n := 10)).1 ?_
          refine range_rd (F := Fence.wide) (n := 10) rfl (by decide) (gf := 73) (lb := #[.pointer (some ⟨Bi2, 0, none⟩), .pointer (some ⟨Bh2, 0, none⟩), .pointer (some ⟨Br2, 0, none⟩)]) rfl trivial (fun args w => enters_ Try.func73 (by kernel_rfl) rfl args w) HSQ.out CK.trans (fun W l o o' => CK.put (w := w8) hn8 W l o o') (Below.refl _ _) (fun _ => rfl)
            (fun pre V => V.heap[wr.heap.size]? = some (.cells #[.slice none 0 0] 22 (0, 0)) ∧ CK W0.heap.size wr.heap.size wB V ∧ MarksAt wB.heap.size w8.heap.size ds V ∧ (∀ x ∈ pre, usableR l x.1 = false) ∧ w8.heap.size ≤ V.heap.size)
            (fun cd pre V => cd = .exit 2 ∧ MarksAt wB.heap.size w8.heap.size ds V ∧ Below W0.heap.size wB V ∧ ∃ pre0 x, pre = pre0 ++ [x] ∧ (∀ y ∈ pre0, usableR l y.1 = false) ∧ usableR l x.1 = true ∧ V.heap[wr.heap.size]? = some (.cells #[x.2] 22 (0, 0)) ∧ RdS W0.heap.size wr.heap.size x V)
            ?hI ?hIx (RdS.own hn8) ⟨HN8.out, HC8.out, HM8.out, (fun x hx => by cases hx), Nat.le_refl _⟩
            (fun x => { tmps := #[Value.slice Al l.length cl, Value.slice An names.length cn, Value.pointer (some ⟨w.heap.size, 0, none⟩), undef, Value.slice none 0 0, Value.slice Ac (candR l names).length cc, undef, u7, u8, Value.pointer (some ⟨wr.heap.size, 0, none⟩), Value.int IntKind.i64 n, x.2, Value.slice An names.length cn, Value.int IntKind.i64 (names.length : Int), Value.int IntKind.i64 (names.length : Int), Value.bool false, u16, u17, u18, u19, u20, u21, u22, u23, u24, u25, u26, u27, u28, u29, u30, u31, u32, u33, Value.int IntKind.i64 n, Value.bool true, x36, x37, Value.slice Ac (candR l names).length cc, Value.int IntKind.i64 n, Value.func (Fn.func 73) #[] #[Value.pointer (some ⟨Bi2, 0, none⟩), Value.pointer (some ⟨Bh2, 0, none⟩), Value.pointer (some ⟨Br2, 0, none⟩)], x.2, undef, undef, undef, undef, undef], defers := [] }) ?assign ?body ?done ?stop
          case hI =>
            rintro s A B row ⟨g1, g2, g3, g4, g5⟩ hg hr
            refine ⟨?_, g2.trans (CK.grown hn8 (by omega) hg hr), g3.grown hg (fun r e => (hr r e).1), g4, Nat.le_trans g5 hg.size⟩
            rw [hg.block _ (lt_of_blockC g1) (fun e => by have := (hr _ e.symm).1; omega)]
            exact g1
          case hIx =>
            rintro cd s A B row ⟨g1, g2, g3, pre0, x, g4, g5, g6, g7, g8⟩ hg hr
            have hz := lt_of_blockC g7
            refine ⟨g1, g2.grown hg (fun r e => (hr r e).1), g3.trans (CK.grown (Bn := wr.heap.size) hn8 (by omega) hg hr).1, pre0, x, g4, g5, g6, ?_, RdS.own hn8 _ _ _ _ g8 hg hr⟩
            rw [hg.block _ (lt_of_blockC g7) (fun e => by have := (hr _ e.symm).1; omega)]
            exact g7
          case assign =>
            intro l2 x V K hK
            gi_wp2
            exact hK
          case body =>
            rintro l2 pre ⟨s, v⟩ V8 ⟨g1, g2, g3, g4, g5⟩ hrd hpl
            obtain ⟨Ax, cx, ex, hcx, hCx⟩ := Kd.R_reads (Kd.R_of_own (ok := fun _ => True) (h1 := fun _ => rfl) hrd.1 (fun _ _ => trivial))
            dsimp only at ex hcx hCx
            subst ex
            have HG := Aside0.mk (And.intro g1 (And.intro g2 (And.intro g3 (And.intro g4 (And.intro hrd hCx)))))
            have hsl : s.length ≤ 1000 := hrd.2.2
            have hx0 := blk_cell (blk_below HT.out (HLO.out V8 g2.1)) 0
            have HK := Aside0.mk (usable_calls Al cl l Ax cx s V8 (Kd.C_below HR.out.1 (HLO.out V8 g2.1)) hCx hcx hll (by omega) HOK.out)
            clear g1 g2 g3 g4 hrd hCx
            cases hu : usableR l s with
            | false =>
              rw [hu] at HK
              have HU := Aside0.mk hu
              clear hu
              gi_wp2_with (refine ⟨trivial, CallsIn.mono (CallsIn.inRound l2 (callsIn_wide.2 HK.out)) ?_⟩; rintro e V9 ⟨rfl, hd⟩; have HD := Aside0.mk hd; clear hd)
              exact ⟨KeepsFrom.of_grownBy (grown_belowC HD.out) (by simp), CK.below HD.out (by omega), blk_below HG.out.1 HD.out, HG.out.2.1.trans (CK.below HD.out (by omega)), HG.out.2.2.1.grown (grown_belowC HD.out) (by simp), (fun x hx => by
                rcases List.mem_append.1 hx with h | h
                · exact HG.out.2.2.2.1 x h
                · rw [List.mem_singleton.1 h]; exact HU.out), Nat.le_trans g5 HD.out.size⟩
            | true =>
              rw [hu] at HK
              have HU := Aside0.mk hu
              clear hu
              gi_wp2_with (refine ⟨trivial, CallsIn.mono (CallsIn.inRound l2 (callsIn_wide.2 HK.out)) ?_⟩; rintro e V9 ⟨rfl, hd⟩; have HD := Aside0.mk hd; have hy0 := blk_cell (blk_below HG.out.1 HD.out) 0; have hf0 := blk_frozen (blk_below HG.out.1 HD.out) 0; clear hd)
              have hrd := HG.out.2.2.2.2.1.ck (CK.below (n₀ := W0.heap.size) (Bn := wr.heap.size) HD.out (by omega))
              exact ⟨(KeepsFrom.of_grownBy (grown_belowC HD.out) (by simp)).trans ((KeepsOthers.setCell _ _ _).from _), rfl, (HG.out.2.2.1.grown (grown_belowC HD.out) (by simp)).keep ((KeepsOthers.setCell _ _ _).from _), (HG.out.2.1.1.trans (HD.out.mono (by omega))).setCell (p := ⟨wr.heap.size, 0, none⟩) hszr _, pre, (s, .slice Ax s.length cx), rfl, HG.out.2.2.2.1, HU.out, heap_setCell_same V9 wr.heap.size 0 _ _ _ (blk_below HG.out.1 HD.out), Own.far hrd.1 (fun k hk => hrd.2.1 k hk), hrd.2⟩
          case done =>
            rintro D xs V9 hD hSx ⟨g1, g2, g3, g4, g5⟩ hmark
            have HG := Aside0.mk (And.intro g1 (And.intro g2 (g3.more hw8 hD hmark)))
            have HSX : Aside0 (∀ k, 1 ≤ k → k < n + 1 → ∀ x ∈ cho k (candR l names), usableR l x = false) := ⟨fun k h1 h2 x hx => by
              rcases Nat.lt_or_ge k n with h3 | h3
              · exact HNO.out k h1 h3 x hx
              · obtain rfl : k = n := by omega
                have e : (cho k (candR l names)).map ([] ++ ·) = cho k (candR l names) := by simp
                rw [e] at hSx
                rw [← hSx] at hx
                obtain ⟨y, hy, rfl⟩ := List.mem_map.1 hx
                exact g4 y hy⟩
            clear g1 g2 g3 g4 hmark hSx
            gi_wp2
            go_wp2
            refine ⟨⟨n + 1, _, _, _, _, _, _, _, _, mkD D :: ds, ⟨by omega, by omega, by go_num, ⟨HG.out.2.2⟩, ⟨HG.out.1⟩, ⟨HG.out.2.1⟩, HSX, by omega⟩, rfl⟩, ?_⟩
            simp [intOf]; omega
          case stop =>
            rintro D cd pre V9 hD hSp ⟨rfl, g1, g2, pre0, ⟨s, v⟩, rfl, g5, g6, g7, g8⟩ hmark
            have HM9 := Aside0.mk (g1.more hw8 hD hmark)
            have hb : bestR l (candR l names) = s := best_found l _ n hn1 hn3 HNO.out (pre0.map Prod.fst) s (by
              have e : (cho n (candR l names)).map ([] ++ ·) = cho n (candR l names) := by simp
              rw [e, List.map_append] at hSp
              exact hSp) (fun y hy => by obtain ⟨z, hz, rfl⟩ := List.mem_map.1 hy; exact g5 z hz) g6
            have HE := Aside0.mk (And.intro hb (And.intro g2 g8))
            have hy0 := blk_cell g7 0
            clear g1 g2 g5 g6 g7 g8 hSp hmark hb
            gi_wp2
            dsimp +zetaDelta only [Exit.then, Exit.inBlock]
            go_wp2
            try rw [Exit.noGoto_ret]
            exact HM9.out.leave (fun V => results_tmp rfl _ _ V) (fun _ V => RdS W0.heap.size wr.heap.size (s, v) V ∧ Below w.heap.size w V) (fun q A B row hs hg hr => ⟨RdS.own (by omega) _ _ _ _ hs.1 hg hr, hs.2.grown hg hs.2.size (fun k e => by have := (hr k e).1; omega)⟩) (fun V hj => ⟨_, rfl, by show Kd.R _ _ _ _ _ v (inferR l names); unfold inferR; rw [HE.out.1]; exact Kd.R_of_own (h1 := fun _ => rfl) (own_weaken hj.1.1 (by omega)) (fun _ _ => trivial), hj.2⟩) ⟨HE.out.2.2, HB0.out.trans ((HLO.out V9 HE.out.2.1).mono (by omega))⟩
        · obtain rfl : n = 4 := by omega
          have hy0 := blk_cell HNV.out 0
          have HE := Aside0.mk (best_none l (candR l names) HNO.out)
          go_wp2
          rw [Exit.noGoto_ret]
          exact HM.out.leave (fun V => results_tmp rfl _ _ V) (fun _ V => Below w.heap.size w V) (fun q A B row hs hg hr => hs.grown hg hs.size (fun k e => by have := (hr k e).1; omega)) (fun V hj => ⟨_, rfl, by show Kd.R _ _ _ _ _ (Value.slice none 0 0) (inferR l names); unfold inferR; rw [HE.out]; exact Kd.R_nil _ _ _ _ _, hj⟩) (HB0.out.trans ((HLO.out V HCK.out.1).mono (by omega)))
def okI (l : List TS) (names : List ByteArray) : Bool := decide (l.length ≤ 100000) && decide (names.length ≤ 1000) && l.all okT1
def keys_Infer.f (l0 : List TS) (l1 : List ByteArray) : Option (List ByteArray) := if okI l0 l1 = true then some (inferR l0 l1) else none
theorem okI_use {l : List TS} {names : List ByteArray} (h : okI l names = true) : l.length ≤ 100000 ∧ names.length ≤ 1000 ∧ ∀ T ∈ l, okT1 T = true := by
  unfold okI at h
  rw [Bool.and_eq_true, Bool.and_eq_true, decide_eq_true_eq, decide_eq_true_eq, List.all_eq_true] at h
  exact ⟨h.1.1, h.1.2, h.2⟩
theorem keys_Infer.calls (A0 : Option Addr) (c0 : Nat) (l0 : List TS) (A1 : Option Addr) (c1 : Nat) (l1 : List ByteArray) (r : List ByteArray) (w : World) (hr0 : Kd.C k25 w A0 l0.length l0) (hc0 : l0.length ≤ c0) (hr1 : Kd.C Kd.string w A1 l1.length l1) (hc1 : l1.length ≤ c1) (h : keys_Infer.f l0 l1 = some r) :
    Calls Try.prog 21 #[.slice A0 l0.length c0, .slice A1 l1.length c1] w fun e w' => ∃ v : Value, e = .returned v ∧ Kd.R Kd.string 9 w' w.heap.size (fun _ => True) v r ∧ Below w.heap.size w w' := by
  unfold keys_Infer.f at h
  split at h
  · rename_i hok
    obtain ⟨h1, h2, h3⟩ := okI_use hok
    rw [← Option.some.inj h]
    exact infer_calls A0 c0 l0 A1 c1 l1 w hr0 hr1 hc1 h1 h2 h3
  · exact nomatch h
end Go.Proofs.Ytbcpaojciephmaa.X
end
section
namespace Go.Proofs.Ytbcpaojciephmaa.X
open Go.RowKit Go.Maps Go.Proofs.YtbcpaojciephmaaW.PrintWords Go.Proofs.YtbcpaojciephmaaW.PrintLast Go.Proofs.YtbcpaojciephmaaW.PrintMore
set_option linter.unusedVariables false
/-- The key that is asked for, or the least one. -/
def keyOfR (l : List TS) (names : List ByteArray) : List ByteArray := if usableR l names = true then names else match l with
  | [] => []
  | T :: _ => inferR l T.f0
theorem keyOf_first {l : List TS} {names : List ByteArray} (hu : usableR l names = false) (h : 0 < l.length) : keyOfR l names = inferR l (rd_T25 l ((0 : Nat) : Int)).f0 := by
  unfold keyOfR
  rw [if_neg (by rw [hu]; decide)]
  cases l with
  | nil => exact absurd h (by simp)
  | cons T r => rfl
set_option maxRecDepth 100000 in
set_option maxHeartbeats 1600000 in
theorem keyOf_calls (Al : Option Addr) (cl : Nat) (l : List TS) (An : Option Addr) (cn : Nat) (names : List ByteArray) (w : World) (hrl : Kd.C k25 w Al l.length l) (hrn : Kd.C Kd.string w An names.length names) (hcn : names.length ≤ cn)
    (hll : l.length ≤ 100000) (hn : names.length ≤ 1000) (hok : ∀ T ∈ l, okT1 T = true) (hh : ∀ T ∈ l, T.f0.length ≤ 1000) :
    Calls Try.prog 23 #[.slice Al l.length cl, .slice An names.length cn] w fun e w' => ∃ v : Value, e = .returned v ∧ Kd.R Kd.string 9 w' w.heap.size (fun _ => True) v (keyOfR l names) ∧ Below w.heap.size w w' := by
  have HK := Aside0.mk (usable_calls Al cl l An cn names w hrl hrn hcn hll (by omega) hok)
  have HR := Aside0.mk (And.intro hrl hrn)
  have HOK := Aside0.mk (And.intro hok hh)
  clear hrl hrn hok hh
  cases hu : usableR l names with
  | true =>
    rw [hu] at HK
    have HE : Aside0 (keyOfR l names = names) := ⟨by unfold keyOfR; rw [if_pos hu]⟩
    clear hu
    go_enter Try.func23, Try.ntmps23
    go_wp2_with (first
      | (go_at_call 25; refine HK.out.mono ?_; rintro e w1 ⟨rfl, hd⟩; have HD := Aside0.mk hd; clear hd)
      | (go_at_call 56; refine (clone_calls An cn names w1 (Kd.C_below HR.out.2 HD.out) hcn (by omega)).mono ?_; rintro e w2 ⟨v, rfl, ho, hd⟩; have HO := Aside0.mk (Kd.R_lower ho HD.out.size); have HD2 := Aside0.mk (below_step HD.out hd); clear ho hd))
    go_ret
    exact ⟨_, rfl, by rw [HE.out]; exact HO.out, HD2.out⟩
  | false =>
    rw [hu] at HK
    by_cases h0 : 0 < l.length
    · have HE := Aside0.mk (keyOf_first hu h0)
      have hm : rd_T25 l ((0 : Nat) : Int) ∈ l := by
        unfold rd_T25
        rw [show (((0 : Nat) : Int)).toNat = 0 from rfl, List.getD_eq_getElem?_getD, List.getElem?_eq_getElem h0]; exact List.getElem_mem h0
      have hl0 : ((l.length : Int) == 0) = false := by rw [beq_eq_false_iff_ne]; omega
      have hl1 : (0 : Int) < (l.length : Int) := by omega
      obtain ⟨ad, A0, c0, A1, c1, eA, hx0, hx1, hc0, hC0, hc1, hC1⟩ := tabAt_use HR.out.1 h0
      cases eA
      have hhd := HOK.out.2 _ hm
      rw [Nat.zero_mul, show ad.add 0 = ad by simp [Addr.add]] at hx0 hx1
      rw [HE.out]
      generalize (rd_T25 l ((0 : Nat) : Int)).f0 = hd0 at *
      have HX := Aside0.mk (And.intro hx0 hC0)
      clear hu hx0 hx1 hC0 hC1 hm HE
      go_enter Try.func23, Try.ntmps23
      go_wp2_with (first
        | (go_at_call 25; refine HK.out.mono ?_; rintro e w1 ⟨rfl, hd⟩; have HD := Aside0.mk hd; have hy0 := (hd.cell (World.block_lt_of_cell? w _ HX.out.1)).trans HX.out.1; clear hd)
        | (go_at_call 21; refine (infer_calls (some ad) cl l A0 c0 hd0 w1 (Kd.C_below HR.out.1 HD.out) (Kd.C_below HX.out.2 HD.out) hc0 hll hhd HOK.out.1).mono ?_; rintro e w2 ⟨v, rfl, ho, hd⟩; have HO := Aside0.mk (Kd.R_lower ho HD.out.size); have HD2 := Aside0.mk (below_step HD.out hd); clear ho hd))
      go_ret
      exact ⟨_, rfl, HO.out, HD2.out⟩
    · have HE : Aside0 (keyOfR l names = []) := ⟨by
        unfold keyOfR
        rw [if_neg (by rw [hu]; decide)]
        obtain rfl : l = [] := List.eq_nil_of_length_eq_zero (by omega)
        rfl⟩
      have hl0 : ((l.length : Int) == 0) = true := by rw [beq_iff_eq]; omega
      clear hu h0
      go_enter Try.func23, Try.ntmps23
      go_wp2_with (go_at_call 25; refine HK.out.mono ?_; rintro e w1 ⟨rfl, hd⟩; have HD := Aside0.mk hd; clear hd)
      go_ret
      exact ⟨_, rfl, by rw [HE.out]; exact Kd.R_nil _ _ _ _ _, HD.out⟩
end Go.Proofs.Ytbcpaojciephmaa.X
end
section
namespace Go.Proofs.Ytbcpaojciephmaa.X
open Go.RowKit Go.Maps Go.Proofs.YtbcpaojciephmaaW.PrintWords Go.Proofs.YtbcpaojciephmaaW.PrintLast Go.Proofs.YtbcpaojciephmaaW.PrintMore
set_option linter.unusedVariables false
abbrev hW : List ByteArray := [(⟨#[97]⟩ : ByteArray), (⟨#[98]⟩ : ByteArray)]
abbrev tW : TS := ⟨hW, [[(⟨#[49]⟩ : ByteArray), (⟨#[120]⟩ : ByteArray)], [(⟨#[49]⟩ : ByteArray), (⟨#[121]⟩ : ByteArray)]]⟩
abbrev uW : TS := ⟨hW, [[(⟨#[49]⟩ : ByteArray), (⟨#[120]⟩ : ByteArray)], [(⟨#[49]⟩ : ByteArray), (⟨#[121]⟩ : ByteArray)], [(⟨#[50]⟩ : ByteArray), (⟨#[120]⟩ : ByteArray)]]⟩
abbrev vW : TS := ⟨hW, [[(⟨#[49]⟩ : ByteArray), (⟨#[120]⟩ : ByteArray)], [(⟨#[49]⟩ : ByteArray), (⟨#[120]⟩ : ByteArray)]]⟩
theorem inf_t : inferR [tW] hW = [(⟨#[98]⟩ : ByteArray)] := by kernel_rfl
theorem inf_u : inferR [uW] hW = hW := by kernel_rfl
theorem inf_v : inferR [vW] hW = [] := by kernel_rfl
theorem of_t : keyOfR [tW] [(⟨#[97]⟩ : ByteArray)] = [(⟨#[98]⟩ : ByteArray)] := by kernel_rfl
theorem pl_t : placesR hW [(⟨#[98]⟩ : ByteArray)] = ([1], true) := by kernel_rfl
theorem un_tf : keys_Unique.f hW tW.f1 [1] = some true := by kernel_rfl
theorem un_nf : keys_Unique.f hW tW.f1 [] = some false := by kernel_rfl
theorem us_b : usableR [tW] [(⟨#[98]⟩ : ByteArray)] = true := by kernel_rfl
theorem us_c : usableR [tW] [(⟨#[99]⟩ : ByteArray)] = false := by kernel_rfl
theorem ok_t : ∀ T ∈ [tW], okT1 T = true := by intro T hT; rw [List.mem_singleton.1 hT]; kernel_rfl
theorem ok_u : ∀ T ∈ [uW], okT1 T = true := by intro T hT; rw [List.mem_singleton.1 hT]; kernel_rfl
theorem ok_v : ∀ T ∈ [vW], okT1 T = true := by intro T hT; rw [List.mem_singleton.1 hT]; kernel_rfl
theorem hd_t : ∀ T ∈ [tW], T.f0.length ≤ 1000 := by intro T hT; rw [List.mem_singleton.1 hT]; decide
theorem rowW (A0 : Option Addr) (c0 : Nat) (l0 : List ByteArray) (A1 : Option Addr) (c1 : Nat) (w : World) (hr0 : Kd.C Kd.string w A0 l0.length l0) (hc0 : l0.length ≤ c0) (hr1 : Kd.C Kd.string w A1 l0.length l0) (hc1 : l0.length ≤ c1) (h : tartanref03_Row.f 100 l0 l0 = some true) :
    Calls Try.prog 20 #[.slice A0 l0.length c0, .slice A1 l0.length c1] w fun e w' => e = .returned (.bool true) ∧ Below w.heap.size w w' :=
  (tartanref03_Row.calls 100 A0 c0 l0 A1 c1 l0 true w hr0 hc0 hr1 hc1 h).mono (fun e w' h => ⟨h.1, h.2.below⟩)
theorem row_b : tartanref03_Row.f 100 [(⟨#[98]⟩ : ByteArray)] [(⟨#[98]⟩ : ByteArray)] = some true := by kernel_rfl
theorem row_h : tartanref03_Row.f 100 hW hW = some true := by kernel_rfl
theorem blk_atk {W : World} {o : Obj} {k : Nat} (h : k = W.heap.size) : (W.alloc o).heap[k]? = some o := by subst h; exact blk_new W o
theorem C_noI (W : World) : Kd.C (Kd.int .i64) W none 0 [] := ⟨rfl, by decide, fun h => absurd h (by decide)⟩
theorem C_oneI {W : World} {g : Nat} {t : TypeId} {i : Int} (h : W.heap[g]? = some (.cells #[.int .i64 i] t (0, 0))) : Kd.C (Kd.int .i64) W (some ⟨g, 0, none⟩) 1 [i] := by
  refine ⟨rfl, by decide, fun _ => ⟨_, rfl, fun j p hj => ?_⟩⟩
  have hj0 : j = 0 := by
    rcases j with _ | j
    · rfl
    · simp at hj
  subst hj0
  simp at hj
  subst hj
  refine ⟨[.int .i64 i], rfl, rfl, fun k u hu => ?_⟩
  rw [Nat.zero_mul, Nat.zero_add, addr_off]
  rcases k with _ | k
  · simp at hu; subst hu; exact blk_cell h 0
  · simp at hu
set_option maxRecDepth 100000 in
set_option maxHeartbeats 8000000 in
theorem works_calls (w : World) : Calls Try.prog 13 #[] w fun e w' => e = .returned (.bool true) ∧ Below w.heap.size w w' := by
  have HB := Aside0.mk (Below.refl w.heap.size w)
  have st0 : True := trivial
  go_enter Try.func13, Try.ntmps13
  go_wp2_with (first
    | (go_at_call 21; clear st0; refine name_world (fun x29 hx => ?_); have f1 : Aside0 (x29.heap[w.heap.size]? = some (.cells #[.string (⟨#[97]⟩ : ByteArray), .string (⟨#[98]⟩ : ByteArray)] 9 (0, 0))) := ⟨by rw [← hx]; exact (blk_alloc (blk_alloc (blk_alloc (blk_alloc (blk_alloc (blk_alloc (blk_alloc (blk_alloc (blk_alloc (blk_alloc (blk_alloc (blk_alloc (blk_alloc (blk_alloc (blk_alloc (blk_alloc (blk_atk rfl) _) _) _) _) _) _) _) _) _) _) _) _) _) _) _) _)⟩; have f2 : Aside0 (x29.heap[w.heap.size + 1]? = some (.cells #[.string (⟨#[49]⟩ : ByteArray), .string (⟨#[120]⟩ : ByteArray)] 9 (0, 0))) := ⟨by rw [← hx]; exact (blk_alloc (blk_alloc (blk_alloc (blk_alloc (blk_alloc (blk_alloc (blk_alloc (blk_alloc (blk_alloc (blk_alloc (blk_alloc (blk_alloc (blk_alloc (blk_alloc (blk_alloc (blk_atk (by simp only [World.size_alloc])) _) _) _) _) _) _) _) _) _) _) _) _) _) _) _)⟩; have f3 : Aside0 (x29.heap[w.heap.size + 1 + 1]? = some (.cells #[.string (⟨#[49]⟩ : ByteArray), .string (⟨#[121]⟩ : ByteArray)] 9 (0, 0))) := ⟨by rw [← hx]; exact (blk_alloc (blk_alloc (blk_alloc (blk_alloc (blk_alloc (blk_alloc (blk_alloc (blk_alloc (blk_alloc (blk_alloc (blk_alloc (blk_alloc (blk_alloc (blk_alloc (blk_atk (by simp only [World.size_alloc])) _) _) _) _) _) _) _) _) _) _) _) _) _) _)⟩; have f4 : Aside0 (x29.heap[w.heap.size + 1 + 1 + 1]? = some (.cells #[.slice (some ⟨w.heap.size + 1, 0, none⟩) 2 2, .slice (some ⟨w.heap.size + 1 + 1, 0, none⟩) 2 2] 22 (0, 0))) := ⟨by rw [← hx]; exact (blk_alloc (blk_alloc (blk_alloc (blk_alloc (blk_alloc (blk_alloc (blk_alloc (blk_alloc (blk_alloc (blk_alloc (blk_alloc (blk_alloc (blk_alloc (blk_atk (by simp only [World.size_alloc])) _) _) _) _) _) _) _) _) _) _) _) _) _)⟩; have f5 : Aside0 (x29.heap[w.heap.size + 1 + 1 + 1 + 1]? = some (.cells #[.slice (some ⟨w.heap.size, 0, none⟩) 2 2, .slice (some ⟨w.heap.size + 1 + 1 + 1, 0, none⟩) 2 2] 25 (0, 0))) := ⟨by rw [← hx]; exact (blk_alloc (blk_alloc (blk_alloc (blk_alloc (blk_alloc (blk_alloc (blk_alloc (blk_alloc (blk_alloc (blk_alloc (blk_alloc (blk_alloc (blk_atk (by simp only [World.size_alloc])) _) _) _) _) _) _) _) _) _) _) _) _)⟩; have f6 : Aside0 (x29.heap[w.heap.size + 1 + 1 + 1 + 1 + 1]? = some (.cells #[.string (⟨#[97]⟩ : ByteArray), .string (⟨#[98]⟩ : ByteArray)] 9 (0, 0))) := ⟨by rw [← hx]; exact (blk_alloc (blk_alloc (blk_alloc (blk_alloc (blk_alloc (blk_alloc (blk_alloc (blk_alloc (blk_alloc (blk_alloc (blk_alloc (blk_atk (by simp only [World.size_alloc])) _) _) _) _) _) _) _) _) _) _) _)⟩; have f7 : Aside0 (x29.heap[w.heap.size + 1 + 1 + 1 + 1 + 1 + 1]? = some (.cells #[.string (⟨#[49]⟩ : ByteArray), .string (⟨#[120]⟩ : ByteArray)] 9 (0, 0))) := ⟨by rw [← hx]; exact (blk_alloc (blk_alloc (blk_alloc (blk_alloc (blk_alloc (blk_alloc (blk_alloc (blk_alloc (blk_alloc (blk_alloc (blk_atk (by simp only [World.size_alloc])) _) _) _) _) _) _) _) _) _) _)⟩; have f8 : Aside0 (x29.heap[w.heap.size + 1 + 1 + 1 + 1 + 1 + 1 + 1]? = some (.cells #[.string (⟨#[49]⟩ : ByteArray), .string (⟨#[121]⟩ : ByteArray)] 9 (0, 0))) := ⟨by rw [← hx]; exact (blk_alloc (blk_alloc (blk_alloc (blk_alloc (blk_alloc (blk_alloc (blk_alloc (blk_alloc (blk_alloc (blk_atk (by simp only [World.size_alloc])) _) _) _) _) _) _) _) _) _)⟩; have f9 : Aside0 (x29.heap[w.heap.size + 1 + 1 + 1 + 1 + 1 + 1 + 1 + 1]? = some (.cells #[.string (⟨#[50]⟩ : ByteArray), .string (⟨#[120]⟩ : ByteArray)] 9 (0, 0))) := ⟨by rw [← hx]; exact (blk_alloc (blk_alloc (blk_alloc (blk_alloc (blk_alloc (blk_alloc (blk_alloc (blk_alloc (blk_atk (by simp only [World.size_alloc])) _) _) _) _) _) _) _) _)⟩; have f10 : Aside0 (x29.heap[w.heap.size + 1 + 1 + 1 + 1 + 1 + 1 + 1 + 1 + 1]? = some (.cells #[.slice (some ⟨w.heap.size + 1 + 1 + 1 + 1 + 1 + 1, 0, none⟩) 2 2, .slice (some ⟨w.heap.size + 1 + 1 + 1 + 1 + 1 + 1 + 1, 0, none⟩) 2 2, .slice (some ⟨w.heap.size + 1 + 1 + 1 + 1 + 1 + 1 + 1 + 1, 0, none⟩) 2 2] 22 (0, 0))) := ⟨by rw [← hx]; exact (blk_alloc (blk_alloc (blk_alloc (blk_alloc (blk_alloc (blk_alloc (blk_alloc (blk_atk (by simp only [World.size_alloc])) _) _) _) _) _) _) _)⟩; have f11 : Aside0 (x29.heap[w.heap.size + 1 + 1 + 1 + 1 + 1 + 1 + 1 + 1 + 1 + 1]? = some (.cells #[.slice (some ⟨w.heap.size + 1 + 1 + 1 + 1 + 1, 0, none⟩) 2 2, .slice (some ⟨w.heap.size + 1 + 1 + 1 + 1 + 1 + 1 + 1 + 1 + 1, 0, none⟩) 3 3] 25 (0, 0))) := ⟨by rw [← hx]; exact (blk_alloc (blk_alloc (blk_alloc (blk_alloc (blk_alloc (blk_alloc (blk_atk (by simp only [World.size_alloc])) _) _) _) _) _) _)⟩; have f12 : Aside0 (x29.heap[w.heap.size + 1 + 1 + 1 + 1 + 1 + 1 + 1 + 1 + 1 + 1 + 1]? = some (.cells #[.string (⟨#[97]⟩ : ByteArray), .string (⟨#[98]⟩ : ByteArray)] 9 (0, 0))) := ⟨by rw [← hx]; exact (blk_alloc (blk_alloc (blk_alloc (blk_alloc (blk_alloc (blk_atk (by simp only [World.size_alloc])) _) _) _) _) _)⟩; have f13 : Aside0 (x29.heap[w.heap.size + 1 + 1 + 1 + 1 + 1 + 1 + 1 + 1 + 1 + 1 + 1 + 1]? = some (.cells #[.string (⟨#[49]⟩ : ByteArray), .string (⟨#[120]⟩ : ByteArray)] 9 (0, 0))) := ⟨by rw [← hx]; exact (blk_alloc (blk_alloc (blk_alloc (blk_alloc (blk_atk (by simp only [World.size_alloc])) _) _) _) _)⟩; have f14 : Aside0 (x29.heap[w.heap.size + 1 + 1 + 1 + 1 + 1 + 1 + 1 + 1 + 1 + 1 + 1 + 1 + 1]? = some (.cells #[.string (⟨#[49]⟩ : ByteArray), .string (⟨#[120]⟩ : ByteArray)] 9 (0, 0))) := ⟨by rw [← hx]; exact (blk_alloc (blk_alloc (blk_alloc (blk_atk (by simp only [World.size_alloc])) _) _) _)⟩; have f15 : Aside0 (x29.heap[w.heap.size + 1 + 1 + 1 + 1 + 1 + 1 + 1 + 1 + 1 + 1 + 1 + 1 + 1 + 1]? = some (.cells #[.slice (some ⟨w.heap.size + 1 + 1 + 1 + 1 + 1 + 1 + 1 + 1 + 1 + 1 + 1 + 1, 0, none⟩) 2 2, .slice (some ⟨w.heap.size + 1 + 1 + 1 + 1 + 1 + 1 + 1 + 1 + 1 + 1 + 1 + 1 + 1, 0, none⟩) 2 2] 22 (0, 0))) := ⟨by rw [← hx]; exact (blk_alloc (blk_alloc (blk_atk (by simp only [World.size_alloc])) _) _)⟩; have f16 : Aside0 (x29.heap[w.heap.size + 1 + 1 + 1 + 1 + 1 + 1 + 1 + 1 + 1 + 1 + 1 + 1 + 1 + 1 + 1]? = some (.cells #[.slice (some ⟨w.heap.size + 1 + 1 + 1 + 1 + 1 + 1 + 1 + 1 + 1 + 1 + 1, 0, none⟩) 2 2, .slice (some ⟨w.heap.size + 1 + 1 + 1 + 1 + 1 + 1 + 1 + 1 + 1 + 1 + 1 + 1 + 1 + 1, 0, none⟩) 2 2] 25 (0, 0))) := ⟨by rw [← hx]; exact (blk_alloc (blk_atk (by simp only [World.size_alloc])) _)⟩; have f17 : Aside0 (x29.heap[w.heap.size + 1 + 1 + 1 + 1 + 1 + 1 + 1 + 1 + 1 + 1 + 1 + 1 + 1 + 1 + 1 + 1]? = some (.cells #[.slice (some ⟨w.heap.size, 0, none⟩) 2 2, .slice (some ⟨w.heap.size + 1 + 1 + 1, 0, none⟩) 2 2] 25 (0, 0))) := ⟨by rw [← hx]; exact (blk_atk (by simp only [World.size_alloc]))⟩; have HB2 : Aside0 (Below w.heap.size w x29) := ⟨by rw [← hx]; exact (below_alloc (below_alloc (below_alloc (below_alloc (below_alloc (below_alloc (below_alloc (below_alloc (below_alloc (below_alloc (below_alloc (below_alloc (below_alloc (below_alloc (below_alloc (below_alloc (below_alloc HB.out _) _) _) _) _) _) _) _) _) _) _) _) _) _) _) _) _)⟩; have HS : Aside0 (Below w.heap.size w x29) := ⟨by rw [← hx]; exact (below_alloc (below_alloc (below_alloc (below_alloc (below_alloc (below_alloc (below_alloc (below_alloc (below_alloc (below_alloc (below_alloc (below_alloc (below_alloc (below_alloc (below_alloc (below_alloc (below_alloc (Below.refl _ _) _) _) _) _) _) _) _) _) _) _) _) _) _) _) _) _) _)⟩; clear HB; have HB := Aside0.mk HB2.out; clear HB2 hx; refine (infer_calls (some ⟨w.heap.size + 1 + 1 + 1 + 1 + 1 + 1 + 1 + 1 + 1 + 1 + 1 + 1 + 1 + 1 + 1 + 1, 0, none⟩) 1 [tW] (some ⟨w.heap.size, 0, none⟩) 2 hW x29 (TabC.one (T := tW) ⟨Nat.le_refl _, (C_blk hW (by decide) f1.out), Nat.le_refl _, (C_rows _ (by decide) (fun j r hj => match j, hj with | 0, hj => by simp at hj; subst hj; exact ⟨_, 2, blk_cell f4.out 0, Nat.le_refl _, C_blk _ (by decide) f2.out⟩ | 1, hj => by simp at hj; subst hj; exact ⟨_, 2, blk_cell f4.out 1, Nat.le_refl _, C_blk _ (by decide) f3.out⟩ | j + 2, hj => by simp at hj))⟩ (blk_cell f17.out 0) (blk_cell f17.out 1)) (C_blk hW (by decide) f1.out) (Nat.le_refl _) (by decide) (by decide) ok_t).mono ?_; rintro e w29 ⟨v29, rfl, ho, hd⟩; have f18 := Aside0.mk (blk_below f1.out hd); clear f1; have f19 := Aside0.mk (blk_below f2.out hd); clear f2; have f20 := Aside0.mk (blk_below f3.out hd); clear f3; have f21 := Aside0.mk (blk_below f4.out hd); clear f4; have f22 := Aside0.mk (blk_below f5.out hd); clear f5; have f23 := Aside0.mk (blk_below f6.out hd); clear f6; have f24 := Aside0.mk (blk_below f7.out hd); clear f7; have f25 := Aside0.mk (blk_below f8.out hd); clear f8; have f26 := Aside0.mk (blk_below f9.out hd); clear f9; have f27 := Aside0.mk (blk_below f10.out hd); clear f10; have f28 := Aside0.mk (blk_below f11.out hd); clear f11; have f29 := Aside0.mk (blk_below f12.out hd); clear f12; have f30 := Aside0.mk (blk_below f13.out hd); clear f13; have f31 := Aside0.mk (blk_below f14.out hd); clear f14; have f32 := Aside0.mk (blk_below f15.out hd); clear f15; have f33 := Aside0.mk (blk_below f16.out hd); clear f16; have f34 := Aside0.mk (blk_below f17.out hd); clear f17; have HT := Aside0.mk (below_step HS.out hd); have HB2 := Aside0.mk (below_step HB.out hd); clear HB; have HB := Aside0.mk HB2.out; clear HB2 HS HT hd; rw [inf_t] at ho; obtain ⟨A29, c29, rfl, hc29, hC29⟩ := Kd.R_reads ho; have HC29 := Aside0.mk hC29; clear ho hC29; have st1 : True := trivial)
    | (go_at_call 20; clear st1; refine name_world (fun x31 hx => ?_); have f35 : Aside0 (x31.heap[w.heap.size]? = some (.cells #[.string (⟨#[97]⟩ : ByteArray), .string (⟨#[98]⟩ : ByteArray)] 9 (0, 0))) := ⟨by rw [← hx]; exact (blk_alloc f18.out _)⟩; clear f18; have f36 : Aside0 (x31.heap[w.heap.size + 1]? = some (.cells #[.string (⟨#[49]⟩ : ByteArray), .string (⟨#[120]⟩ : ByteArray)] 9 (0, 0))) := ⟨by rw [← hx]; exact (blk_alloc f19.out _)⟩; clear f19; have f37 : Aside0 (x31.heap[w.heap.size + 1 + 1]? = some (.cells #[.string (⟨#[49]⟩ : ByteArray), .string (⟨#[121]⟩ : ByteArray)] 9 (0, 0))) := ⟨by rw [← hx]; exact (blk_alloc f20.out _)⟩; clear f20; have f38 : Aside0 (x31.heap[w.heap.size + 1 + 1 + 1]? = some (.cells #[.slice (some ⟨w.heap.size + 1, 0, none⟩) 2 2, .slice (some ⟨w.heap.size + 1 + 1, 0, none⟩) 2 2] 22 (0, 0))) := ⟨by rw [← hx]; exact (blk_alloc f21.out _)⟩; clear f21; have f39 : Aside0 (x31.heap[w.heap.size + 1 + 1 + 1 + 1]? = some (.cells #[.slice (some ⟨w.heap.size, 0, none⟩) 2 2, .slice (some ⟨w.heap.size + 1 + 1 + 1, 0, none⟩) 2 2] 25 (0, 0))) := ⟨by rw [← hx]; exact (blk_alloc f22.out _)⟩; clear f22; have f40 : Aside0 (x31.heap[w.heap.size + 1 + 1 + 1 + 1 + 1]? = some (.cells #[.string (⟨#[97]⟩ : ByteArray), .string (⟨#[98]⟩ : ByteArray)] 9 (0, 0))) := ⟨by rw [← hx]; exact (blk_alloc f23.out _)⟩; clear f23; have f41 : Aside0 (x31.heap[w.heap.size + 1 + 1 + 1 + 1 + 1 + 1]? = some (.cells #[.string (⟨#[49]⟩ : ByteArray), .string (⟨#[120]⟩ : ByteArray)] 9 (0, 0))) := ⟨by rw [← hx]; exact (blk_alloc f24.out _)⟩; clear f24; have f42 : Aside0 (x31.heap[w.heap.size + 1 + 1 + 1 + 1 + 1 + 1 + 1]? = some (.cells #[.string (⟨#[49]⟩ : ByteArray), .string (⟨#[121]⟩ : ByteArray)] 9 (0, 0))) := ⟨by rw [← hx]; exact (blk_alloc f25.out _)⟩; clear f25; have f43 : Aside0 (x31.heap[w.heap.size + 1 + 1 + 1 + 1 + 1 + 1 + 1 + 1]? = some (.cells #[.string (⟨#[50]⟩ : ByteArray), .string (⟨#[120]⟩ : ByteArray)] 9 (0, 0))) := ⟨by rw [← hx]; exact (blk_alloc f26.out _)⟩; clear f26; have f44 : Aside0 (x31.heap[w.heap.size + 1 + 1 + 1 + 1 + 1 + 1 + 1 + 1 + 1]? = some (.cells #[.slice (some ⟨w.heap.size + 1 + 1 + 1 + 1 + 1 + 1, 0, none⟩) 2 2, .slice (some ⟨w.heap.size + 1 + 1 + 1 + 1 + 1 + 1 + 1, 0, none⟩) 2 2, .slice (some ⟨w.heap.size + 1 + 1 + 1 + 1 + 1 + 1 + 1 + 1, 0, none⟩) 2 2] 22 (0, 0))) := ⟨by rw [← hx]; exact (blk_alloc f27.out _)⟩; clear f27; have f45 : Aside0 (x31.heap[w.heap.size + 1 + 1 + 1 + 1 + 1 + 1 + 1 + 1 + 1 + 1]? = some (.cells #[.slice (some ⟨w.heap.size + 1 + 1 + 1 + 1 + 1, 0, none⟩) 2 2, .slice (some ⟨w.heap.size + 1 + 1 + 1 + 1 + 1 + 1 + 1 + 1 + 1, 0, none⟩) 3 3] 25 (0, 0))) := ⟨by rw [← hx]; exact (blk_alloc f28.out _)⟩; clear f28; have f46 : Aside0 (x31.heap[w.heap.size + 1 + 1 + 1 + 1 + 1 + 1 + 1 + 1 + 1 + 1 + 1]? = some (.cells #[.string (⟨#[97]⟩ : ByteArray), .string (⟨#[98]⟩ : ByteArray)] 9 (0, 0))) := ⟨by rw [← hx]; exact (blk_alloc f29.out _)⟩; clear f29; have f47 : Aside0 (x31.heap[w.heap.size + 1 + 1 + 1 + 1 + 1 + 1 + 1 + 1 + 1 + 1 + 1 + 1]? = some (.cells #[.string (⟨#[49]⟩ : ByteArray), .string (⟨#[120]⟩ : ByteArray)] 9 (0, 0))) := ⟨by rw [← hx]; exact (blk_alloc f30.out _)⟩; clear f30; have f48 : Aside0 (x31.heap[w.heap.size + 1 + 1 + 1 + 1 + 1 + 1 + 1 + 1 + 1 + 1 + 1 + 1 + 1]? = some (.cells #[.string (⟨#[49]⟩ : ByteArray), .string (⟨#[120]⟩ : ByteArray)] 9 (0, 0))) := ⟨by rw [← hx]; exact (blk_alloc f31.out _)⟩; clear f31; have f49 : Aside0 (x31.heap[w.heap.size + 1 + 1 + 1 + 1 + 1 + 1 + 1 + 1 + 1 + 1 + 1 + 1 + 1 + 1]? = some (.cells #[.slice (some ⟨w.heap.size + 1 + 1 + 1 + 1 + 1 + 1 + 1 + 1 + 1 + 1 + 1 + 1, 0, none⟩) 2 2, .slice (some ⟨w.heap.size + 1 + 1 + 1 + 1 + 1 + 1 + 1 + 1 + 1 + 1 + 1 + 1 + 1, 0, none⟩) 2 2] 22 (0, 0))) := ⟨by rw [← hx]; exact (blk_alloc f32.out _)⟩; clear f32; have f50 : Aside0 (x31.heap[w.heap.size + 1 + 1 + 1 + 1 + 1 + 1 + 1 + 1 + 1 + 1 + 1 + 1 + 1 + 1 + 1]? = some (.cells #[.slice (some ⟨w.heap.size + 1 + 1 + 1 + 1 + 1 + 1 + 1 + 1 + 1 + 1 + 1, 0, none⟩) 2 2, .slice (some ⟨w.heap.size + 1 + 1 + 1 + 1 + 1 + 1 + 1 + 1 + 1 + 1 + 1 + 1 + 1 + 1, 0, none⟩) 2 2] 25 (0, 0))) := ⟨by rw [← hx]; exact (blk_alloc f33.out _)⟩; clear f33; have f51 : Aside0 (x31.heap[w.heap.size + 1 + 1 + 1 + 1 + 1 + 1 + 1 + 1 + 1 + 1 + 1 + 1 + 1 + 1 + 1 + 1]? = some (.cells #[.slice (some ⟨w.heap.size, 0, none⟩) 2 2, .slice (some ⟨w.heap.size + 1 + 1 + 1, 0, none⟩) 2 2] 25 (0, 0))) := ⟨by rw [← hx]; exact (blk_alloc f34.out _)⟩; clear f34; have f52 : Aside0 (x31.heap[w29.heap.size]? = some (.cells #[.string (⟨#[98]⟩ : ByteArray)] 9 (0, 0))) := ⟨by rw [← hx]; exact (blk_atk rfl)⟩; have HB2 : Aside0 (Below w.heap.size w x31) := ⟨by rw [← hx]; exact (below_alloc HB.out _)⟩; have HS : Aside0 (Below w29.heap.size w29 x31) := ⟨by rw [← hx]; exact (below_alloc (Below.refl _ _) _)⟩; clear HB; have HB := Aside0.mk HB2.out; clear HB2 hx; refine (rowW A29 c29 [(⟨#[98]⟩ : ByteArray)] (some ⟨w29.heap.size, 0, none⟩) 1 x31 (Kd.C_below HC29.out HS.out) hc29 (C_blk [(⟨#[98]⟩ : ByteArray)] (by decide) f52.out) (Nat.le_refl _) row_b).mono ?_; rintro e w31 ⟨rfl, hd⟩; have f53 := Aside0.mk (blk_below f35.out hd); clear f35; have f54 := Aside0.mk (blk_below f36.out hd); clear f36; have f55 := Aside0.mk (blk_below f37.out hd); clear f37; have f56 := Aside0.mk (blk_below f38.out hd); clear f38; have f57 := Aside0.mk (blk_below f39.out hd); clear f39; have f58 := Aside0.mk (blk_below f40.out hd); clear f40; have f59 := Aside0.mk (blk_below f41.out hd); clear f41; have f60 := Aside0.mk (blk_below f42.out hd); clear f42; have f61 := Aside0.mk (blk_below f43.out hd); clear f43; have f62 := Aside0.mk (blk_below f44.out hd); clear f44; have f63 := Aside0.mk (blk_below f45.out hd); clear f45; have f64 := Aside0.mk (blk_below f46.out hd); clear f46; have f65 := Aside0.mk (blk_below f47.out hd); clear f47; have f66 := Aside0.mk (blk_below f48.out hd); clear f48; have f67 := Aside0.mk (blk_below f49.out hd); clear f49; have f68 := Aside0.mk (blk_below f50.out hd); clear f50; have f69 := Aside0.mk (blk_below f51.out hd); clear f51; have f70 := Aside0.mk (blk_below f52.out hd); clear f52; have HT := Aside0.mk (below_step HS.out hd); have HB2 := Aside0.mk (below_step HB.out hd); clear HB; have HB := Aside0.mk HB2.out; clear HB2 HS HT hd; have k71 : (w31).cell? ⟨w.heap.size + 1 + 1 + 1 + 1 + 1 + 1 + 1 + 1 + 1 + 1, 0, none⟩ = #[.slice (some ⟨w.heap.size + 1 + 1 + 1 + 1 + 1, 0, none⟩) 2 2, .slice (some ⟨w.heap.size + 1 + 1 + 1 + 1 + 1 + 1 + 1 + 1 + 1, 0, none⟩) 3 3][0]? := blk_cell f63.out 0; have k72 : (w31).cell? ⟨w.heap.size + 1 + 1 + 1 + 1 + 1 + 1 + 1 + 1 + 1 + 1, 1, none⟩ = #[.slice (some ⟨w.heap.size + 1 + 1 + 1 + 1 + 1, 0, none⟩) 2 2, .slice (some ⟨w.heap.size + 1 + 1 + 1 + 1 + 1 + 1 + 1 + 1 + 1, 0, none⟩) 3 3][1]? := blk_cell f63.out 1; have k73 : (w31.alloc (.cells #[.slice (some ⟨w.heap.size + 1 + 1 + 1 + 1 + 1, 0, none⟩) 2 2, .slice (some ⟨w.heap.size + 1 + 1 + 1 + 1 + 1 + 1 + 1 + 1 + 1, 0, none⟩) 3 3] 25 (0, 0))).cell? ⟨w.heap.size + 1 + 1 + 1 + 1 + 1 + 1 + 1 + 1 + 1 + 1, 0, none⟩ = #[.slice (some ⟨w.heap.size + 1 + 1 + 1 + 1 + 1, 0, none⟩) 2 2, .slice (some ⟨w.heap.size + 1 + 1 + 1 + 1 + 1 + 1 + 1 + 1 + 1, 0, none⟩) 3 3][0]? := blk_cell (blk_alloc f63.out _) 0; have k74 : (w31.alloc (.cells #[.slice (some ⟨w.heap.size + 1 + 1 + 1 + 1 + 1, 0, none⟩) 2 2, .slice (some ⟨w.heap.size + 1 + 1 + 1 + 1 + 1 + 1 + 1 + 1 + 1, 0, none⟩) 3 3] 25 (0, 0))).cell? ⟨w.heap.size + 1 + 1 + 1 + 1 + 1 + 1 + 1 + 1 + 1 + 1, 1, none⟩ = #[.slice (some ⟨w.heap.size + 1 + 1 + 1 + 1 + 1, 0, none⟩) 2 2, .slice (some ⟨w.heap.size + 1 + 1 + 1 + 1 + 1 + 1 + 1 + 1 + 1, 0, none⟩) 3 3][1]? := blk_cell (blk_alloc f63.out _) 1; have st2 : True := trivial)
    | (go_at_call 21; clear st2; refine name_world (fun x36 hx => ?_); have f75 : Aside0 (x36.heap[w.heap.size]? = some (.cells #[.string (⟨#[97]⟩ : ByteArray), .string (⟨#[98]⟩ : ByteArray)] 9 (0, 0))) := ⟨by rw [← hx]; exact (blk_alloc f53.out _)⟩; clear f53; have f76 : Aside0 (x36.heap[w.heap.size + 1]? = some (.cells #[.string (⟨#[49]⟩ : ByteArray), .string (⟨#[120]⟩ : ByteArray)] 9 (0, 0))) := ⟨by rw [← hx]; exact (blk_alloc f54.out _)⟩; clear f54; have f77 : Aside0 (x36.heap[w.heap.size + 1 + 1]? = some (.cells #[.string (⟨#[49]⟩ : ByteArray), .string (⟨#[121]⟩ : ByteArray)] 9 (0, 0))) := ⟨by rw [← hx]; exact (blk_alloc f55.out _)⟩; clear f55; have f78 : Aside0 (x36.heap[w.heap.size + 1 + 1 + 1]? = some (.cells #[.slice (some ⟨w.heap.size + 1, 0, none⟩) 2 2, .slice (some ⟨w.heap.size + 1 + 1, 0, none⟩) 2 2] 22 (0, 0))) := ⟨by rw [← hx]; exact (blk_alloc f56.out _)⟩; clear f56; have f79 : Aside0 (x36.heap[w.heap.size + 1 + 1 + 1 + 1]? = some (.cells #[.slice (some ⟨w.heap.size, 0, none⟩) 2 2, .slice (some ⟨w.heap.size + 1 + 1 + 1, 0, none⟩) 2 2] 25 (0, 0))) := ⟨by rw [← hx]; exact (blk_alloc f57.out _)⟩; clear f57; have f80 : Aside0 (x36.heap[w.heap.size + 1 + 1 + 1 + 1 + 1]? = some (.cells #[.string (⟨#[97]⟩ : ByteArray), .string (⟨#[98]⟩ : ByteArray)] 9 (0, 0))) := ⟨by rw [← hx]; exact (blk_alloc f58.out _)⟩; clear f58; have f81 : Aside0 (x36.heap[w.heap.size + 1 + 1 + 1 + 1 + 1 + 1]? = some (.cells #[.string (⟨#[49]⟩ : ByteArray), .string (⟨#[120]⟩ : ByteArray)] 9 (0, 0))) := ⟨by rw [← hx]; exact (blk_alloc f59.out _)⟩; clear f59; have f82 : Aside0 (x36.heap[w.heap.size + 1 + 1 + 1 + 1 + 1 + 1 + 1]? = some (.cells #[.string (⟨#[49]⟩ : ByteArray), .string (⟨#[121]⟩ : ByteArray)] 9 (0, 0))) := ⟨by rw [← hx]; exact (blk_alloc f60.out _)⟩; clear f60; have f83 : Aside0 (x36.heap[w.heap.size + 1 + 1 + 1 + 1 + 1 + 1 + 1 + 1]? = some (.cells #[.string (⟨#[50]⟩ : ByteArray), .string (⟨#[120]⟩ : ByteArray)] 9 (0, 0))) := ⟨by rw [← hx]; exact (blk_alloc f61.out _)⟩; clear f61; have f84 : Aside0 (x36.heap[w.heap.size + 1 + 1 + 1 + 1 + 1 + 1 + 1 + 1 + 1]? = some (.cells #[.slice (some ⟨w.heap.size + 1 + 1 + 1 + 1 + 1 + 1, 0, none⟩) 2 2, .slice (some ⟨w.heap.size + 1 + 1 + 1 + 1 + 1 + 1 + 1, 0, none⟩) 2 2, .slice (some ⟨w.heap.size + 1 + 1 + 1 + 1 + 1 + 1 + 1 + 1, 0, none⟩) 2 2] 22 (0, 0))) := ⟨by rw [← hx]; exact (blk_alloc f62.out _)⟩; clear f62; have f85 : Aside0 (x36.heap[w.heap.size + 1 + 1 + 1 + 1 + 1 + 1 + 1 + 1 + 1 + 1]? = some (.cells #[.slice (some ⟨w.heap.size + 1 + 1 + 1 + 1 + 1, 0, none⟩) 2 2, .slice (some ⟨w.heap.size + 1 + 1 + 1 + 1 + 1 + 1 + 1 + 1 + 1, 0, none⟩) 3 3] 25 (0, 0))) := ⟨by rw [← hx]; exact (blk_alloc f63.out _)⟩; clear f63; have f86 : Aside0 (x36.heap[w.heap.size + 1 + 1 + 1 + 1 + 1 + 1 + 1 + 1 + 1 + 1 + 1]? = some (.cells #[.string (⟨#[97]⟩ : ByteArray), .string (⟨#[98]⟩ : ByteArray)] 9 (0, 0))) := ⟨by rw [← hx]; exact (blk_alloc f64.out _)⟩; clear f64; have f87 : Aside0 (x36.heap[w.heap.size + 1 + 1 + 1 + 1 + 1 + 1 + 1 + 1 + 1 + 1 + 1 + 1]? = some (.cells #[.string (⟨#[49]⟩ : ByteArray), .string (⟨#[120]⟩ : ByteArray)] 9 (0, 0))) := ⟨by rw [← hx]; exact (blk_alloc f65.out _)⟩; clear f65; have f88 : Aside0 (x36.heap[w.heap.size + 1 + 1 + 1 + 1 + 1 + 1 + 1 + 1 + 1 + 1 + 1 + 1 + 1]? = some (.cells #[.string (⟨#[49]⟩ : ByteArray), .string (⟨#[120]⟩ : ByteArray)] 9 (0, 0))) := ⟨by rw [← hx]; exact (blk_alloc f66.out _)⟩; clear f66; have f89 : Aside0 (x36.heap[w.heap.size + 1 + 1 + 1 + 1 + 1 + 1 + 1 + 1 + 1 + 1 + 1 + 1 + 1 + 1]? = some (.cells #[.slice (some ⟨w.heap.size + 1 + 1 + 1 + 1 + 1 + 1 + 1 + 1 + 1 + 1 + 1 + 1, 0, none⟩) 2 2, .slice (some ⟨w.heap.size + 1 + 1 + 1 + 1 + 1 + 1 + 1 + 1 + 1 + 1 + 1 + 1 + 1, 0, none⟩) 2 2] 22 (0, 0))) := ⟨by rw [← hx]; exact (blk_alloc f67.out _)⟩; clear f67; have f90 : Aside0 (x36.heap[w.heap.size + 1 + 1 + 1 + 1 + 1 + 1 + 1 + 1 + 1 + 1 + 1 + 1 + 1 + 1 + 1]? = some (.cells #[.slice (some ⟨w.heap.size + 1 + 1 + 1 + 1 + 1 + 1 + 1 + 1 + 1 + 1 + 1, 0, none⟩) 2 2, .slice (some ⟨w.heap.size + 1 + 1 + 1 + 1 + 1 + 1 + 1 + 1 + 1 + 1 + 1 + 1 + 1 + 1, 0, none⟩) 2 2] 25 (0, 0))) := ⟨by rw [← hx]; exact (blk_alloc f68.out _)⟩; clear f68; have f91 : Aside0 (x36.heap[w.heap.size + 1 + 1 + 1 + 1 + 1 + 1 + 1 + 1 + 1 + 1 + 1 + 1 + 1 + 1 + 1 + 1]? = some (.cells #[.slice (some ⟨w.heap.size, 0, none⟩) 2 2, .slice (some ⟨w.heap.size + 1 + 1 + 1, 0, none⟩) 2 2] 25 (0, 0))) := ⟨by rw [← hx]; exact (blk_alloc f69.out _)⟩; clear f69; have f92 : Aside0 (x36.heap[w29.heap.size]? = some (.cells #[.string (⟨#[98]⟩ : ByteArray)] 9 (0, 0))) := ⟨by rw [← hx]; exact (blk_alloc f70.out _)⟩; clear f70; have f93 : Aside0 (x36.heap[w31.heap.size]? = some (.cells #[.slice (some ⟨w.heap.size + 1 + 1 + 1 + 1 + 1, 0, none⟩) 2 2, .slice (some ⟨w.heap.size + 1 + 1 + 1 + 1 + 1 + 1 + 1 + 1 + 1, 0, none⟩) 3 3] 25 (0, 0))) := ⟨by rw [← hx]; exact (blk_atk rfl)⟩; have HB2 : Aside0 (Below w.heap.size w x36) := ⟨by rw [← hx]; exact (below_alloc HB.out _)⟩; have HS : Aside0 (Below w31.heap.size w31 x36) := ⟨by rw [← hx]; exact (below_alloc (Below.refl _ _) _)⟩; clear HB; have HB := Aside0.mk HB2.out; clear HB2 hx; refine (infer_calls (some ⟨w31.heap.size, 0, none⟩) 1 [uW] (some ⟨w.heap.size + 1 + 1 + 1 + 1 + 1, 0, none⟩) 2 hW x36 (TabC.one (T := uW) ⟨Nat.le_refl _, (C_blk hW (by decide) f80.out), Nat.le_refl _, (C_rows _ (by decide) (fun j r hj => match j, hj with | 0, hj => by simp at hj; subst hj; exact ⟨_, 2, blk_cell f84.out 0, Nat.le_refl _, C_blk _ (by decide) f81.out⟩ | 1, hj => by simp at hj; subst hj; exact ⟨_, 2, blk_cell f84.out 1, Nat.le_refl _, C_blk _ (by decide) f82.out⟩ | 2, hj => by simp at hj; subst hj; exact ⟨_, 2, blk_cell f84.out 2, Nat.le_refl _, C_blk _ (by decide) f83.out⟩ | j + 3, hj => by simp at hj))⟩ (blk_cell f93.out 0) (blk_cell f93.out 1)) (C_blk hW (by decide) f80.out) (Nat.le_refl _) (by decide) (by decide) ok_u).mono ?_; rintro e w36 ⟨v36, rfl, ho, hd⟩; have f94 := Aside0.mk (blk_below f75.out hd); clear f75; have f95 := Aside0.mk (blk_below f76.out hd); clear f76; have f96 := Aside0.mk (blk_below f77.out hd); clear f77; have f97 := Aside0.mk (blk_below f78.out hd); clear f78; have f98 := Aside0.mk (blk_below f79.out hd); clear f79; have f99 := Aside0.mk (blk_below f80.out hd); clear f80; have f100 := Aside0.mk (blk_below f81.out hd); clear f81; have f101 := Aside0.mk (blk_below f82.out hd); clear f82; have f102 := Aside0.mk (blk_below f83.out hd); clear f83; have f103 := Aside0.mk (blk_below f84.out hd); clear f84; have f104 := Aside0.mk (blk_below f85.out hd); clear f85; have f105 := Aside0.mk (blk_below f86.out hd); clear f86; have f106 := Aside0.mk (blk_below f87.out hd); clear f87; have f107 := Aside0.mk (blk_below f88.out hd); clear f88; have f108 := Aside0.mk (blk_below f89.out hd); clear f89; have f109 := Aside0.mk (blk_below f90.out hd); clear f90; have f110 := Aside0.mk (blk_below f91.out hd); clear f91; have f111 := Aside0.mk (blk_below f92.out hd); clear f92; have f112 := Aside0.mk (blk_below f93.out hd); clear f93; have HT := Aside0.mk (below_step HS.out hd); have HB2 := Aside0.mk (below_step HB.out hd); clear HB; have HB := Aside0.mk HB2.out; clear HB2 HS HT hd; rw [inf_u] at ho; obtain ⟨A36, c36, rfl, hc36, hC36⟩ := Kd.R_reads ho; have HC36 := Aside0.mk hC36; clear ho hC36; have st3 : True := trivial)
    | (go_at_call 20; clear st3; refine name_world (fun x38 hx => ?_); have f113 : Aside0 (x38.heap[w.heap.size]? = some (.cells #[.string (⟨#[97]⟩ : ByteArray), .string (⟨#[98]⟩ : ByteArray)] 9 (0, 0))) := ⟨by rw [← hx]; exact (blk_alloc f94.out _)⟩; clear f94; have f114 : Aside0 (x38.heap[w.heap.size + 1]? = some (.cells #[.string (⟨#[49]⟩ : ByteArray), .string (⟨#[120]⟩ : ByteArray)] 9 (0, 0))) := ⟨by rw [← hx]; exact (blk_alloc f95.out _)⟩; clear f95; have f115 : Aside0 (x38.heap[w.heap.size + 1 + 1]? = some (.cells #[.string (⟨#[49]⟩ : ByteArray), .string (⟨#[121]⟩ : ByteArray)] 9 (0, 0))) := ⟨by rw [← hx]; exact (blk_alloc f96.out _)⟩; clear f96; have f116 : Aside0 (x38.heap[w.heap.size + 1 + 1 + 1]? = some (.cells #[.slice (some ⟨w.heap.size + 1, 0, none⟩) 2 2, .slice (some ⟨w.heap.size + 1 + 1, 0, none⟩) 2 2] 22 (0, 0))) := ⟨by rw [← hx]; exact (blk_alloc f97.out _)⟩; clear f97; have f117 : Aside0 (x38.heap[w.heap.size + 1 + 1 + 1 + 1]? = some (.cells #[.slice (some ⟨w.heap.size, 0, none⟩) 2 2, .slice (some ⟨w.heap.size + 1 + 1 + 1, 0, none⟩) 2 2] 25 (0, 0))) := ⟨by rw [← hx]; exact (blk_alloc f98.out _)⟩; clear f98; have f118 : Aside0 (x38.heap[w.heap.size + 1 + 1 + 1 + 1 + 1]? = some (.cells #[.string (⟨#[97]⟩ : ByteArray), .string (⟨#[98]⟩ : ByteArray)] 9 (0, 0))) := ⟨by rw [← hx]; exact (blk_alloc f99.out _)⟩; clear f99; have f119 : Aside0 (x38.heap[w.heap.size + 1 + 1 + 1 + 1 + 1 + 1]? = some (.cells #[.string (⟨#[49]⟩ : ByteArray), .string (⟨#[120]⟩ : ByteArray)] 9 (0, 0))) := ⟨by rw [← hx]; exact (blk_alloc f100.out _)⟩; clear f100; have f120 : Aside0 (x38.heap[w.heap.size + 1 + 1 + 1 + 1 + 1 + 1 + 1]? = some (.cells #[.string (⟨#[49]⟩ : ByteArray), .string (⟨#[121]⟩ : ByteArray)] 9 (0, 0))) := ⟨by rw [← hx]; exact (blk_alloc f101.out _)⟩; clear f101; have f121 : Aside0 (x38.heap[w.heap.size + 1 + 1 + 1 + 1 + 1 + 1 + 1 + 1]? = some (.cells #[.string (⟨#[50]⟩ : ByteArray), .string (⟨#[120]⟩ : ByteArray)] 9 (0, 0))) := ⟨by rw [← hx]; exact (blk_alloc f102.out _)⟩; clear f102; have f122 : Aside0 (x38.heap[w.heap.size + 1 + 1 + 1 + 1 + 1 + 1 + 1 + 1 + 1]? = some (.cells #[.slice (some ⟨w.heap.size + 1 + 1 + 1 + 1 + 1 + 1, 0, none⟩) 2 2, .slice (some ⟨w.heap.size + 1 + 1 + 1 + 1 + 1 + 1 + 1, 0, none⟩) 2 2, .slice (some ⟨w.heap.size + 1 + 1 + 1 + 1 + 1 + 1 + 1 + 1, 0, none⟩) 2 2] 22 (0, 0))) := ⟨by rw [← hx]; exact (blk_alloc f103.out _)⟩; clear f103; have f123 : Aside0 (x38.heap[w.heap.size + 1 + 1 + 1 + 1 + 1 + 1 + 1 + 1 + 1 + 1]? = some (.cells #[.slice (some ⟨w.heap.size + 1 + 1 + 1 + 1 + 1, 0, none⟩) 2 2, .slice (some ⟨w.heap.size + 1 + 1 + 1 + 1 + 1 + 1 + 1 + 1 + 1, 0, none⟩) 3 3] 25 (0, 0))) := ⟨by rw [← hx]; exact (blk_alloc f104.out _)⟩; clear f104; have f124 : Aside0 (x38.heap[w.heap.size + 1 + 1 + 1 + 1 + 1 + 1 + 1 + 1 + 1 + 1 + 1]? = some (.cells #[.string (⟨#[97]⟩ : ByteArray), .string (⟨#[98]⟩ : ByteArray)] 9 (0, 0))) := ⟨by rw [← hx]; exact (blk_alloc f105.out _)⟩; clear f105; have f125 : Aside0 (x38.heap[w.heap.size + 1 + 1 + 1 + 1 + 1 + 1 + 1 + 1 + 1 + 1 + 1 + 1]? = some (.cells #[.string (⟨#[49]⟩ : ByteArray), .string (⟨#[120]⟩ : ByteArray)] 9 (0, 0))) := ⟨by rw [← hx]; exact (blk_alloc f106.out _)⟩; clear f106; have f126 : Aside0 (x38.heap[w.heap.size + 1 + 1 + 1 + 1 + 1 + 1 + 1 + 1 + 1 + 1 + 1 + 1 + 1]? = some (.cells #[.string (⟨#[49]⟩ : ByteArray), .string (⟨#[120]⟩ : ByteArray)] 9 (0, 0))) := ⟨by rw [← hx]; exact (blk_alloc f107.out _)⟩; clear f107; have f127 : Aside0 (x38.heap[w.heap.size + 1 + 1 + 1 + 1 + 1 + 1 + 1 + 1 + 1 + 1 + 1 + 1 + 1 + 1]? = some (.cells #[.slice (some ⟨w.heap.size + 1 + 1 + 1 + 1 + 1 + 1 + 1 + 1 + 1 + 1 + 1 + 1, 0, none⟩) 2 2, .slice (some ⟨w.heap.size + 1 + 1 + 1 + 1 + 1 + 1 + 1 + 1 + 1 + 1 + 1 + 1 + 1, 0, none⟩) 2 2] 22 (0, 0))) := ⟨by rw [← hx]; exact (blk_alloc f108.out _)⟩; clear f108; have f128 : Aside0 (x38.heap[w.heap.size + 1 + 1 + 1 + 1 + 1 + 1 + 1 + 1 + 1 + 1 + 1 + 1 + 1 + 1 + 1]? = some (.cells #[.slice (some ⟨w.heap.size + 1 + 1 + 1 + 1 + 1 + 1 + 1 + 1 + 1 + 1 + 1, 0, none⟩) 2 2, .slice (some ⟨w.heap.size + 1 + 1 + 1 + 1 + 1 + 1 + 1 + 1 + 1 + 1 + 1 + 1 + 1 + 1, 0, none⟩) 2 2] 25 (0, 0))) := ⟨by rw [← hx]; exact (blk_alloc f109.out _)⟩; clear f109; have f129 : Aside0 (x38.heap[w.heap.size + 1 + 1 + 1 + 1 + 1 + 1 + 1 + 1 + 1 + 1 + 1 + 1 + 1 + 1 + 1 + 1]? = some (.cells #[.slice (some ⟨w.heap.size, 0, none⟩) 2 2, .slice (some ⟨w.heap.size + 1 + 1 + 1, 0, none⟩) 2 2] 25 (0, 0))) := ⟨by rw [← hx]; exact (blk_alloc f110.out _)⟩; clear f110; have f130 : Aside0 (x38.heap[w29.heap.size]? = some (.cells #[.string (⟨#[98]⟩ : ByteArray)] 9 (0, 0))) := ⟨by rw [← hx]; exact (blk_alloc f111.out _)⟩; clear f111; have f131 : Aside0 (x38.heap[w31.heap.size]? = some (.cells #[.slice (some ⟨w.heap.size + 1 + 1 + 1 + 1 + 1, 0, none⟩) 2 2, .slice (some ⟨w.heap.size + 1 + 1 + 1 + 1 + 1 + 1 + 1 + 1 + 1, 0, none⟩) 3 3] 25 (0, 0))) := ⟨by rw [← hx]; exact (blk_alloc f112.out _)⟩; clear f112; have f132 : Aside0 (x38.heap[w36.heap.size]? = some (.cells #[.string (⟨#[97]⟩ : ByteArray), .string (⟨#[98]⟩ : ByteArray)] 9 (0, 0))) := ⟨by rw [← hx]; exact (blk_atk rfl)⟩; have HB2 : Aside0 (Below w.heap.size w x38) := ⟨by rw [← hx]; exact (below_alloc HB.out _)⟩; have HS : Aside0 (Below w36.heap.size w36 x38) := ⟨by rw [← hx]; exact (below_alloc (Below.refl _ _) _)⟩; clear HB; have HB := Aside0.mk HB2.out; clear HB2 hx; refine (rowW A36 c36 hW (some ⟨w36.heap.size, 0, none⟩) 2 x38 (Kd.C_below HC36.out HS.out) hc36 (C_blk hW (by decide) f132.out) (Nat.le_refl _) row_h).mono ?_; rintro e w38 ⟨rfl, hd⟩; have f133 := Aside0.mk (blk_below f113.out hd); clear f113; have f134 := Aside0.mk (blk_below f114.out hd); clear f114; have f135 := Aside0.mk (blk_below f115.out hd); clear f115; have f136 := Aside0.mk (blk_below f116.out hd); clear f116; have f137 := Aside0.mk (blk_below f117.out hd); clear f117; have f138 := Aside0.mk (blk_below f118.out hd); clear f118; have f139 := Aside0.mk (blk_below f119.out hd); clear f119; have f140 := Aside0.mk (blk_below f120.out hd); clear f120; have f141 := Aside0.mk (blk_below f121.out hd); clear f121; have f142 := Aside0.mk (blk_below f122.out hd); clear f122; have f143 := Aside0.mk (blk_below f123.out hd); clear f123; have f144 := Aside0.mk (blk_below f124.out hd); clear f124; have f145 := Aside0.mk (blk_below f125.out hd); clear f125; have f146 := Aside0.mk (blk_below f126.out hd); clear f126; have f147 := Aside0.mk (blk_below f127.out hd); clear f127; have f148 := Aside0.mk (blk_below f128.out hd); clear f128; have f149 := Aside0.mk (blk_below f129.out hd); clear f129; have f150 := Aside0.mk (blk_below f130.out hd); clear f130; have f151 := Aside0.mk (blk_below f131.out hd); clear f131; have f152 := Aside0.mk (blk_below f132.out hd); clear f132; have HT := Aside0.mk (below_step HS.out hd); have HB2 := Aside0.mk (below_step HB.out hd); clear HB; have HB := Aside0.mk HB2.out; clear HB2 HS HT hd; have k153 : (w38).cell? ⟨w.heap.size + 1 + 1 + 1 + 1, 0, none⟩ = #[.slice (some ⟨w.heap.size, 0, none⟩) 2 2, .slice (some ⟨w.heap.size + 1 + 1 + 1, 0, none⟩) 2 2][0]? := blk_cell f137.out 0; have k154 : (w38).cell? ⟨w.heap.size + 1 + 1 + 1 + 1, 1, none⟩ = #[.slice (some ⟨w.heap.size, 0, none⟩) 2 2, .slice (some ⟨w.heap.size + 1 + 1 + 1, 0, none⟩) 2 2][1]? := blk_cell f137.out 1; have st4 : True := trivial)
    | (go_at_call 16; clear st4; refine name_world (fun x42 hx => ?_); have f155 : Aside0 (x42.heap[w.heap.size]? = some (.cells #[.string (⟨#[97]⟩ : ByteArray), .string (⟨#[98]⟩ : ByteArray)] 9 (0, 0))) := ⟨by rw [← hx]; exact (blk_alloc f133.out _)⟩; clear f133; have f156 : Aside0 (x42.heap[w.heap.size + 1]? = some (.cells #[.string (⟨#[49]⟩ : ByteArray), .string (⟨#[120]⟩ : ByteArray)] 9 (0, 0))) := ⟨by rw [← hx]; exact (blk_alloc f134.out _)⟩; clear f134; have f157 : Aside0 (x42.heap[w.heap.size + 1 + 1]? = some (.cells #[.string (⟨#[49]⟩ : ByteArray), .string (⟨#[121]⟩ : ByteArray)] 9 (0, 0))) := ⟨by rw [← hx]; exact (blk_alloc f135.out _)⟩; clear f135; have f158 : Aside0 (x42.heap[w.heap.size + 1 + 1 + 1]? = some (.cells #[.slice (some ⟨w.heap.size + 1, 0, none⟩) 2 2, .slice (some ⟨w.heap.size + 1 + 1, 0, none⟩) 2 2] 22 (0, 0))) := ⟨by rw [← hx]; exact (blk_alloc f136.out _)⟩; clear f136; have f159 : Aside0 (x42.heap[w.heap.size + 1 + 1 + 1 + 1]? = some (.cells #[.slice (some ⟨w.heap.size, 0, none⟩) 2 2, .slice (some ⟨w.heap.size + 1 + 1 + 1, 0, none⟩) 2 2] 25 (0, 0))) := ⟨by rw [← hx]; exact (blk_alloc f137.out _)⟩; clear f137; have f160 : Aside0 (x42.heap[w.heap.size + 1 + 1 + 1 + 1 + 1]? = some (.cells #[.string (⟨#[97]⟩ : ByteArray), .string (⟨#[98]⟩ : ByteArray)] 9 (0, 0))) := ⟨by rw [← hx]; exact (blk_alloc f138.out _)⟩; clear f138; have f161 : Aside0 (x42.heap[w.heap.size + 1 + 1 + 1 + 1 + 1 + 1]? = some (.cells #[.string (⟨#[49]⟩ : ByteArray), .string (⟨#[120]⟩ : ByteArray)] 9 (0, 0))) := ⟨by rw [← hx]; exact (blk_alloc f139.out _)⟩; clear f139; have f162 : Aside0 (x42.heap[w.heap.size + 1 + 1 + 1 + 1 + 1 + 1 + 1]? = some (.cells #[.string (⟨#[49]⟩ : ByteArray), .string (⟨#[121]⟩ : ByteArray)] 9 (0, 0))) := ⟨by rw [← hx]; exact (blk_alloc f140.out _)⟩; clear f140; have f163 : Aside0 (x42.heap[w.heap.size + 1 + 1 + 1 + 1 + 1 + 1 + 1 + 1]? = some (.cells #[.string (⟨#[50]⟩ : ByteArray), .string (⟨#[120]⟩ : ByteArray)] 9 (0, 0))) := ⟨by rw [← hx]; exact (blk_alloc f141.out _)⟩; clear f141; have f164 : Aside0 (x42.heap[w.heap.size + 1 + 1 + 1 + 1 + 1 + 1 + 1 + 1 + 1]? = some (.cells #[.slice (some ⟨w.heap.size + 1 + 1 + 1 + 1 + 1 + 1, 0, none⟩) 2 2, .slice (some ⟨w.heap.size + 1 + 1 + 1 + 1 + 1 + 1 + 1, 0, none⟩) 2 2, .slice (some ⟨w.heap.size + 1 + 1 + 1 + 1 + 1 + 1 + 1 + 1, 0, none⟩) 2 2] 22 (0, 0))) := ⟨by rw [← hx]; exact (blk_alloc f142.out _)⟩; clear f142; have f165 : Aside0 (x42.heap[w.heap.size + 1 + 1 + 1 + 1 + 1 + 1 + 1 + 1 + 1 + 1]? = some (.cells #[.slice (some ⟨w.heap.size + 1 + 1 + 1 + 1 + 1, 0, none⟩) 2 2, .slice (some ⟨w.heap.size + 1 + 1 + 1 + 1 + 1 + 1 + 1 + 1 + 1, 0, none⟩) 3 3] 25 (0, 0))) := ⟨by rw [← hx]; exact (blk_alloc f143.out _)⟩; clear f143; have f166 : Aside0 (x42.heap[w.heap.size + 1 + 1 + 1 + 1 + 1 + 1 + 1 + 1 + 1 + 1 + 1]? = some (.cells #[.string (⟨#[97]⟩ : ByteArray), .string (⟨#[98]⟩ : ByteArray)] 9 (0, 0))) := ⟨by rw [← hx]; exact (blk_alloc f144.out _)⟩; clear f144; have f167 : Aside0 (x42.heap[w.heap.size + 1 + 1 + 1 + 1 + 1 + 1 + 1 + 1 + 1 + 1 + 1 + 1]? = some (.cells #[.string (⟨#[49]⟩ : ByteArray), .string (⟨#[120]⟩ : ByteArray)] 9 (0, 0))) := ⟨by rw [← hx]; exact (blk_alloc f145.out _)⟩; clear f145; have f168 : Aside0 (x42.heap[w.heap.size + 1 + 1 + 1 + 1 + 1 + 1 + 1 + 1 + 1 + 1 + 1 + 1 + 1]? = some (.cells #[.string (⟨#[49]⟩ : ByteArray), .string (⟨#[120]⟩ : ByteArray)] 9 (0, 0))) := ⟨by rw [← hx]; exact (blk_alloc f146.out _)⟩; clear f146; have f169 : Aside0 (x42.heap[w.heap.size + 1 + 1 + 1 + 1 + 1 + 1 + 1 + 1 + 1 + 1 + 1 + 1 + 1 + 1]? = some (.cells #[.slice (some ⟨w.heap.size + 1 + 1 + 1 + 1 + 1 + 1 + 1 + 1 + 1 + 1 + 1 + 1, 0, none⟩) 2 2, .slice (some ⟨w.heap.size + 1 + 1 + 1 + 1 + 1 + 1 + 1 + 1 + 1 + 1 + 1 + 1 + 1, 0, none⟩) 2 2] 22 (0, 0))) := ⟨by rw [← hx]; exact (blk_alloc f147.out _)⟩; clear f147; have f170 : Aside0 (x42.heap[w.heap.size + 1 + 1 + 1 + 1 + 1 + 1 + 1 + 1 + 1 + 1 + 1 + 1 + 1 + 1 + 1]? = some (.cells #[.slice (some ⟨w.heap.size + 1 + 1 + 1 + 1 + 1 + 1 + 1 + 1 + 1 + 1 + 1, 0, none⟩) 2 2, .slice (some ⟨w.heap.size + 1 + 1 + 1 + 1 + 1 + 1 + 1 + 1 + 1 + 1 + 1 + 1 + 1 + 1, 0, none⟩) 2 2] 25 (0, 0))) := ⟨by rw [← hx]; exact (blk_alloc f148.out _)⟩; clear f148; have f171 : Aside0 (x42.heap[w.heap.size + 1 + 1 + 1 + 1 + 1 + 1 + 1 + 1 + 1 + 1 + 1 + 1 + 1 + 1 + 1 + 1]? = some (.cells #[.slice (some ⟨w.heap.size, 0, none⟩) 2 2, .slice (some ⟨w.heap.size + 1 + 1 + 1, 0, none⟩) 2 2] 25 (0, 0))) := ⟨by rw [← hx]; exact (blk_alloc f149.out _)⟩; clear f149; have f172 : Aside0 (x42.heap[w29.heap.size]? = some (.cells #[.string (⟨#[98]⟩ : ByteArray)] 9 (0, 0))) := ⟨by rw [← hx]; exact (blk_alloc f150.out _)⟩; clear f150; have f173 : Aside0 (x42.heap[w31.heap.size]? = some (.cells #[.slice (some ⟨w.heap.size + 1 + 1 + 1 + 1 + 1, 0, none⟩) 2 2, .slice (some ⟨w.heap.size + 1 + 1 + 1 + 1 + 1 + 1 + 1 + 1 + 1, 0, none⟩) 3 3] 25 (0, 0))) := ⟨by rw [← hx]; exact (blk_alloc f151.out _)⟩; clear f151; have f174 : Aside0 (x42.heap[w36.heap.size]? = some (.cells #[.string (⟨#[97]⟩ : ByteArray), .string (⟨#[98]⟩ : ByteArray)] 9 (0, 0))) := ⟨by rw [← hx]; exact (blk_alloc f152.out _)⟩; clear f152; have f175 : Aside0 (x42.heap[w38.heap.size]? = some (.cells #[.string (⟨#[98]⟩ : ByteArray)] 9 (0, 0))) := ⟨by rw [← hx]; exact (blk_atk rfl)⟩; have HB2 : Aside0 (Below w.heap.size w x42) := ⟨by rw [← hx]; exact (below_alloc HB.out _)⟩; have HS : Aside0 (Below w38.heap.size w38 x42) := ⟨by rw [← hx]; exact (below_alloc (Below.refl _ _) _)⟩; clear HB; have HB := Aside0.mk HB2.out; clear HB2 hx; refine (keys_Places.calls 2000003 (some ⟨w.heap.size, 0, none⟩) 2 hW (some ⟨w.heap.size + 1 + 1 + 1, 0, none⟩) 2 tW.f1 (some ⟨w38.heap.size, 0, none⟩) 1 [(⟨#[98]⟩ : ByteArray)] [1] true x42 (C_blk hW (by decide) f155.out) (Nat.le_refl _) (C_rows _ (by decide) (fun j r hj => match j, hj with | 0, hj => by simp at hj; subst hj; exact ⟨_, 2, blk_cell f158.out 0, Nat.le_refl _, C_blk _ (by decide) f156.out⟩ | 1, hj => by simp at hj; subst hj; exact ⟨_, 2, blk_cell f158.out 1, Nat.le_refl _, C_blk _ (by decide) f157.out⟩ | j + 2, hj => by simp at hj)) (Nat.le_refl _) (C_blk [(⟨#[98]⟩ : ByteArray)] (by decide) f175.out) (Nat.le_refl _) ((places_some hW tW.f1 [(⟨#[98]⟩ : ByteArray)] (by decide) (by decide) (k := 2000003) (by decide)).trans (by rw [pl_t]))).mono ?_; rintro e w42 ⟨v42, rfl, ho, hd⟩; have f176 := Aside0.mk (blk_below f155.out hd); clear f155; have f177 := Aside0.mk (blk_below f156.out hd); clear f156; have f178 := Aside0.mk (blk_below f157.out hd); clear f157; have f179 := Aside0.mk (blk_below f158.out hd); clear f158; have f180 := Aside0.mk (blk_below f159.out hd); clear f159; have f181 := Aside0.mk (blk_below f160.out hd); clear f160; have f182 := Aside0.mk (blk_below f161.out hd); clear f161; have f183 := Aside0.mk (blk_below f162.out hd); clear f162; have f184 := Aside0.mk (blk_below f163.out hd); clear f163; have f185 := Aside0.mk (blk_below f164.out hd); clear f164; have f186 := Aside0.mk (blk_below f165.out hd); clear f165; have f187 := Aside0.mk (blk_below f166.out hd); clear f166; have f188 := Aside0.mk (blk_below f167.out hd); clear f167; have f189 := Aside0.mk (blk_below f168.out hd); clear f168; have f190 := Aside0.mk (blk_below f169.out hd); clear f169; have f191 := Aside0.mk (blk_below f170.out hd); clear f170; have f192 := Aside0.mk (blk_below f171.out hd); clear f171; have f193 := Aside0.mk (blk_below f172.out hd); clear f172; have f194 := Aside0.mk (blk_below f173.out hd); clear f173; have f195 := Aside0.mk (blk_below f174.out hd); clear f174; have f196 := Aside0.mk (blk_below f175.out hd); clear f175; have HT := Aside0.mk (below_step HS.out hd); have HB2 := Aside0.mk (below_step HB.out hd); clear HB; have HB := Aside0.mk HB2.out; clear HB2 HS HT hd; obtain ⟨A42, c42, rfl, hc42, hC42⟩ := Kd.R_reads ho; obtain ⟨ad42, e42, hx42⟩ := intAt hC42 (t := 0) (by decide); cases e42; rw [show ad42.add 0 = ad42 by simp [Addr.add]] at hx42; have HX42 : Aside0 (w42.cell? ad42 = some (.int .i64 1)) := ⟨hx42⟩; clear ho hC42 hx42; have k197 : (w42).cell? ⟨w.heap.size + 1 + 1 + 1 + 1, 0, none⟩ = #[.slice (some ⟨w.heap.size, 0, none⟩) 2 2, .slice (some ⟨w.heap.size + 1 + 1 + 1, 0, none⟩) 2 2][0]? := blk_cell f180.out 0; have k198 : (w42).cell? ⟨w.heap.size + 1 + 1 + 1 + 1, 1, none⟩ = #[.slice (some ⟨w.heap.size, 0, none⟩) 2 2, .slice (some ⟨w.heap.size + 1 + 1 + 1, 0, none⟩) 2 2][1]? := blk_cell f180.out 1; have st5 : True := trivial)
    | (go_at_call 23; clear st5; refine name_world (fun x48 hx => ?_); have f199 : Aside0 (x48.heap[w.heap.size]? = some (.cells #[.string (⟨#[97]⟩ : ByteArray), .string (⟨#[98]⟩ : ByteArray)] 9 (0, 0))) := ⟨by rw [← hx]; exact (blk_alloc (blk_alloc f176.out _) _)⟩; clear f176; have f200 : Aside0 (x48.heap[w.heap.size + 1]? = some (.cells #[.string (⟨#[49]⟩ : ByteArray), .string (⟨#[120]⟩ : ByteArray)] 9 (0, 0))) := ⟨by rw [← hx]; exact (blk_alloc (blk_alloc f177.out _) _)⟩; clear f177; have f201 : Aside0 (x48.heap[w.heap.size + 1 + 1]? = some (.cells #[.string (⟨#[49]⟩ : ByteArray), .string (⟨#[121]⟩ : ByteArray)] 9 (0, 0))) := ⟨by rw [← hx]; exact (blk_alloc (blk_alloc f178.out _) _)⟩; clear f178; have f202 : Aside0 (x48.heap[w.heap.size + 1 + 1 + 1]? = some (.cells #[.slice (some ⟨w.heap.size + 1, 0, none⟩) 2 2, .slice (some ⟨w.heap.size + 1 + 1, 0, none⟩) 2 2] 22 (0, 0))) := ⟨by rw [← hx]; exact (blk_alloc (blk_alloc f179.out _) _)⟩; clear f179; have f203 : Aside0 (x48.heap[w.heap.size + 1 + 1 + 1 + 1]? = some (.cells #[.slice (some ⟨w.heap.size, 0, none⟩) 2 2, .slice (some ⟨w.heap.size + 1 + 1 + 1, 0, none⟩) 2 2] 25 (0, 0))) := ⟨by rw [← hx]; exact (blk_alloc (blk_alloc f180.out _) _)⟩; clear f180; have f204 : Aside0 (x48.heap[w.heap.size + 1 + 1 + 1 + 1 + 1]? = some (.cells #[.string (⟨#[97]⟩ : ByteArray), .string (⟨#[98]⟩ : ByteArray)] 9 (0, 0))) := ⟨by rw [← hx]; exact (blk_alloc (blk_alloc f181.out _) _)⟩; clear f181; have f205 : Aside0 (x48.heap[w.heap.size + 1 + 1 + 1 + 1 + 1 + 1]? = some (.cells #[.string (⟨#[49]⟩ : ByteArray), .string (⟨#[120]⟩ : ByteArray)] 9 (0, 0))) := ⟨by rw [← hx]; exact (blk_alloc (blk_alloc f182.out _) _)⟩; clear f182; have f206 : Aside0 (x48.heap[w.heap.size + 1 + 1 + 1 + 1 + 1 + 1 + 1]? = some (.cells #[.string (⟨#[49]⟩ : ByteArray), .string (⟨#[121]⟩ : ByteArray)] 9 (0, 0))) := ⟨by rw [← hx]; exact (blk_alloc (blk_alloc f183.out _) _)⟩; clear f183; have f207 : Aside0 (x48.heap[w.heap.size + 1 + 1 + 1 + 1 + 1 + 1 + 1 + 1]? = some (.cells #[.string (⟨#[50]⟩ : ByteArray), .string (⟨#[120]⟩ : ByteArray)] 9 (0, 0))) := ⟨by rw [← hx]; exact (blk_alloc (blk_alloc f184.out _) _)⟩; clear f184; have f208 : Aside0 (x48.heap[w.heap.size + 1 + 1 + 1 + 1 + 1 + 1 + 1 + 1 + 1]? = some (.cells #[.slice (some ⟨w.heap.size + 1 + 1 + 1 + 1 + 1 + 1, 0, none⟩) 2 2, .slice (some ⟨w.heap.size + 1 + 1 + 1 + 1 + 1 + 1 + 1, 0, none⟩) 2 2, .slice (some ⟨w.heap.size + 1 + 1 + 1 + 1 + 1 + 1 + 1 + 1, 0, none⟩) 2 2] 22 (0, 0))) := ⟨by rw [← hx]; exact (blk_alloc (blk_alloc f185.out _) _)⟩; clear f185; have f209 : Aside0 (x48.heap[w.heap.size + 1 + 1 + 1 + 1 + 1 + 1 + 1 + 1 + 1 + 1]? = some (.cells #[.slice (some ⟨w.heap.size + 1 + 1 + 1 + 1 + 1, 0, none⟩) 2 2, .slice (some ⟨w.heap.size + 1 + 1 + 1 + 1 + 1 + 1 + 1 + 1 + 1, 0, none⟩) 3 3] 25 (0, 0))) := ⟨by rw [← hx]; exact (blk_alloc (blk_alloc f186.out _) _)⟩; clear f186; have f210 : Aside0 (x48.heap[w.heap.size + 1 + 1 + 1 + 1 + 1 + 1 + 1 + 1 + 1 + 1 + 1]? = some (.cells #[.string (⟨#[97]⟩ : ByteArray), .string (⟨#[98]⟩ : ByteArray)] 9 (0, 0))) := ⟨by rw [← hx]; exact (blk_alloc (blk_alloc f187.out _) _)⟩; clear f187; have f211 : Aside0 (x48.heap[w.heap.size + 1 + 1 + 1 + 1 + 1 + 1 + 1 + 1 + 1 + 1 + 1 + 1]? = some (.cells #[.string (⟨#[49]⟩ : ByteArray), .string (⟨#[120]⟩ : ByteArray)] 9 (0, 0))) := ⟨by rw [← hx]; exact (blk_alloc (blk_alloc f188.out _) _)⟩; clear f188; have f212 : Aside0 (x48.heap[w.heap.size + 1 + 1 + 1 + 1 + 1 + 1 + 1 + 1 + 1 + 1 + 1 + 1 + 1]? = some (.cells #[.string (⟨#[49]⟩ : ByteArray), .string (⟨#[120]⟩ : ByteArray)] 9 (0, 0))) := ⟨by rw [← hx]; exact (blk_alloc (blk_alloc f189.out _) _)⟩; clear f189; have f213 : Aside0 (x48.heap[w.heap.size + 1 + 1 + 1 + 1 + 1 + 1 + 1 + 1 + 1 + 1 + 1 + 1 + 1 + 1]? = some (.cells #[.slice (some ⟨w.heap.size + 1 + 1 + 1 + 1 + 1 + 1 + 1 + 1 + 1 + 1 + 1 + 1, 0, none⟩) 2 2, .slice (some ⟨w.heap.size + 1 + 1 + 1 + 1 + 1 + 1 + 1 + 1 + 1 + 1 + 1 + 1 + 1, 0, none⟩) 2 2] 22 (0, 0))) := ⟨by rw [← hx]; exact (blk_alloc (blk_alloc f190.out _) _)⟩; clear f190; have f214 : Aside0 (x48.heap[w.heap.size + 1 + 1 + 1 + 1 + 1 + 1 + 1 + 1 + 1 + 1 + 1 + 1 + 1 + 1 + 1]? = some (.cells #[.slice (some ⟨w.heap.size + 1 + 1 + 1 + 1 + 1 + 1 + 1 + 1 + 1 + 1 + 1, 0, none⟩) 2 2, .slice (some ⟨w.heap.size + 1 + 1 + 1 + 1 + 1 + 1 + 1 + 1 + 1 + 1 + 1 + 1 + 1 + 1, 0, none⟩) 2 2] 25 (0, 0))) := ⟨by rw [← hx]; exact (blk_alloc (blk_alloc f191.out _) _)⟩; clear f191; have f215 : Aside0 (x48.heap[w.heap.size + 1 + 1 + 1 + 1 + 1 + 1 + 1 + 1 + 1 + 1 + 1 + 1 + 1 + 1 + 1 + 1]? = some (.cells #[.slice (some ⟨w.heap.size, 0, none⟩) 2 2, .slice (some ⟨w.heap.size + 1 + 1 + 1, 0, none⟩) 2 2] 25 (0, 0))) := ⟨by rw [← hx]; exact (blk_alloc (blk_alloc f192.out _) _)⟩; clear f192; have f216 : Aside0 (x48.heap[w29.heap.size]? = some (.cells #[.string (⟨#[98]⟩ : ByteArray)] 9 (0, 0))) := ⟨by rw [← hx]; exact (blk_alloc (blk_alloc f193.out _) _)⟩; clear f193; have f217 : Aside0 (x48.heap[w31.heap.size]? = some (.cells #[.slice (some ⟨w.heap.size + 1 + 1 + 1 + 1 + 1, 0, none⟩) 2 2, .slice (some ⟨w.heap.size + 1 + 1 + 1 + 1 + 1 + 1 + 1 + 1 + 1, 0, none⟩) 3 3] 25 (0, 0))) := ⟨by rw [← hx]; exact (blk_alloc (blk_alloc f194.out _) _)⟩; clear f194; have f218 : Aside0 (x48.heap[w36.heap.size]? = some (.cells #[.string (⟨#[97]⟩ : ByteArray), .string (⟨#[98]⟩ : ByteArray)] 9 (0, 0))) := ⟨by rw [← hx]; exact (blk_alloc (blk_alloc f195.out _) _)⟩; clear f195; have f219 : Aside0 (x48.heap[w38.heap.size]? = some (.cells #[.string (⟨#[98]⟩ : ByteArray)] 9 (0, 0))) := ⟨by rw [← hx]; exact (blk_alloc (blk_alloc f196.out _) _)⟩; clear f196; have f220 : Aside0 (x48.heap[w42.heap.size]? = some (.cells #[.slice (some ⟨w.heap.size, 0, none⟩) 2 2, .slice (some ⟨w.heap.size + 1 + 1 + 1, 0, none⟩) 2 2] 25 (0, 0))) := ⟨by rw [← hx]; exact (blk_alloc (blk_atk rfl) _)⟩; have f221 : Aside0 (x48.heap[w42.heap.size + 1]? = some (.cells #[.string (⟨#[97]⟩ : ByteArray)] 9 (0, 0))) := ⟨by rw [← hx]; exact (blk_atk (by simp only [World.size_alloc]))⟩; have HB2 : Aside0 (Below w.heap.size w x48) := ⟨by rw [← hx]; exact (below_alloc (below_alloc HB.out _) _)⟩; have HS : Aside0 (Below w42.heap.size w42 x48) := ⟨by rw [← hx]; exact (below_alloc (below_alloc (Below.refl _ _) _) _)⟩; clear HB; have HB := Aside0.mk HB2.out; clear HB2 hx; refine (keyOf_calls (some ⟨w42.heap.size, 0, none⟩) 1 [tW] (some ⟨w42.heap.size + 1, 0, none⟩) 1 [(⟨#[97]⟩ : ByteArray)] x48 (TabC.one (T := tW) ⟨Nat.le_refl _, (C_blk hW (by decide) f199.out), Nat.le_refl _, (C_rows _ (by decide) (fun j r hj => match j, hj with | 0, hj => by simp at hj; subst hj; exact ⟨_, 2, blk_cell f202.out 0, Nat.le_refl _, C_blk _ (by decide) f200.out⟩ | 1, hj => by simp at hj; subst hj; exact ⟨_, 2, blk_cell f202.out 1, Nat.le_refl _, C_blk _ (by decide) f201.out⟩ | j + 2, hj => by simp at hj))⟩ (blk_cell f220.out 0) (blk_cell f220.out 1)) (C_blk [(⟨#[97]⟩ : ByteArray)] (by decide) f221.out) (Nat.le_refl _) (by decide) (by decide) ok_t hd_t).mono ?_; rintro e w48 ⟨v48, rfl, ho, hd⟩; have f222 := Aside0.mk (blk_below f199.out hd); clear f199; have f223 := Aside0.mk (blk_below f200.out hd); clear f200; have f224 := Aside0.mk (blk_below f201.out hd); clear f201; have f225 := Aside0.mk (blk_below f202.out hd); clear f202; have f226 := Aside0.mk (blk_below f203.out hd); clear f203; have f227 := Aside0.mk (blk_below f204.out hd); clear f204; have f228 := Aside0.mk (blk_below f205.out hd); clear f205; have f229 := Aside0.mk (blk_below f206.out hd); clear f206; have f230 := Aside0.mk (blk_below f207.out hd); clear f207; have f231 := Aside0.mk (blk_below f208.out hd); clear f208; have f232 := Aside0.mk (blk_below f209.out hd); clear f209; have f233 := Aside0.mk (blk_below f210.out hd); clear f210; have f234 := Aside0.mk (blk_below f211.out hd); clear f211; have f235 := Aside0.mk (blk_below f212.out hd); clear f212; have f236 := Aside0.mk (blk_below f213.out hd); clear f213; have f237 := Aside0.mk (blk_below f214.out hd); clear f214; have f238 := Aside0.mk (blk_below f215.out hd); clear f215; have f239 := Aside0.mk (blk_below f216.out hd); clear f216; have f240 := Aside0.mk (blk_below f217.out hd); clear f217; have f241 := Aside0.mk (blk_below f218.out hd); clear f218; have f242 := Aside0.mk (blk_below f219.out hd); clear f219; have f243 := Aside0.mk (blk_below f220.out hd); clear f220; have f244 := Aside0.mk (blk_below f221.out hd); clear f221; have HT := Aside0.mk (below_step HS.out hd); have HX42' := Aside0.mk ((HT.out.cell (World.block_lt_of_cell? _ _ HX42.out)).trans HX42.out); clear HX42; have HX42 := Aside0.mk HX42'.out; clear HX42'; have HB2 := Aside0.mk (below_step HB.out hd); clear HB; have HB := Aside0.mk HB2.out; clear HB2 HS HT hd; rw [of_t] at ho; obtain ⟨A48, c48, rfl, hc48, hC48⟩ := Kd.R_reads ho; have HC48 := Aside0.mk hC48; clear ho hC48; have st6 : True := trivial)
    | (go_at_call 20; clear st6; refine name_world (fun x50 hx => ?_); have f245 : Aside0 (x50.heap[w.heap.size]? = some (.cells #[.string (⟨#[97]⟩ : ByteArray), .string (⟨#[98]⟩ : ByteArray)] 9 (0, 0))) := ⟨by rw [← hx]; exact (blk_alloc f222.out _)⟩; clear f222; have f246 : Aside0 (x50.heap[w.heap.size + 1]? = some (.cells #[.string (⟨#[49]⟩ : ByteArray), .string (⟨#[120]⟩ : ByteArray)] 9 (0, 0))) := ⟨by rw [← hx]; exact (blk_alloc f223.out _)⟩; clear f223; have f247 : Aside0 (x50.heap[w.heap.size + 1 + 1]? = some (.cells #[.string (⟨#[49]⟩ : ByteArray), .string (⟨#[121]⟩ : ByteArray)] 9 (0, 0))) := ⟨by rw [← hx]; exact (blk_alloc f224.out _)⟩; clear f224; have f248 : Aside0 (x50.heap[w.heap.size + 1 + 1 + 1]? = some (.cells #[.slice (some ⟨w.heap.size + 1, 0, none⟩) 2 2, .slice (some ⟨w.heap.size + 1 + 1, 0, none⟩) 2 2] 22 (0, 0))) := ⟨by rw [← hx]; exact (blk_alloc f225.out _)⟩; clear f225; have f249 : Aside0 (x50.heap[w.heap.size + 1 + 1 + 1 + 1]? = some (.cells #[.slice (some ⟨w.heap.size, 0, none⟩) 2 2, .slice (some ⟨w.heap.size + 1 + 1 + 1, 0, none⟩) 2 2] 25 (0, 0))) := ⟨by rw [← hx]; exact (blk_alloc f226.out _)⟩; clear f226; have f250 : Aside0 (x50.heap[w.heap.size + 1 + 1 + 1 + 1 + 1]? = some (.cells #[.string (⟨#[97]⟩ : ByteArray), .string (⟨#[98]⟩ : ByteArray)] 9 (0, 0))) := ⟨by rw [← hx]; exact (blk_alloc f227.out _)⟩; clear f227; have f251 : Aside0 (x50.heap[w.heap.size + 1 + 1 + 1 + 1 + 1 + 1]? = some (.cells #[.string (⟨#[49]⟩ : ByteArray), .string (⟨#[120]⟩ : ByteArray)] 9 (0, 0))) := ⟨by rw [← hx]; exact (blk_alloc f228.out _)⟩; clear f228; have f252 : Aside0 (x50.heap[w.heap.size + 1 + 1 + 1 + 1 + 1 + 1 + 1]? = some (.cells #[.string (⟨#[49]⟩ : ByteArray), .string (⟨#[121]⟩ : ByteArray)] 9 (0, 0))) := ⟨by rw [← hx]; exact (blk_alloc f229.out _)⟩; clear f229; have f253 : Aside0 (x50.heap[w.heap.size + 1 + 1 + 1 + 1 + 1 + 1 + 1 + 1]? = some (.cells #[.string (⟨#[50]⟩ : ByteArray), .string (⟨#[120]⟩ : ByteArray)] 9 (0, 0))) := ⟨by rw [← hx]; exact (blk_alloc f230.out _)⟩; clear f230; have f254 : Aside0 (x50.heap[w.heap.size + 1 + 1 + 1 + 1 + 1 + 1 + 1 + 1 + 1]? = some (.cells #[.slice (some ⟨w.heap.size + 1 + 1 + 1 + 1 + 1 + 1, 0, none⟩) 2 2, .slice (some ⟨w.heap.size + 1 + 1 + 1 + 1 + 1 + 1 + 1, 0, none⟩) 2 2, .slice (some ⟨w.heap.size + 1 + 1 + 1 + 1 + 1 + 1 + 1 + 1, 0, none⟩) 2 2] 22 (0, 0))) := ⟨by rw [← hx]; exact (blk_alloc f231.out _)⟩; clear f231; have f255 : Aside0 (x50.heap[w.heap.size + 1 + 1 + 1 + 1 + 1 + 1 + 1 + 1 + 1 + 1]? = some (.cells #[.slice (some ⟨w.heap.size + 1 + 1 + 1 + 1 + 1, 0, none⟩) 2 2, .slice (some ⟨w.heap.size + 1 + 1 + 1 + 1 + 1 + 1 + 1 + 1 + 1, 0, none⟩) 3 3] 25 (0, 0))) := ⟨by rw [← hx]; exact (blk_alloc f232.out _)⟩; clear f232; have f256 : Aside0 (x50.heap[w.heap.size + 1 + 1 + 1 + 1 + 1 + 1 + 1 + 1 + 1 + 1 + 1]? = some (.cells #[.string (⟨#[97]⟩ : ByteArray), .string (⟨#[98]⟩ : ByteArray)] 9 (0, 0))) := ⟨by rw [← hx]; exact (blk_alloc f233.out _)⟩; clear f233; have f257 : Aside0 (x50.heap[w.heap.size + 1 + 1 + 1 + 1 + 1 + 1 + 1 + 1 + 1 + 1 + 1 + 1]? = some (.cells #[.string (⟨#[49]⟩ : ByteArray), .string (⟨#[120]⟩ : ByteArray)] 9 (0, 0))) := ⟨by rw [← hx]; exact (blk_alloc f234.out _)⟩; clear f234; have f258 : Aside0 (x50.heap[w.heap.size + 1 + 1 + 1 + 1 + 1 + 1 + 1 + 1 + 1 + 1 + 1 + 1 + 1]? = some (.cells #[.string (⟨#[49]⟩ : ByteArray), .string (⟨#[120]⟩ : ByteArray)] 9 (0, 0))) := ⟨by rw [← hx]; exact (blk_alloc f235.out _)⟩; clear f235; have f259 : Aside0 (x50.heap[w.heap.size + 1 + 1 + 1 + 1 + 1 + 1 + 1 + 1 + 1 + 1 + 1 + 1 + 1 + 1]? = some (.cells #[.slice (some ⟨w.heap.size + 1 + 1 + 1 + 1 + 1 + 1 + 1 + 1 + 1 + 1 + 1 + 1, 0, none⟩) 2 2, .slice (some ⟨w.heap.size + 1 + 1 + 1 + 1 + 1 + 1 + 1 + 1 + 1 + 1 + 1 + 1 + 1, 0, none⟩) 2 2] 22 (0, 0))) := ⟨by rw [← hx]; exact (blk_alloc f236.out _)⟩; clear f236; have f260 : Aside0 (x50.heap[w.heap.size + 1 + 1 + 1 + 1 + 1 + 1 + 1 + 1 + 1 + 1 + 1 + 1 + 1 + 1 + 1]? = some (.cells #[.slice (some ⟨w.heap.size + 1 + 1 + 1 + 1 + 1 + 1 + 1 + 1 + 1 + 1 + 1, 0, none⟩) 2 2, .slice (some ⟨w.heap.size + 1 + 1 + 1 + 1 + 1 + 1 + 1 + 1 + 1 + 1 + 1 + 1 + 1 + 1, 0, none⟩) 2 2] 25 (0, 0))) := ⟨by rw [← hx]; exact (blk_alloc f237.out _)⟩; clear f237; have f261 : Aside0 (x50.heap[w.heap.size + 1 + 1 + 1 + 1 + 1 + 1 + 1 + 1 + 1 + 1 + 1 + 1 + 1 + 1 + 1 + 1]? = some (.cells #[.slice (some ⟨w.heap.size, 0, none⟩) 2 2, .slice (some ⟨w.heap.size + 1 + 1 + 1, 0, none⟩) 2 2] 25 (0, 0))) := ⟨by rw [← hx]; exact (blk_alloc f238.out _)⟩; clear f238; have f262 : Aside0 (x50.heap[w29.heap.size]? = some (.cells #[.string (⟨#[98]⟩ : ByteArray)] 9 (0, 0))) := ⟨by rw [← hx]; exact (blk_alloc f239.out _)⟩; clear f239; have f263 : Aside0 (x50.heap[w31.heap.size]? = some (.cells #[.slice (some ⟨w.heap.size + 1 + 1 + 1 + 1 + 1, 0, none⟩) 2 2, .slice (some ⟨w.heap.size + 1 + 1 + 1 + 1 + 1 + 1 + 1 + 1 + 1, 0, none⟩) 3 3] 25 (0, 0))) := ⟨by rw [← hx]; exact (blk_alloc f240.out _)⟩; clear f240; have f264 : Aside0 (x50.heap[w36.heap.size]? = some (.cells #[.string (⟨#[97]⟩ : ByteArray), .string (⟨#[98]⟩ : ByteArray)] 9 (0, 0))) := ⟨by rw [← hx]; exact (blk_alloc f241.out _)⟩; clear f241; have f265 : Aside0 (x50.heap[w38.heap.size]? = some (.cells #[.string (⟨#[98]⟩ : ByteArray)] 9 (0, 0))) := ⟨by rw [← hx]; exact (blk_alloc f242.out _)⟩; clear f242; have f266 : Aside0 (x50.heap[w42.heap.size]? = some (.cells #[.slice (some ⟨w.heap.size, 0, none⟩) 2 2, .slice (some ⟨w.heap.size + 1 + 1 + 1, 0, none⟩) 2 2] 25 (0, 0))) := ⟨by rw [← hx]; exact (blk_alloc f243.out _)⟩; clear f243; have f267 : Aside0 (x50.heap[w42.heap.size + 1]? = some (.cells #[.string (⟨#[97]⟩ : ByteArray)] 9 (0, 0))) := ⟨by rw [← hx]; exact (blk_alloc f244.out _)⟩; clear f244; have f268 : Aside0 (x50.heap[w48.heap.size]? = some (.cells #[.string (⟨#[98]⟩ : ByteArray)] 9 (0, 0))) := ⟨by rw [← hx]; exact (blk_atk rfl)⟩; have HB2 : Aside0 (Below w.heap.size w x50) := ⟨by rw [← hx]; exact (below_alloc HB.out _)⟩; have HS : Aside0 (Below w48.heap.size w48 x50) := ⟨by rw [← hx]; exact (below_alloc (Below.refl _ _) _)⟩; clear HB; have HB := Aside0.mk HB2.out; clear HB2 hx; refine (rowW A48 c48 [(⟨#[98]⟩ : ByteArray)] (some ⟨w48.heap.size, 0, none⟩) 1 x50 (Kd.C_below HC48.out HS.out) hc48 (C_blk [(⟨#[98]⟩ : ByteArray)] (by decide) f268.out) (Nat.le_refl _) row_b).mono ?_; rintro e w50 ⟨rfl, hd⟩; have f269 := Aside0.mk (blk_below f245.out hd); clear f245; have f270 := Aside0.mk (blk_below f246.out hd); clear f246; have f271 := Aside0.mk (blk_below f247.out hd); clear f247; have f272 := Aside0.mk (blk_below f248.out hd); clear f248; have f273 := Aside0.mk (blk_below f249.out hd); clear f249; have f274 := Aside0.mk (blk_below f250.out hd); clear f250; have f275 := Aside0.mk (blk_below f251.out hd); clear f251; have f276 := Aside0.mk (blk_below f252.out hd); clear f252; have f277 := Aside0.mk (blk_below f253.out hd); clear f253; have f278 := Aside0.mk (blk_below f254.out hd); clear f254; have f279 := Aside0.mk (blk_below f255.out hd); clear f255; have f280 := Aside0.mk (blk_below f256.out hd); clear f256; have f281 := Aside0.mk (blk_below f257.out hd); clear f257; have f282 := Aside0.mk (blk_below f258.out hd); clear f258; have f283 := Aside0.mk (blk_below f259.out hd); clear f259; have f284 := Aside0.mk (blk_below f260.out hd); clear f260; have f285 := Aside0.mk (blk_below f261.out hd); clear f261; have f286 := Aside0.mk (blk_below f262.out hd); clear f262; have f287 := Aside0.mk (blk_below f263.out hd); clear f263; have f288 := Aside0.mk (blk_below f264.out hd); clear f264; have f289 := Aside0.mk (blk_below f265.out hd); clear f265; have f290 := Aside0.mk (blk_below f266.out hd); clear f266; have f291 := Aside0.mk (blk_below f267.out hd); clear f267; have f292 := Aside0.mk (blk_below f268.out hd); clear f268; have HT := Aside0.mk (below_step HS.out hd); have HX42' := Aside0.mk ((HT.out.cell (World.block_lt_of_cell? _ _ HX42.out)).trans HX42.out); clear HX42; have HX42 := Aside0.mk HX42'.out; clear HX42'; have HB2 := Aside0.mk (below_step HB.out hd); clear HB; have HB := Aside0.mk HB2.out; clear HB2 HS HT hd; have k293 : (w50).cell? ⟨w.heap.size + 1 + 1 + 1 + 1 + 1 + 1 + 1 + 1 + 1 + 1 + 1 + 1 + 1 + 1 + 1, 0, none⟩ = #[.slice (some ⟨w.heap.size + 1 + 1 + 1 + 1 + 1 + 1 + 1 + 1 + 1 + 1 + 1, 0, none⟩) 2 2, .slice (some ⟨w.heap.size + 1 + 1 + 1 + 1 + 1 + 1 + 1 + 1 + 1 + 1 + 1 + 1 + 1 + 1, 0, none⟩) 2 2][0]? := blk_cell f284.out 0; have k294 : (w50).cell? ⟨w.heap.size + 1 + 1 + 1 + 1 + 1 + 1 + 1 + 1 + 1 + 1 + 1 + 1 + 1 + 1 + 1, 1, none⟩ = #[.slice (some ⟨w.heap.size + 1 + 1 + 1 + 1 + 1 + 1 + 1 + 1 + 1 + 1 + 1, 0, none⟩) 2 2, .slice (some ⟨w.heap.size + 1 + 1 + 1 + 1 + 1 + 1 + 1 + 1 + 1 + 1 + 1 + 1 + 1 + 1, 0, none⟩) 2 2][1]? := blk_cell f284.out 1; have k295 : (w50.alloc (.cells #[.slice (some ⟨w.heap.size + 1 + 1 + 1 + 1 + 1 + 1 + 1 + 1 + 1 + 1 + 1, 0, none⟩) 2 2, .slice (some ⟨w.heap.size + 1 + 1 + 1 + 1 + 1 + 1 + 1 + 1 + 1 + 1 + 1 + 1 + 1 + 1, 0, none⟩) 2 2] 25 (0, 0))).cell? ⟨w.heap.size + 1 + 1 + 1 + 1 + 1 + 1 + 1 + 1 + 1 + 1 + 1 + 1 + 1 + 1 + 1, 0, none⟩ = #[.slice (some ⟨w.heap.size + 1 + 1 + 1 + 1 + 1 + 1 + 1 + 1 + 1 + 1 + 1, 0, none⟩) 2 2, .slice (some ⟨w.heap.size + 1 + 1 + 1 + 1 + 1 + 1 + 1 + 1 + 1 + 1 + 1 + 1 + 1 + 1, 0, none⟩) 2 2][0]? := blk_cell (blk_alloc f284.out _) 0; have k296 : (w50.alloc (.cells #[.slice (some ⟨w.heap.size + 1 + 1 + 1 + 1 + 1 + 1 + 1 + 1 + 1 + 1 + 1, 0, none⟩) 2 2, .slice (some ⟨w.heap.size + 1 + 1 + 1 + 1 + 1 + 1 + 1 + 1 + 1 + 1 + 1 + 1 + 1 + 1, 0, none⟩) 2 2] 25 (0, 0))).cell? ⟨w.heap.size + 1 + 1 + 1 + 1 + 1 + 1 + 1 + 1 + 1 + 1 + 1 + 1 + 1 + 1 + 1, 1, none⟩ = #[.slice (some ⟨w.heap.size + 1 + 1 + 1 + 1 + 1 + 1 + 1 + 1 + 1 + 1 + 1, 0, none⟩) 2 2, .slice (some ⟨w.heap.size + 1 + 1 + 1 + 1 + 1 + 1 + 1 + 1 + 1 + 1 + 1 + 1 + 1 + 1, 0, none⟩) 2 2][1]? := blk_cell (blk_alloc f284.out _) 1; have st7 : True := trivial)
    | (go_at_call 21; clear st7; refine name_world (fun x63 hx => ?_); have f297 : Aside0 (x63.heap[w.heap.size]? = some (.cells #[.string (⟨#[97]⟩ : ByteArray), .string (⟨#[98]⟩ : ByteArray)] 9 (0, 0))) := ⟨by rw [← hx]; exact (blk_alloc f269.out _)⟩; clear f269; have f298 : Aside0 (x63.heap[w.heap.size + 1]? = some (.cells #[.string (⟨#[49]⟩ : ByteArray), .string (⟨#[120]⟩ : ByteArray)] 9 (0, 0))) := ⟨by rw [← hx]; exact (blk_alloc f270.out _)⟩; clear f270; have f299 : Aside0 (x63.heap[w.heap.size + 1 + 1]? = some (.cells #[.string (⟨#[49]⟩ : ByteArray), .string (⟨#[121]⟩ : ByteArray)] 9 (0, 0))) := ⟨by rw [← hx]; exact (blk_alloc f271.out _)⟩; clear f271; have f300 : Aside0 (x63.heap[w.heap.size + 1 + 1 + 1]? = some (.cells #[.slice (some ⟨w.heap.size + 1, 0, none⟩) 2 2, .slice (some ⟨w.heap.size + 1 + 1, 0, none⟩) 2 2] 22 (0, 0))) := ⟨by rw [← hx]; exact (blk_alloc f272.out _)⟩; clear f272; have f301 : Aside0 (x63.heap[w.heap.size + 1 + 1 + 1 + 1]? = some (.cells #[.slice (some ⟨w.heap.size, 0, none⟩) 2 2, .slice (some ⟨w.heap.size + 1 + 1 + 1, 0, none⟩) 2 2] 25 (0, 0))) := ⟨by rw [← hx]; exact (blk_alloc f273.out _)⟩; clear f273; have f302 : Aside0 (x63.heap[w.heap.size + 1 + 1 + 1 + 1 + 1]? = some (.cells #[.string (⟨#[97]⟩ : ByteArray), .string (⟨#[98]⟩ : ByteArray)] 9 (0, 0))) := ⟨by rw [← hx]; exact (blk_alloc f274.out _)⟩; clear f274; have f303 : Aside0 (x63.heap[w.heap.size + 1 + 1 + 1 + 1 + 1 + 1]? = some (.cells #[.string (⟨#[49]⟩ : ByteArray), .string (⟨#[120]⟩ : ByteArray)] 9 (0, 0))) := ⟨by rw [← hx]; exact (blk_alloc f275.out _)⟩; clear f275; have f304 : Aside0 (x63.heap[w.heap.size + 1 + 1 + 1 + 1 + 1 + 1 + 1]? = some (.cells #[.string (⟨#[49]⟩ : ByteArray), .string (⟨#[121]⟩ : ByteArray)] 9 (0, 0))) := ⟨by rw [← hx]; exact (blk_alloc f276.out _)⟩; clear f276; have f305 : Aside0 (x63.heap[w.heap.size + 1 + 1 + 1 + 1 + 1 + 1 + 1 + 1]? = some (.cells #[.string (⟨#[50]⟩ : ByteArray), .string (⟨#[120]⟩ : ByteArray)] 9 (0, 0))) := ⟨by rw [← hx]; exact (blk_alloc f277.out _)⟩; clear f277; have f306 : Aside0 (x63.heap[w.heap.size + 1 + 1 + 1 + 1 + 1 + 1 + 1 + 1 + 1]? = some (.cells #[.slice (some ⟨w.heap.size + 1 + 1 + 1 + 1 + 1 + 1, 0, none⟩) 2 2, .slice (some ⟨w.heap.size + 1 + 1 + 1 + 1 + 1 + 1 + 1, 0, none⟩) 2 2, .slice (some ⟨w.heap.size + 1 + 1 + 1 + 1 + 1 + 1 + 1 + 1, 0, none⟩) 2 2] 22 (0, 0))) := ⟨by rw [← hx]; exact (blk_alloc f278.out _)⟩; clear f278; have f307 : Aside0 (x63.heap[w.heap.size + 1 + 1 + 1 + 1 + 1 + 1 + 1 + 1 + 1 + 1]? = some (.cells #[.slice (some ⟨w.heap.size + 1 + 1 + 1 + 1 + 1, 0, none⟩) 2 2, .slice (some ⟨w.heap.size + 1 + 1 + 1 + 1 + 1 + 1 + 1 + 1 + 1, 0, none⟩) 3 3] 25 (0, 0))) := ⟨by rw [← hx]; exact (blk_alloc f279.out _)⟩; clear f279; have f308 : Aside0 (x63.heap[w.heap.size + 1 + 1 + 1 + 1 + 1 + 1 + 1 + 1 + 1 + 1 + 1]? = some (.cells #[.string (⟨#[97]⟩ : ByteArray), .string (⟨#[98]⟩ : ByteArray)] 9 (0, 0))) := ⟨by rw [← hx]; exact (blk_alloc f280.out _)⟩; clear f280; have f309 : Aside0 (x63.heap[w.heap.size + 1 + 1 + 1 + 1 + 1 + 1 + 1 + 1 + 1 + 1 + 1 + 1]? = some (.cells #[.string (⟨#[49]⟩ : ByteArray), .string (⟨#[120]⟩ : ByteArray)] 9 (0, 0))) := ⟨by rw [← hx]; exact (blk_alloc f281.out _)⟩; clear f281; have f310 : Aside0 (x63.heap[w.heap.size + 1 + 1 + 1 + 1 + 1 + 1 + 1 + 1 + 1 + 1 + 1 + 1 + 1]? = some (.cells #[.string (⟨#[49]⟩ : ByteArray), .string (⟨#[120]⟩ : ByteArray)] 9 (0, 0))) := ⟨by rw [← hx]; exact (blk_alloc f282.out _)⟩; clear f282; have f311 : Aside0 (x63.heap[w.heap.size + 1 + 1 + 1 + 1 + 1 + 1 + 1 + 1 + 1 + 1 + 1 + 1 + 1 + 1]? = some (.cells #[.slice (some ⟨w.heap.size + 1 + 1 + 1 + 1 + 1 + 1 + 1 + 1 + 1 + 1 + 1 + 1, 0, none⟩) 2 2, .slice (some ⟨w.heap.size + 1 + 1 + 1 + 1 + 1 + 1 + 1 + 1 + 1 + 1 + 1 + 1 + 1, 0, none⟩) 2 2] 22 (0, 0))) := ⟨by rw [← hx]; exact (blk_alloc f283.out _)⟩; clear f283; have f312 : Aside0 (x63.heap[w.heap.size + 1 + 1 + 1 + 1 + 1 + 1 + 1 + 1 + 1 + 1 + 1 + 1 + 1 + 1 + 1]? = some (.cells #[.slice (some ⟨w.heap.size + 1 + 1 + 1 + 1 + 1 + 1 + 1 + 1 + 1 + 1 + 1, 0, none⟩) 2 2, .slice (some ⟨w.heap.size + 1 + 1 + 1 + 1 + 1 + 1 + 1 + 1 + 1 + 1 + 1 + 1 + 1 + 1, 0, none⟩) 2 2] 25 (0, 0))) := ⟨by rw [← hx]; exact (blk_alloc f284.out _)⟩; clear f284; have f313 : Aside0 (x63.heap[w.heap.size + 1 + 1 + 1 + 1 + 1 + 1 + 1 + 1 + 1 + 1 + 1 + 1 + 1 + 1 + 1 + 1]? = some (.cells #[.slice (some ⟨w.heap.size, 0, none⟩) 2 2, .slice (some ⟨w.heap.size + 1 + 1 + 1, 0, none⟩) 2 2] 25 (0, 0))) := ⟨by rw [← hx]; exact (blk_alloc f285.out _)⟩; clear f285; have f314 : Aside0 (x63.heap[w29.heap.size]? = some (.cells #[.string (⟨#[98]⟩ : ByteArray)] 9 (0, 0))) := ⟨by rw [← hx]; exact (blk_alloc f286.out _)⟩; clear f286; have f315 : Aside0 (x63.heap[w31.heap.size]? = some (.cells #[.slice (some ⟨w.heap.size + 1 + 1 + 1 + 1 + 1, 0, none⟩) 2 2, .slice (some ⟨w.heap.size + 1 + 1 + 1 + 1 + 1 + 1 + 1 + 1 + 1, 0, none⟩) 3 3] 25 (0, 0))) := ⟨by rw [← hx]; exact (blk_alloc f287.out _)⟩; clear f287; have f316 : Aside0 (x63.heap[w36.heap.size]? = some (.cells #[.string (⟨#[97]⟩ : ByteArray), .string (⟨#[98]⟩ : ByteArray)] 9 (0, 0))) := ⟨by rw [← hx]; exact (blk_alloc f288.out _)⟩; clear f288; have f317 : Aside0 (x63.heap[w38.heap.size]? = some (.cells #[.string (⟨#[98]⟩ : ByteArray)] 9 (0, 0))) := ⟨by rw [← hx]; exact (blk_alloc f289.out _)⟩; clear f289; have f318 : Aside0 (x63.heap[w42.heap.size]? = some (.cells #[.slice (some ⟨w.heap.size, 0, none⟩) 2 2, .slice (some ⟨w.heap.size + 1 + 1 + 1, 0, none⟩) 2 2] 25 (0, 0))) := ⟨by rw [← hx]; exact (blk_alloc f290.out _)⟩; clear f290; have f319 : Aside0 (x63.heap[w42.heap.size + 1]? = some (.cells #[.string (⟨#[97]⟩ : ByteArray)] 9 (0, 0))) := ⟨by rw [← hx]; exact (blk_alloc f291.out _)⟩; clear f291; have f320 : Aside0 (x63.heap[w48.heap.size]? = some (.cells #[.string (⟨#[98]⟩ : ByteArray)] 9 (0, 0))) := ⟨by rw [← hx]; exact (blk_alloc f292.out _)⟩; clear f292; have f321 : Aside0 (x63.heap[w50.heap.size]? = some (.cells #[.slice (some ⟨w.heap.size + 1 + 1 + 1 + 1 + 1 + 1 + 1 + 1 + 1 + 1 + 1, 0, none⟩) 2 2, .slice (some ⟨w.heap.size + 1 + 1 + 1 + 1 + 1 + 1 + 1 + 1 + 1 + 1 + 1 + 1 + 1 + 1, 0, none⟩) 2 2] 25 (0, 0))) := ⟨by rw [← hx]; exact (blk_atk rfl)⟩; have HB2 : Aside0 (Below w.heap.size w x63) := ⟨by rw [← hx]; exact (below_alloc HB.out _)⟩; have HS : Aside0 (Below w50.heap.size w50 x63) := ⟨by rw [← hx]; exact (below_alloc (Below.refl _ _) _)⟩; clear HB; have HB := Aside0.mk HB2.out; clear HB2 hx; refine (infer_calls (some ⟨w50.heap.size, 0, none⟩) 1 [vW] (some ⟨w.heap.size + 1 + 1 + 1 + 1 + 1 + 1 + 1 + 1 + 1 + 1 + 1, 0, none⟩) 2 hW x63 (TabC.one (T := vW) ⟨Nat.le_refl _, (C_blk hW (by decide) f308.out), Nat.le_refl _, (C_rows _ (by decide) (fun j r hj => match j, hj with | 0, hj => by simp at hj; subst hj; exact ⟨_, 2, blk_cell f311.out 0, Nat.le_refl _, C_blk _ (by decide) f309.out⟩ | 1, hj => by simp at hj; subst hj; exact ⟨_, 2, blk_cell f311.out 1, Nat.le_refl _, C_blk _ (by decide) f310.out⟩ | j + 2, hj => by simp at hj))⟩ (blk_cell f321.out 0) (blk_cell f321.out 1)) (C_blk hW (by decide) f308.out) (Nat.le_refl _) (by decide) (by decide) ok_v).mono ?_; rintro e w63 ⟨v63, rfl, ho, hd⟩; have f322 := Aside0.mk (blk_below f297.out hd); clear f297; have f323 := Aside0.mk (blk_below f298.out hd); clear f298; have f324 := Aside0.mk (blk_below f299.out hd); clear f299; have f325 := Aside0.mk (blk_below f300.out hd); clear f300; have f326 := Aside0.mk (blk_below f301.out hd); clear f301; have f327 := Aside0.mk (blk_below f302.out hd); clear f302; have f328 := Aside0.mk (blk_below f303.out hd); clear f303; have f329 := Aside0.mk (blk_below f304.out hd); clear f304; have f330 := Aside0.mk (blk_below f305.out hd); clear f305; have f331 := Aside0.mk (blk_below f306.out hd); clear f306; have f332 := Aside0.mk (blk_below f307.out hd); clear f307; have f333 := Aside0.mk (blk_below f308.out hd); clear f308; have f334 := Aside0.mk (blk_below f309.out hd); clear f309; have f335 := Aside0.mk (blk_below f310.out hd); clear f310; have f336 := Aside0.mk (blk_below f311.out hd); clear f311; have f337 := Aside0.mk (blk_below f312.out hd); clear f312; have f338 := Aside0.mk (blk_below f313.out hd); clear f313; have f339 := Aside0.mk (blk_below f314.out hd); clear f314; have f340 := Aside0.mk (blk_below f315.out hd); clear f315; have f341 := Aside0.mk (blk_below f316.out hd); clear f316; have f342 := Aside0.mk (blk_below f317.out hd); clear f317; have f343 := Aside0.mk (blk_below f318.out hd); clear f318; have f344 := Aside0.mk (blk_below f319.out hd); clear f319; have f345 := Aside0.mk (blk_below f320.out hd); clear f320; have f346 := Aside0.mk (blk_below f321.out hd); clear f321; have HT := Aside0.mk (below_step HS.out hd); have HX42' := Aside0.mk ((HT.out.cell (World.block_lt_of_cell? _ _ HX42.out)).trans HX42.out); clear HX42; have HX42 := Aside0.mk HX42'.out; clear HX42'; have HB2 := Aside0.mk (below_step HB.out hd); clear HB; have HB := Aside0.mk HB2.out; clear HB2 HS HT hd; rw [inf_v] at ho; obtain ⟨A63, c63, rfl, hc63, hC63⟩ := Kd.R_reads ho; have HC63 := Aside0.mk hC63; clear ho hC63; have hx42 := HX42.out; have k347 : (w63).cell? ⟨w.heap.size + 1 + 1 + 1 + 1, 0, none⟩ = #[.slice (some ⟨w.heap.size, 0, none⟩) 2 2, .slice (some ⟨w.heap.size + 1 + 1 + 1, 0, none⟩) 2 2][0]? := blk_cell f326.out 0; have k348 : (w63).cell? ⟨w.heap.size + 1 + 1 + 1 + 1, 1, none⟩ = #[.slice (some ⟨w.heap.size, 0, none⟩) 2 2, .slice (some ⟨w.heap.size + 1 + 1 + 1, 0, none⟩) 2 2][1]? := blk_cell f326.out 1; have st8 : True := trivial)
    | (go_at_call 19; clear st8; refine name_world (fun x84 hx => ?_); have f349 : Aside0 (x84.heap[w.heap.size]? = some (.cells #[.string (⟨#[97]⟩ : ByteArray), .string (⟨#[98]⟩ : ByteArray)] 9 (0, 0))) := ⟨by rw [← hx]; exact (blk_alloc f322.out _)⟩; clear f322; have f350 : Aside0 (x84.heap[w.heap.size + 1]? = some (.cells #[.string (⟨#[49]⟩ : ByteArray), .string (⟨#[120]⟩ : ByteArray)] 9 (0, 0))) := ⟨by rw [← hx]; exact (blk_alloc f323.out _)⟩; clear f323; have f351 : Aside0 (x84.heap[w.heap.size + 1 + 1]? = some (.cells #[.string (⟨#[49]⟩ : ByteArray), .string (⟨#[121]⟩ : ByteArray)] 9 (0, 0))) := ⟨by rw [← hx]; exact (blk_alloc f324.out _)⟩; clear f324; have f352 : Aside0 (x84.heap[w.heap.size + 1 + 1 + 1]? = some (.cells #[.slice (some ⟨w.heap.size + 1, 0, none⟩) 2 2, .slice (some ⟨w.heap.size + 1 + 1, 0, none⟩) 2 2] 22 (0, 0))) := ⟨by rw [← hx]; exact (blk_alloc f325.out _)⟩; clear f325; have f353 : Aside0 (x84.heap[w.heap.size + 1 + 1 + 1 + 1]? = some (.cells #[.slice (some ⟨w.heap.size, 0, none⟩) 2 2, .slice (some ⟨w.heap.size + 1 + 1 + 1, 0, none⟩) 2 2] 25 (0, 0))) := ⟨by rw [← hx]; exact (blk_alloc f326.out _)⟩; clear f326; have f354 : Aside0 (x84.heap[w.heap.size + 1 + 1 + 1 + 1 + 1]? = some (.cells #[.string (⟨#[97]⟩ : ByteArray), .string (⟨#[98]⟩ : ByteArray)] 9 (0, 0))) := ⟨by rw [← hx]; exact (blk_alloc f327.out _)⟩; clear f327; have f355 : Aside0 (x84.heap[w.heap.size + 1 + 1 + 1 + 1 + 1 + 1]? = some (.cells #[.string (⟨#[49]⟩ : ByteArray), .string (⟨#[120]⟩ : ByteArray)] 9 (0, 0))) := ⟨by rw [← hx]; exact (blk_alloc f328.out _)⟩; clear f328; have f356 : Aside0 (x84.heap[w.heap.size + 1 + 1 + 1 + 1 + 1 + 1 + 1]? = some (.cells #[.string (⟨#[49]⟩ : ByteArray), .string (⟨#[121]⟩ : ByteArray)] 9 (0, 0))) := ⟨by rw [← hx]; exact (blk_alloc f329.out _)⟩; clear f329; have f357 : Aside0 (x84.heap[w.heap.size + 1 + 1 + 1 + 1 + 1 + 1 + 1 + 1]? = some (.cells #[.string (⟨#[50]⟩ : ByteArray), .string (⟨#[120]⟩ : ByteArray)] 9 (0, 0))) := ⟨by rw [← hx]; exact (blk_alloc f330.out _)⟩; clear f330; have f358 : Aside0 (x84.heap[w.heap.size + 1 + 1 + 1 + 1 + 1 + 1 + 1 + 1 + 1]? = some (.cells #[.slice (some ⟨w.heap.size + 1 + 1 + 1 + 1 + 1 + 1, 0, none⟩) 2 2, .slice (some ⟨w.heap.size + 1 + 1 + 1 + 1 + 1 + 1 + 1, 0, none⟩) 2 2, .slice (some ⟨w.heap.size + 1 + 1 + 1 + 1 + 1 + 1 + 1 + 1, 0, none⟩) 2 2] 22 (0, 0))) := ⟨by rw [← hx]; exact (blk_alloc f331.out _)⟩; clear f331; have f359 : Aside0 (x84.heap[w.heap.size + 1 + 1 + 1 + 1 + 1 + 1 + 1 + 1 + 1 + 1]? = some (.cells #[.slice (some ⟨w.heap.size + 1 + 1 + 1 + 1 + 1, 0, none⟩) 2 2, .slice (some ⟨w.heap.size + 1 + 1 + 1 + 1 + 1 + 1 + 1 + 1 + 1, 0, none⟩) 3 3] 25 (0, 0))) := ⟨by rw [← hx]; exact (blk_alloc f332.out _)⟩; clear f332; have f360 : Aside0 (x84.heap[w.heap.size + 1 + 1 + 1 + 1 + 1 + 1 + 1 + 1 + 1 + 1 + 1]? = some (.cells #[.string (⟨#[97]⟩ : ByteArray), .string (⟨#[98]⟩ : ByteArray)] 9 (0, 0))) := ⟨by rw [← hx]; exact (blk_alloc f333.out _)⟩; clear f333; have f361 : Aside0 (x84.heap[w.heap.size + 1 + 1 + 1 + 1 + 1 + 1 + 1 + 1 + 1 + 1 + 1 + 1]? = some (.cells #[.string (⟨#[49]⟩ : ByteArray), .string (⟨#[120]⟩ : ByteArray)] 9 (0, 0))) := ⟨by rw [← hx]; exact (blk_alloc f334.out _)⟩; clear f334; have f362 : Aside0 (x84.heap[w.heap.size + 1 + 1 + 1 + 1 + 1 + 1 + 1 + 1 + 1 + 1 + 1 + 1 + 1]? = some (.cells #[.string (⟨#[49]⟩ : ByteArray), .string (⟨#[120]⟩ : ByteArray)] 9 (0, 0))) := ⟨by rw [← hx]; exact (blk_alloc f335.out _)⟩; clear f335; have f363 : Aside0 (x84.heap[w.heap.size + 1 + 1 + 1 + 1 + 1 + 1 + 1 + 1 + 1 + 1 + 1 + 1 + 1 + 1]? = some (.cells #[.slice (some ⟨w.heap.size + 1 + 1 + 1 + 1 + 1 + 1 + 1 + 1 + 1 + 1 + 1 + 1, 0, none⟩) 2 2, .slice (some ⟨w.heap.size + 1 + 1 + 1 + 1 + 1 + 1 + 1 + 1 + 1 + 1 + 1 + 1 + 1, 0, none⟩) 2 2] 22 (0, 0))) := ⟨by rw [← hx]; exact (blk_alloc f336.out _)⟩; clear f336; have f364 : Aside0 (x84.heap[w.heap.size + 1 + 1 + 1 + 1 + 1 + 1 + 1 + 1 + 1 + 1 + 1 + 1 + 1 + 1 + 1]? = some (.cells #[.slice (some ⟨w.heap.size + 1 + 1 + 1 + 1 + 1 + 1 + 1 + 1 + 1 + 1 + 1, 0, none⟩) 2 2, .slice (some ⟨w.heap.size + 1 + 1 + 1 + 1 + 1 + 1 + 1 + 1 + 1 + 1 + 1 + 1 + 1 + 1, 0, none⟩) 2 2] 25 (0, 0))) := ⟨by rw [← hx]; exact (blk_alloc f337.out _)⟩; clear f337; have f365 : Aside0 (x84.heap[w.heap.size + 1 + 1 + 1 + 1 + 1 + 1 + 1 + 1 + 1 + 1 + 1 + 1 + 1 + 1 + 1 + 1]? = some (.cells #[.slice (some ⟨w.heap.size, 0, none⟩) 2 2, .slice (some ⟨w.heap.size + 1 + 1 + 1, 0, none⟩) 2 2] 25 (0, 0))) := ⟨by rw [← hx]; exact (blk_alloc f338.out _)⟩; clear f338; have f366 : Aside0 (x84.heap[w29.heap.size]? = some (.cells #[.string (⟨#[98]⟩ : ByteArray)] 9 (0, 0))) := ⟨by rw [← hx]; exact (blk_alloc f339.out _)⟩; clear f339; have f367 : Aside0 (x84.heap[w31.heap.size]? = some (.cells #[.slice (some ⟨w.heap.size + 1 + 1 + 1 + 1 + 1, 0, none⟩) 2 2, .slice (some ⟨w.heap.size + 1 + 1 + 1 + 1 + 1 + 1 + 1 + 1 + 1, 0, none⟩) 3 3] 25 (0, 0))) := ⟨by rw [← hx]; exact (blk_alloc f340.out _)⟩; clear f340; have f368 : Aside0 (x84.heap[w36.heap.size]? = some (.cells #[.string (⟨#[97]⟩ : ByteArray), .string (⟨#[98]⟩ : ByteArray)] 9 (0, 0))) := ⟨by rw [← hx]; exact (blk_alloc f341.out _)⟩; clear f341; have f369 : Aside0 (x84.heap[w38.heap.size]? = some (.cells #[.string (⟨#[98]⟩ : ByteArray)] 9 (0, 0))) := ⟨by rw [← hx]; exact (blk_alloc f342.out _)⟩; clear f342; have f370 : Aside0 (x84.heap[w42.heap.size]? = some (.cells #[.slice (some ⟨w.heap.size, 0, none⟩) 2 2, .slice (some ⟨w.heap.size + 1 + 1 + 1, 0, none⟩) 2 2] 25 (0, 0))) := ⟨by rw [← hx]; exact (blk_alloc f343.out _)⟩; clear f343; have f371 : Aside0 (x84.heap[w42.heap.size + 1]? = some (.cells #[.string (⟨#[97]⟩ : ByteArray)] 9 (0, 0))) := ⟨by rw [← hx]; exact (blk_alloc f344.out _)⟩; clear f344; have f372 : Aside0 (x84.heap[w48.heap.size]? = some (.cells #[.string (⟨#[98]⟩ : ByteArray)] 9 (0, 0))) := ⟨by rw [← hx]; exact (blk_alloc f345.out _)⟩; clear f345; have f373 : Aside0 (x84.heap[w50.heap.size]? = some (.cells #[.slice (some ⟨w.heap.size + 1 + 1 + 1 + 1 + 1 + 1 + 1 + 1 + 1 + 1 + 1, 0, none⟩) 2 2, .slice (some ⟨w.heap.size + 1 + 1 + 1 + 1 + 1 + 1 + 1 + 1 + 1 + 1 + 1 + 1 + 1 + 1, 0, none⟩) 2 2] 25 (0, 0))) := ⟨by rw [← hx]; exact (blk_alloc f346.out _)⟩; clear f346; have f374 : Aside0 (x84.heap[w63.heap.size]? = some (.cells #[.int .i64 1] 3 (0, 0))) := ⟨by rw [← hx]; exact (blk_atk rfl)⟩; have HB2 : Aside0 (Below w.heap.size w x84) := ⟨by rw [← hx]; exact (below_alloc HB.out _)⟩; have HS : Aside0 (Below w63.heap.size w63 x84) := ⟨by rw [← hx]; exact (below_alloc (Below.refl _ _) _)⟩; clear HB; have HB := Aside0.mk HB2.out; clear HB2 hx; refine (keys_Unique.calls (some ⟨w.heap.size, 0, none⟩) 2 hW (some ⟨w.heap.size + 1 + 1 + 1, 0, none⟩) 2 tW.f1 (some ⟨w63.heap.size, 0, none⟩) 1 [1] true x84 (C_blk hW (by decide) f349.out) (Nat.le_refl _) (C_rows _ (by decide) (fun j r hj => match j, hj with | 0, hj => by simp at hj; subst hj; exact ⟨_, 2, blk_cell f352.out 0, Nat.le_refl _, C_blk _ (by decide) f350.out⟩ | 1, hj => by simp at hj; subst hj; exact ⟨_, 2, blk_cell f352.out 1, Nat.le_refl _, C_blk _ (by decide) f351.out⟩ | j + 2, hj => by simp at hj)) (Nat.le_refl _) (C_oneI f374.out) (Nat.le_refl _) un_tf).mono ?_; rintro e w84 ⟨rfl, hd⟩; have f375 := Aside0.mk (blk_below f349.out hd); clear f349; have f376 := Aside0.mk (blk_below f350.out hd); clear f350; have f377 := Aside0.mk (blk_below f351.out hd); clear f351; have f378 := Aside0.mk (blk_below f352.out hd); clear f352; have f379 := Aside0.mk (blk_below f353.out hd); clear f353; have f380 := Aside0.mk (blk_below f354.out hd); clear f354; have f381 := Aside0.mk (blk_below f355.out hd); clear f355; have f382 := Aside0.mk (blk_below f356.out hd); clear f356; have f383 := Aside0.mk (blk_below f357.out hd); clear f357; have f384 := Aside0.mk (blk_below f358.out hd); clear f358; have f385 := Aside0.mk (blk_below f359.out hd); clear f359; have f386 := Aside0.mk (blk_below f360.out hd); clear f360; have f387 := Aside0.mk (blk_below f361.out hd); clear f361; have f388 := Aside0.mk (blk_below f362.out hd); clear f362; have f389 := Aside0.mk (blk_below f363.out hd); clear f363; have f390 := Aside0.mk (blk_below f364.out hd); clear f364; have f391 := Aside0.mk (blk_below f365.out hd); clear f365; have f392 := Aside0.mk (blk_below f366.out hd); clear f366; have f393 := Aside0.mk (blk_below f367.out hd); clear f367; have f394 := Aside0.mk (blk_below f368.out hd); clear f368; have f395 := Aside0.mk (blk_below f369.out hd); clear f369; have f396 := Aside0.mk (blk_below f370.out hd); clear f370; have f397 := Aside0.mk (blk_below f371.out hd); clear f371; have f398 := Aside0.mk (blk_below f372.out hd); clear f372; have f399 := Aside0.mk (blk_below f373.out hd); clear f373; have f400 := Aside0.mk (blk_below f374.out hd); clear f374; have HT := Aside0.mk (below_step HS.out hd); have HB2 := Aside0.mk (below_step HB.out hd); clear HB; have HB := Aside0.mk HB2.out; clear HB2 HS HT hd; have k401 : (w84).cell? ⟨w.heap.size + 1 + 1 + 1 + 1, 0, none⟩ = #[.slice (some ⟨w.heap.size, 0, none⟩) 2 2, .slice (some ⟨w.heap.size + 1 + 1 + 1, 0, none⟩) 2 2][0]? := blk_cell f379.out 0; have k402 : (w84).cell? ⟨w.heap.size + 1 + 1 + 1 + 1, 1, none⟩ = #[.slice (some ⟨w.heap.size, 0, none⟩) 2 2, .slice (some ⟨w.heap.size + 1 + 1 + 1, 0, none⟩) 2 2][1]? := blk_cell f379.out 1; have st9 : True := trivial)
    | (go_at_call 19; clear st9; have HS := Aside0.mk (Below.refl w84.heap.size w84); refine (keys_Unique.calls (some ⟨w.heap.size, 0, none⟩) 2 hW (some ⟨w.heap.size + 1 + 1 + 1, 0, none⟩) 2 tW.f1 none 0 [] false w84 (C_blk hW (by decide) f375.out) (Nat.le_refl _) (C_rows _ (by decide) (fun j r hj => match j, hj with | 0, hj => by simp at hj; subst hj; exact ⟨_, 2, blk_cell f378.out 0, Nat.le_refl _, C_blk _ (by decide) f376.out⟩ | 1, hj => by simp at hj; subst hj; exact ⟨_, 2, blk_cell f378.out 1, Nat.le_refl _, C_blk _ (by decide) f377.out⟩ | j + 2, hj => by simp at hj)) (Nat.le_refl _) (C_noI _) (Nat.le_refl _) un_nf).mono ?_; rintro e w88 ⟨rfl, hd⟩; have f403 := Aside0.mk (blk_below f375.out hd); clear f375; have f404 := Aside0.mk (blk_below f376.out hd); clear f376; have f405 := Aside0.mk (blk_below f377.out hd); clear f377; have f406 := Aside0.mk (blk_below f378.out hd); clear f378; have f407 := Aside0.mk (blk_below f379.out hd); clear f379; have f408 := Aside0.mk (blk_below f380.out hd); clear f380; have f409 := Aside0.mk (blk_below f381.out hd); clear f381; have f410 := Aside0.mk (blk_below f382.out hd); clear f382; have f411 := Aside0.mk (blk_below f383.out hd); clear f383; have f412 := Aside0.mk (blk_below f384.out hd); clear f384; have f413 := Aside0.mk (blk_below f385.out hd); clear f385; have f414 := Aside0.mk (blk_below f386.out hd); clear f386; have f415 := Aside0.mk (blk_below f387.out hd); clear f387; have f416 := Aside0.mk (blk_below f388.out hd); clear f388; have f417 := Aside0.mk (blk_below f389.out hd); clear f389; have f418 := Aside0.mk (blk_below f390.out hd); clear f390; have f419 := Aside0.mk (blk_below f391.out hd); clear f391; have f420 := Aside0.mk (blk_below f392.out hd); clear f392; have f421 := Aside0.mk (blk_below f393.out hd); clear f393; have f422 := Aside0.mk (blk_below f394.out hd); clear f394; have f423 := Aside0.mk (blk_below f395.out hd); clear f395; have f424 := Aside0.mk (blk_below f396.out hd); clear f396; have f425 := Aside0.mk (blk_below f397.out hd); clear f397; have f426 := Aside0.mk (blk_below f398.out hd); clear f398; have f427 := Aside0.mk (blk_below f399.out hd); clear f399; have f428 := Aside0.mk (blk_below f400.out hd); clear f400; have HT := Aside0.mk (below_step HS.out hd); have HB2 := Aside0.mk (below_step HB.out hd); clear HB; have HB := Aside0.mk HB2.out; clear HB2 HS HT hd; have k429 : (w88).cell? ⟨w.heap.size + 1 + 1 + 1 + 1, 0, none⟩ = #[.slice (some ⟨w.heap.size, 0, none⟩) 2 2, .slice (some ⟨w.heap.size + 1 + 1 + 1, 0, none⟩) 2 2][0]? := blk_cell f407.out 0; have k430 : (w88).cell? ⟨w.heap.size + 1 + 1 + 1 + 1, 1, none⟩ = #[.slice (some ⟨w.heap.size, 0, none⟩) 2 2, .slice (some ⟨w.heap.size + 1 + 1 + 1, 0, none⟩) 2 2][1]? := blk_cell f407.out 1; have st10 : True := trivial)
    | (go_at_call 25; clear st10; refine name_world (fun x95 hx => ?_); have f431 : Aside0 (x95.heap[w.heap.size]? = some (.cells #[.string (⟨#[97]⟩ : ByteArray), .string (⟨#[98]⟩ : ByteArray)] 9 (0, 0))) := ⟨by rw [← hx]; exact (blk_alloc (blk_alloc f403.out _) _)⟩; clear f403; have f432 : Aside0 (x95.heap[w.heap.size + 1]? = some (.cells #[.string (⟨#[49]⟩ : ByteArray), .string (⟨#[120]⟩ : ByteArray)] 9 (0, 0))) := ⟨by rw [← hx]; exact (blk_alloc (blk_alloc f404.out _) _)⟩; clear f404; have f433 : Aside0 (x95.heap[w.heap.size + 1 + 1]? = some (.cells #[.string (⟨#[49]⟩ : ByteArray), .string (⟨#[121]⟩ : ByteArray)] 9 (0, 0))) := ⟨by rw [← hx]; exact (blk_alloc (blk_alloc f405.out _) _)⟩; clear f405; have f434 : Aside0 (x95.heap[w.heap.size + 1 + 1 + 1]? = some (.cells #[.slice (some ⟨w.heap.size + 1, 0, none⟩) 2 2, .slice (some ⟨w.heap.size + 1 + 1, 0, none⟩) 2 2] 22 (0, 0))) := ⟨by rw [← hx]; exact (blk_alloc (blk_alloc f406.out _) _)⟩; clear f406; have f435 : Aside0 (x95.heap[w.heap.size + 1 + 1 + 1 + 1]? = some (.cells #[.slice (some ⟨w.heap.size, 0, none⟩) 2 2, .slice (some ⟨w.heap.size + 1 + 1 + 1, 0, none⟩) 2 2] 25 (0, 0))) := ⟨by rw [← hx]; exact (blk_alloc (blk_alloc f407.out _) _)⟩; clear f407; have f436 : Aside0 (x95.heap[w.heap.size + 1 + 1 + 1 + 1 + 1]? = some (.cells #[.string (⟨#[97]⟩ : ByteArray), .string (⟨#[98]⟩ : ByteArray)] 9 (0, 0))) := ⟨by rw [← hx]; exact (blk_alloc (blk_alloc f408.out _) _)⟩; clear f408; have f437 : Aside0 (x95.heap[w.heap.size + 1 + 1 + 1 + 1 + 1 + 1]? = some (.cells #[.string (⟨#[49]⟩ : ByteArray), .string (⟨#[120]⟩ : ByteArray)] 9 (0, 0))) := ⟨by rw [← hx]; exact (blk_alloc (blk_alloc f409.out _) _)⟩; clear f409; have f438 : Aside0 (x95.heap[w.heap.size + 1 + 1 + 1 + 1 + 1 + 1 + 1]? = some (.cells #[.string (⟨#[49]⟩ : ByteArray), .string (⟨#[121]⟩ : ByteArray)] 9 (0, 0))) := ⟨by rw [← hx]; exact (blk_alloc (blk_alloc f410.out _) _)⟩; clear f410; have f439 : Aside0 (x95.heap[w.heap.size + 1 + 1 + 1 + 1 + 1 + 1 + 1 + 1]? = some (.cells #[.string (⟨#[50]⟩ : ByteArray), .string (⟨#[120]⟩ : ByteArray)] 9 (0, 0))) := ⟨by rw [← hx]; exact (blk_alloc (blk_alloc f411.out _) _)⟩; clear f411; have f440 : Aside0 (x95.heap[w.heap.size + 1 + 1 + 1 + 1 + 1 + 1 + 1 + 1 + 1]? = some (.cells #[.slice (some ⟨w.heap.size + 1 + 1 + 1 + 1 + 1 + 1, 0, none⟩) 2 2, .slice (some ⟨w.heap.size + 1 + 1 + 1 + 1 + 1 + 1 + 1, 0, none⟩) 2 2, .slice (some ⟨w.heap.size + 1 + 1 + 1 + 1 + 1 + 1 + 1 + 1, 0, none⟩) 2 2] 22 (0, 0))) := ⟨by rw [← hx]; exact (blk_alloc (blk_alloc f412.out _) _)⟩; clear f412; have f441 : Aside0 (x95.heap[w.heap.size + 1 + 1 + 1 + 1 + 1 + 1 + 1 + 1 + 1 + 1]? = some (.cells #[.slice (some ⟨w.heap.size + 1 + 1 + 1 + 1 + 1, 0, none⟩) 2 2, .slice (some ⟨w.heap.size + 1 + 1 + 1 + 1 + 1 + 1 + 1 + 1 + 1, 0, none⟩) 3 3] 25 (0, 0))) := ⟨by rw [← hx]; exact (blk_alloc (blk_alloc f413.out _) _)⟩; clear f413; have f442 : Aside0 (x95.heap[w.heap.size + 1 + 1 + 1 + 1 + 1 + 1 + 1 + 1 + 1 + 1 + 1]? = some (.cells #[.string (⟨#[97]⟩ : ByteArray), .string (⟨#[98]⟩ : ByteArray)] 9 (0, 0))) := ⟨by rw [← hx]; exact (blk_alloc (blk_alloc f414.out _) _)⟩; clear f414; have f443 : Aside0 (x95.heap[w.heap.size + 1 + 1 + 1 + 1 + 1 + 1 + 1 + 1 + 1 + 1 + 1 + 1]? = some (.cells #[.string (⟨#[49]⟩ : ByteArray), .string (⟨#[120]⟩ : ByteArray)] 9 (0, 0))) := ⟨by rw [← hx]; exact (blk_alloc (blk_alloc f415.out _) _)⟩; clear f415; have f444 : Aside0 (x95.heap[w.heap.size + 1 + 1 + 1 + 1 + 1 + 1 + 1 + 1 + 1 + 1 + 1 + 1 + 1]? = some (.cells #[.string (⟨#[49]⟩ : ByteArray), .string (⟨#[120]⟩ : ByteArray)] 9 (0, 0))) := ⟨by rw [← hx]; exact (blk_alloc (blk_alloc f416.out _) _)⟩; clear f416; have f445 : Aside0 (x95.heap[w.heap.size + 1 + 1 + 1 + 1 + 1 + 1 + 1 + 1 + 1 + 1 + 1 + 1 + 1 + 1]? = some (.cells #[.slice (some ⟨w.heap.size + 1 + 1 + 1 + 1 + 1 + 1 + 1 + 1 + 1 + 1 + 1 + 1, 0, none⟩) 2 2, .slice (some ⟨w.heap.size + 1 + 1 + 1 + 1 + 1 + 1 + 1 + 1 + 1 + 1 + 1 + 1 + 1, 0, none⟩) 2 2] 22 (0, 0))) := ⟨by rw [← hx]; exact (blk_alloc (blk_alloc f417.out _) _)⟩; clear f417; have f446 : Aside0 (x95.heap[w.heap.size + 1 + 1 + 1 + 1 + 1 + 1 + 1 + 1 + 1 + 1 + 1 + 1 + 1 + 1 + 1]? = some (.cells #[.slice (some ⟨w.heap.size + 1 + 1 + 1 + 1 + 1 + 1 + 1 + 1 + 1 + 1 + 1, 0, none⟩) 2 2, .slice (some ⟨w.heap.size + 1 + 1 + 1 + 1 + 1 + 1 + 1 + 1 + 1 + 1 + 1 + 1 + 1 + 1, 0, none⟩) 2 2] 25 (0, 0))) := ⟨by rw [← hx]; exact (blk_alloc (blk_alloc f418.out _) _)⟩; clear f418; have f447 : Aside0 (x95.heap[w.heap.size + 1 + 1 + 1 + 1 + 1 + 1 + 1 + 1 + 1 + 1 + 1 + 1 + 1 + 1 + 1 + 1]? = some (.cells #[.slice (some ⟨w.heap.size, 0, none⟩) 2 2, .slice (some ⟨w.heap.size + 1 + 1 + 1, 0, none⟩) 2 2] 25 (0, 0))) := ⟨by rw [← hx]; exact (blk_alloc (blk_alloc f419.out _) _)⟩; clear f419; have f448 : Aside0 (x95.heap[w29.heap.size]? = some (.cells #[.string (⟨#[98]⟩ : ByteArray)] 9 (0, 0))) := ⟨by rw [← hx]; exact (blk_alloc (blk_alloc f420.out _) _)⟩; clear f420; have f449 : Aside0 (x95.heap[w31.heap.size]? = some (.cells #[.slice (some ⟨w.heap.size + 1 + 1 + 1 + 1 + 1, 0, none⟩) 2 2, .slice (some ⟨w.heap.size + 1 + 1 + 1 + 1 + 1 + 1 + 1 + 1 + 1, 0, none⟩) 3 3] 25 (0, 0))) := ⟨by rw [← hx]; exact (blk_alloc (blk_alloc f421.out _) _)⟩; clear f421; have f450 : Aside0 (x95.heap[w36.heap.size]? = some (.cells #[.string (⟨#[97]⟩ : ByteArray), .string (⟨#[98]⟩ : ByteArray)] 9 (0, 0))) := ⟨by rw [← hx]; exact (blk_alloc (blk_alloc f422.out _) _)⟩; clear f422; have f451 : Aside0 (x95.heap[w38.heap.size]? = some (.cells #[.string (⟨#[98]⟩ : ByteArray)] 9 (0, 0))) := ⟨by rw [← hx]; exact (blk_alloc (blk_alloc f423.out _) _)⟩; clear f423; have f452 : Aside0 (x95.heap[w42.heap.size]? = some (.cells #[.slice (some ⟨w.heap.size, 0, none⟩) 2 2, .slice (some ⟨w.heap.size + 1 + 1 + 1, 0, none⟩) 2 2] 25 (0, 0))) := ⟨by rw [← hx]; exact (blk_alloc (blk_alloc f424.out _) _)⟩; clear f424; have f453 : Aside0 (x95.heap[w42.heap.size + 1]? = some (.cells #[.string (⟨#[97]⟩ : ByteArray)] 9 (0, 0))) := ⟨by rw [← hx]; exact (blk_alloc (blk_alloc f425.out _) _)⟩; clear f425; have f454 : Aside0 (x95.heap[w48.heap.size]? = some (.cells #[.string (⟨#[98]⟩ : ByteArray)] 9 (0, 0))) := ⟨by rw [← hx]; exact (blk_alloc (blk_alloc f426.out _) _)⟩; clear f426; have f455 : Aside0 (x95.heap[w50.heap.size]? = some (.cells #[.slice (some ⟨w.heap.size + 1 + 1 + 1 + 1 + 1 + 1 + 1 + 1 + 1 + 1 + 1, 0, none⟩) 2 2, .slice (some ⟨w.heap.size + 1 + 1 + 1 + 1 + 1 + 1 + 1 + 1 + 1 + 1 + 1 + 1 + 1 + 1, 0, none⟩) 2 2] 25 (0, 0))) := ⟨by rw [← hx]; exact (blk_alloc (blk_alloc f427.out _) _)⟩; clear f427; have f456 : Aside0 (x95.heap[w63.heap.size]? = some (.cells #[.int .i64 1] 3 (0, 0))) := ⟨by rw [← hx]; exact (blk_alloc (blk_alloc f428.out _) _)⟩; clear f428; have f457 : Aside0 (x95.heap[w88.heap.size]? = some (.cells #[.slice (some ⟨w.heap.size, 0, none⟩) 2 2, .slice (some ⟨w.heap.size + 1 + 1 + 1, 0, none⟩) 2 2] 25 (0, 0))) := ⟨by rw [← hx]; exact (blk_alloc (blk_atk rfl) _)⟩; have f458 : Aside0 (x95.heap[w88.heap.size + 1]? = some (.cells #[.string (⟨#[98]⟩ : ByteArray)] 9 (0, 0))) := ⟨by rw [← hx]; exact (blk_atk (by simp only [World.size_alloc]))⟩; have HB2 : Aside0 (Below w.heap.size w x95) := ⟨by rw [← hx]; exact (below_alloc (below_alloc HB.out _) _)⟩; have HS : Aside0 (Below w88.heap.size w88 x95) := ⟨by rw [← hx]; exact (below_alloc (below_alloc (Below.refl _ _) _) _)⟩; clear HB; have HB := Aside0.mk HB2.out; clear HB2 hx; refine (usable_calls (some ⟨w88.heap.size, 0, none⟩) 1 [tW] (some ⟨w88.heap.size + 1, 0, none⟩) 1 [(⟨#[98]⟩ : ByteArray)] x95 (TabC.one (T := tW) ⟨Nat.le_refl _, (C_blk hW (by decide) f431.out), Nat.le_refl _, (C_rows _ (by decide) (fun j r hj => match j, hj with | 0, hj => by simp at hj; subst hj; exact ⟨_, 2, blk_cell f434.out 0, Nat.le_refl _, C_blk _ (by decide) f432.out⟩ | 1, hj => by simp at hj; subst hj; exact ⟨_, 2, blk_cell f434.out 1, Nat.le_refl _, C_blk _ (by decide) f433.out⟩ | j + 2, hj => by simp at hj))⟩ (blk_cell f457.out 0) (blk_cell f457.out 1)) (C_blk [(⟨#[98]⟩ : ByteArray)] (by decide) f458.out) (Nat.le_refl _) (by decide) (by decide) ok_t).mono ?_; rintro e w95 ⟨rfl, hd⟩; have f459 := Aside0.mk (blk_below f431.out hd); clear f431; have f460 := Aside0.mk (blk_below f432.out hd); clear f432; have f461 := Aside0.mk (blk_below f433.out hd); clear f433; have f462 := Aside0.mk (blk_below f434.out hd); clear f434; have f463 := Aside0.mk (blk_below f435.out hd); clear f435; have f464 := Aside0.mk (blk_below f436.out hd); clear f436; have f465 := Aside0.mk (blk_below f437.out hd); clear f437; have f466 := Aside0.mk (blk_below f438.out hd); clear f438; have f467 := Aside0.mk (blk_below f439.out hd); clear f439; have f468 := Aside0.mk (blk_below f440.out hd); clear f440; have f469 := Aside0.mk (blk_below f441.out hd); clear f441; have f470 := Aside0.mk (blk_below f442.out hd); clear f442; have f471 := Aside0.mk (blk_below f443.out hd); clear f443; have f472 := Aside0.mk (blk_below f444.out hd); clear f444; have f473 := Aside0.mk (blk_below f445.out hd); clear f445; have f474 := Aside0.mk (blk_below f446.out hd); clear f446; have f475 := Aside0.mk (blk_below f447.out hd); clear f447; have f476 := Aside0.mk (blk_below f448.out hd); clear f448; have f477 := Aside0.mk (blk_below f449.out hd); clear f449; have f478 := Aside0.mk (blk_below f450.out hd); clear f450; have f479 := Aside0.mk (blk_below f451.out hd); clear f451; have f480 := Aside0.mk (blk_below f452.out hd); clear f452; have f481 := Aside0.mk (blk_below f453.out hd); clear f453; have f482 := Aside0.mk (blk_below f454.out hd); clear f454; have f483 := Aside0.mk (blk_below f455.out hd); clear f455; have f484 := Aside0.mk (blk_below f456.out hd); clear f456; have f485 := Aside0.mk (blk_below f457.out hd); clear f457; have f486 := Aside0.mk (blk_below f458.out hd); clear f458; have HT := Aside0.mk (below_step HS.out hd); have HB2 := Aside0.mk (below_step HB.out hd); clear HB; have HB := Aside0.mk HB2.out; clear HB2 HS HT hd; rw [us_b]; have k487 : (w95).cell? ⟨w.heap.size + 1 + 1 + 1 + 1, 0, none⟩ = #[.slice (some ⟨w.heap.size, 0, none⟩) 2 2, .slice (some ⟨w.heap.size + 1 + 1 + 1, 0, none⟩) 2 2][0]? := blk_cell f463.out 0; have k488 : (w95).cell? ⟨w.heap.size + 1 + 1 + 1 + 1, 1, none⟩ = #[.slice (some ⟨w.heap.size, 0, none⟩) 2 2, .slice (some ⟨w.heap.size + 1 + 1 + 1, 0, none⟩) 2 2][1]? := blk_cell f463.out 1; have st11 : True := trivial)
    | (go_at_call 25; clear st11; refine name_world (fun x101 hx => ?_); have f489 : Aside0 (x101.heap[w.heap.size]? = some (.cells #[.string (⟨#[97]⟩ : ByteArray), .string (⟨#[98]⟩ : ByteArray)] 9 (0, 0))) := ⟨by rw [← hx]; exact (blk_alloc (blk_alloc f459.out _) _)⟩; clear f459; have f490 : Aside0 (x101.heap[w.heap.size + 1]? = some (.cells #[.string (⟨#[49]⟩ : ByteArray), .string (⟨#[120]⟩ : ByteArray)] 9 (0, 0))) := ⟨by rw [← hx]; exact (blk_alloc (blk_alloc f460.out _) _)⟩; clear f460; have f491 : Aside0 (x101.heap[w.heap.size + 1 + 1]? = some (.cells #[.string (⟨#[49]⟩ : ByteArray), .string (⟨#[121]⟩ : ByteArray)] 9 (0, 0))) := ⟨by rw [← hx]; exact (blk_alloc (blk_alloc f461.out _) _)⟩; clear f461; have f492 : Aside0 (x101.heap[w.heap.size + 1 + 1 + 1]? = some (.cells #[.slice (some ⟨w.heap.size + 1, 0, none⟩) 2 2, .slice (some ⟨w.heap.size + 1 + 1, 0, none⟩) 2 2] 22 (0, 0))) := ⟨by rw [← hx]; exact (blk_alloc (blk_alloc f462.out _) _)⟩; clear f462; have f493 : Aside0 (x101.heap[w.heap.size + 1 + 1 + 1 + 1]? = some (.cells #[.slice (some ⟨w.heap.size, 0, none⟩) 2 2, .slice (some ⟨w.heap.size + 1 + 1 + 1, 0, none⟩) 2 2] 25 (0, 0))) := ⟨by rw [← hx]; exact (blk_alloc (blk_alloc f463.out _) _)⟩; clear f463; have f494 : Aside0 (x101.heap[w.heap.size + 1 + 1 + 1 + 1 + 1]? = some (.cells #[.string (⟨#[97]⟩ : ByteArray), .string (⟨#[98]⟩ : ByteArray)] 9 (0, 0))) := ⟨by rw [← hx]; exact (blk_alloc (blk_alloc f464.out _) _)⟩; clear f464; have f495 : Aside0 (x101.heap[w.heap.size + 1 + 1 + 1 + 1 + 1 + 1]? = some (.cells #[.string (⟨#[49]⟩ : ByteArray), .string (⟨#[120]⟩ : ByteArray)] 9 (0, 0))) := ⟨by rw [← hx]; exact (blk_alloc (blk_alloc f465.out _) _)⟩; clear f465; have f496 : Aside0 (x101.heap[w.heap.size + 1 + 1 + 1 + 1 + 1 + 1 + 1]? = some (.cells #[.string (⟨#[49]⟩ : ByteArray), .string (⟨#[121]⟩ : ByteArray)] 9 (0, 0))) := ⟨by rw [← hx]; exact (blk_alloc (blk_alloc f466.out _) _)⟩; clear f466; have f497 : Aside0 (x101.heap[w.heap.size + 1 + 1 + 1 + 1 + 1 + 1 + 1 + 1]? = some (.cells #[.string (⟨#[50]⟩ : ByteArray), .string (⟨#[120]⟩ : ByteArray)] 9 (0, 0))) := ⟨by rw [← hx]; exact (blk_alloc (blk_alloc f467.out _) _)⟩; clear f467; have f498 : Aside0 (x101.heap[w.heap.size + 1 + 1 + 1 + 1 + 1 + 1 + 1 + 1 + 1]? = some (.cells #[.slice (some ⟨w.heap.size + 1 + 1 + 1 + 1 + 1 + 1, 0, none⟩) 2 2, .slice (some ⟨w.heap.size + 1 + 1 + 1 + 1 + 1 + 1 + 1, 0, none⟩) 2 2, .slice (some ⟨w.heap.size + 1 + 1 + 1 + 1 + 1 + 1 + 1 + 1, 0, none⟩) 2 2] 22 (0, 0))) := ⟨by rw [← hx]; exact (blk_alloc (blk_alloc f468.out _) _)⟩; clear f468; have f499 : Aside0 (x101.heap[w.heap.size + 1 + 1 + 1 + 1 + 1 + 1 + 1 + 1 + 1 + 1]? = some (.cells #[.slice (some ⟨w.heap.size + 1 + 1 + 1 + 1 + 1, 0, none⟩) 2 2, .slice (some ⟨w.heap.size + 1 + 1 + 1 + 1 + 1 + 1 + 1 + 1 + 1, 0, none⟩) 3 3] 25 (0, 0))) := ⟨by rw [← hx]; exact (blk_alloc (blk_alloc f469.out _) _)⟩; clear f469; have f500 : Aside0 (x101.heap[w.heap.size + 1 + 1 + 1 + 1 + 1 + 1 + 1 + 1 + 1 + 1 + 1]? = some (.cells #[.string (⟨#[97]⟩ : ByteArray), .string (⟨#[98]⟩ : ByteArray)] 9 (0, 0))) := ⟨by rw [← hx]; exact (blk_alloc (blk_alloc f470.out _) _)⟩; clear f470; have f501 : Aside0 (x101.heap[w.heap.size + 1 + 1 + 1 + 1 + 1 + 1 + 1 + 1 + 1 + 1 + 1 + 1]? = some (.cells #[.string (⟨#[49]⟩ : ByteArray), .string (⟨#[120]⟩ : ByteArray)] 9 (0, 0))) := ⟨by rw [← hx]; exact (blk_alloc (blk_alloc f471.out _) _)⟩; clear f471; have f502 : Aside0 (x101.heap[w.heap.size + 1 + 1 + 1 + 1 + 1 + 1 + 1 + 1 + 1 + 1 + 1 + 1 + 1]? = some (.cells #[.string (⟨#[49]⟩ : ByteArray), .string (⟨#[120]⟩ : ByteArray)] 9 (0, 0))) := ⟨by rw [← hx]; exact (blk_alloc (blk_alloc f472.out _) _)⟩; clear f472; have f503 : Aside0 (x101.heap[w.heap.size + 1 + 1 + 1 + 1 + 1 + 1 + 1 + 1 + 1 + 1 + 1 + 1 + 1 + 1]? = some (.cells #[.slice (some ⟨w.heap.size + 1 + 1 + 1 + 1 + 1 + 1 + 1 + 1 + 1 + 1 + 1 + 1, 0, none⟩) 2 2, .slice (some ⟨w.heap.size + 1 + 1 + 1 + 1 + 1 + 1 + 1 + 1 + 1 + 1 + 1 + 1 + 1, 0, none⟩) 2 2] 22 (0, 0))) := ⟨by rw [← hx]; exact (blk_alloc (blk_alloc f473.out _) _)⟩; clear f473; have f504 : Aside0 (x101.heap[w.heap.size + 1 + 1 + 1 + 1 + 1 + 1 + 1 + 1 + 1 + 1 + 1 + 1 + 1 + 1 + 1]? = some (.cells #[.slice (some ⟨w.heap.size + 1 + 1 + 1 + 1 + 1 + 1 + 1 + 1 + 1 + 1 + 1, 0, none⟩) 2 2, .slice (some ⟨w.heap.size + 1 + 1 + 1 + 1 + 1 + 1 + 1 + 1 + 1 + 1 + 1 + 1 + 1 + 1, 0, none⟩) 2 2] 25 (0, 0))) := ⟨by rw [← hx]; exact (blk_alloc (blk_alloc f474.out _) _)⟩; clear f474; have f505 : Aside0 (x101.heap[w.heap.size + 1 + 1 + 1 + 1 + 1 + 1 + 1 + 1 + 1 + 1 + 1 + 1 + 1 + 1 + 1 + 1]? = some (.cells #[.slice (some ⟨w.heap.size, 0, none⟩) 2 2, .slice (some ⟨w.heap.size + 1 + 1 + 1, 0, none⟩) 2 2] 25 (0, 0))) := ⟨by rw [← hx]; exact (blk_alloc (blk_alloc f475.out _) _)⟩; clear f475; have f506 : Aside0 (x101.heap[w29.heap.size]? = some (.cells #[.string (⟨#[98]⟩ : ByteArray)] 9 (0, 0))) := ⟨by rw [← hx]; exact (blk_alloc (blk_alloc f476.out _) _)⟩; clear f476; have f507 : Aside0 (x101.heap[w31.heap.size]? = some (.cells #[.slice (some ⟨w.heap.size + 1 + 1 + 1 + 1 + 1, 0, none⟩) 2 2, .slice (some ⟨w.heap.size + 1 + 1 + 1 + 1 + 1 + 1 + 1 + 1 + 1, 0, none⟩) 3 3] 25 (0, 0))) := ⟨by rw [← hx]; exact (blk_alloc (blk_alloc f477.out _) _)⟩; clear f477; have f508 : Aside0 (x101.heap[w36.heap.size]? = some (.cells #[.string (⟨#[97]⟩ : ByteArray), .string (⟨#[98]⟩ : ByteArray)] 9 (0, 0))) := ⟨by rw [← hx]; exact (blk_alloc (blk_alloc f478.out _) _)⟩; clear f478; have f509 : Aside0 (x101.heap[w38.heap.size]? = some (.cells #[.string (⟨#[98]⟩ : ByteArray)] 9 (0, 0))) := ⟨by rw [← hx]; exact (blk_alloc (blk_alloc f479.out _) _)⟩; clear f479; have f510 : Aside0 (x101.heap[w42.heap.size]? = some (.cells #[.slice (some ⟨w.heap.size, 0, none⟩) 2 2, .slice (some ⟨w.heap.size + 1 + 1 + 1, 0, none⟩) 2 2] 25 (0, 0))) := ⟨by rw [← hx]; exact (blk_alloc (blk_alloc f480.out _) _)⟩; clear f480; have f511 : Aside0 (x101.heap[w42.heap.size + 1]? = some (.cells #[.string (⟨#[97]⟩ : ByteArray)] 9 (0, 0))) := ⟨by rw [← hx]; exact (blk_alloc (blk_alloc f481.out _) _)⟩; clear f481; have f512 : Aside0 (x101.heap[w48.heap.size]? = some (.cells #[.string (⟨#[98]⟩ : ByteArray)] 9 (0, 0))) := ⟨by rw [← hx]; exact (blk_alloc (blk_alloc f482.out _) _)⟩; clear f482; have f513 : Aside0 (x101.heap[w50.heap.size]? = some (.cells #[.slice (some ⟨w.heap.size + 1 + 1 + 1 + 1 + 1 + 1 + 1 + 1 + 1 + 1 + 1, 0, none⟩) 2 2, .slice (some ⟨w.heap.size + 1 + 1 + 1 + 1 + 1 + 1 + 1 + 1 + 1 + 1 + 1 + 1 + 1 + 1, 0, none⟩) 2 2] 25 (0, 0))) := ⟨by rw [← hx]; exact (blk_alloc (blk_alloc f483.out _) _)⟩; clear f483; have f514 : Aside0 (x101.heap[w63.heap.size]? = some (.cells #[.int .i64 1] 3 (0, 0))) := ⟨by rw [← hx]; exact (blk_alloc (blk_alloc f484.out _) _)⟩; clear f484; have f515 : Aside0 (x101.heap[w88.heap.size]? = some (.cells #[.slice (some ⟨w.heap.size, 0, none⟩) 2 2, .slice (some ⟨w.heap.size + 1 + 1 + 1, 0, none⟩) 2 2] 25 (0, 0))) := ⟨by rw [← hx]; exact (blk_alloc (blk_alloc f485.out _) _)⟩; clear f485; have f516 : Aside0 (x101.heap[w88.heap.size + 1]? = some (.cells #[.string (⟨#[98]⟩ : ByteArray)] 9 (0, 0))) := ⟨by rw [← hx]; exact (blk_alloc (blk_alloc f486.out _) _)⟩; clear f486; have f517 : Aside0 (x101.heap[w95.heap.size]? = some (.cells #[.slice (some ⟨w.heap.size, 0, none⟩) 2 2, .slice (some ⟨w.heap.size + 1 + 1 + 1, 0, none⟩) 2 2] 25 (0, 0))) := ⟨by rw [← hx]; exact (blk_alloc (blk_atk rfl) _)⟩; have f518 : Aside0 (x101.heap[w95.heap.size + 1]? = some (.cells #[.string (⟨#[99]⟩ : ByteArray)] 9 (0, 0))) := ⟨by rw [← hx]; exact (blk_atk (by simp only [World.size_alloc]))⟩; have HB2 : Aside0 (Below w.heap.size w x101) := ⟨by rw [← hx]; exact (below_alloc (below_alloc HB.out _) _)⟩; have HS : Aside0 (Below w95.heap.size w95 x101) := ⟨by rw [← hx]; exact (below_alloc (below_alloc (Below.refl _ _) _) _)⟩; clear HB; have HB := Aside0.mk HB2.out; clear HB2 hx; refine (usable_calls (some ⟨w95.heap.size, 0, none⟩) 1 [tW] (some ⟨w95.heap.size + 1, 0, none⟩) 1 [(⟨#[99]⟩ : ByteArray)] x101 (TabC.one (T := tW) ⟨Nat.le_refl _, (C_blk hW (by decide) f489.out), Nat.le_refl _, (C_rows _ (by decide) (fun j r hj => match j, hj with | 0, hj => by simp at hj; subst hj; exact ⟨_, 2, blk_cell f492.out 0, Nat.le_refl _, C_blk _ (by decide) f490.out⟩ | 1, hj => by simp at hj; subst hj; exact ⟨_, 2, blk_cell f492.out 1, Nat.le_refl _, C_blk _ (by decide) f491.out⟩ | j + 2, hj => by simp at hj))⟩ (blk_cell f517.out 0) (blk_cell f517.out 1)) (C_blk [(⟨#[99]⟩ : ByteArray)] (by decide) f518.out) (Nat.le_refl _) (by decide) (by decide) ok_t).mono ?_; rintro e w101 ⟨rfl, hd⟩; have f519 := Aside0.mk (blk_below f489.out hd); clear f489; have f520 := Aside0.mk (blk_below f490.out hd); clear f490; have f521 := Aside0.mk (blk_below f491.out hd); clear f491; have f522 := Aside0.mk (blk_below f492.out hd); clear f492; have f523 := Aside0.mk (blk_below f493.out hd); clear f493; have f524 := Aside0.mk (blk_below f494.out hd); clear f494; have f525 := Aside0.mk (blk_below f495.out hd); clear f495; have f526 := Aside0.mk (blk_below f496.out hd); clear f496; have f527 := Aside0.mk (blk_below f497.out hd); clear f497; have f528 := Aside0.mk (blk_below f498.out hd); clear f498; have f529 := Aside0.mk (blk_below f499.out hd); clear f499; have f530 := Aside0.mk (blk_below f500.out hd); clear f500; have f531 := Aside0.mk (blk_below f501.out hd); clear f501; have f532 := Aside0.mk (blk_below f502.out hd); clear f502; have f533 := Aside0.mk (blk_below f503.out hd); clear f503; have f534 := Aside0.mk (blk_below f504.out hd); clear f504; have f535 := Aside0.mk (blk_below f505.out hd); clear f505; have f536 := Aside0.mk (blk_below f506.out hd); clear f506; have f537 := Aside0.mk (blk_below f507.out hd); clear f507; have f538 := Aside0.mk (blk_below f508.out hd); clear f508; have f539 := Aside0.mk (blk_below f509.out hd); clear f509; have f540 := Aside0.mk (blk_below f510.out hd); clear f510; have f541 := Aside0.mk (blk_below f511.out hd); clear f511; have f542 := Aside0.mk (blk_below f512.out hd); clear f512; have f543 := Aside0.mk (blk_below f513.out hd); clear f513; have f544 := Aside0.mk (blk_below f514.out hd); clear f514; have f545 := Aside0.mk (blk_below f515.out hd); clear f515; have f546 := Aside0.mk (blk_below f516.out hd); clear f516; have f547 := Aside0.mk (blk_below f517.out hd); clear f517; have f548 := Aside0.mk (blk_below f518.out hd); clear f518; have HT := Aside0.mk (below_step HS.out hd); have HB2 := Aside0.mk (below_step HB.out hd); clear HB; have HB := Aside0.mk HB2.out; clear HB2 HS HT hd; rw [us_c]; have st12 : True := trivial))
  go_ret
  exact ⟨rfl, HB.out⟩
def tartanlaw11_works.f : Option Bool := some true
theorem tartanlaw11_works.calls (r : Bool) (w : World) (h : tartanlaw11_works.f = some r) : Calls Try.prog 13 #[] w fun e w' => e = .returned (.bool r) ∧ Below w.heap.size w w' := by
  have e : r = true := (Option.some.inj h).symm
  rw [e]
  exact works_calls w
end Go.Proofs.Ytbcpaojciephmaa.X
end
section
namespace Go.Proofs.Ytbcpaojciephmaa.X
open Go.RowKit Go.Proofs.YtbcpaojciephmaaW.PrintWords Go.Proofs.YtbcpaojciephmaaW.PrintLast Go.Proofs.YtbcpaojciephmaaW.PrintMore
attribute [local go_sem] max2_int min2_int max_two min_two max_three min_three max_four min_four   -- for this text's walks alone
set_option linter.unusedVariables false
set_option linter.unusedSimpArgs false
mutual
def tartanlaw11_KeysLeast.j0 : Nat → List (S25) → List ByteArray → List Int → Bool → Bool → Option (Bool)
 | 0, _, _, _, _, _ => none
 | k + 1, x0, x1, x2, x7, x31 => if x31 = true then (some x7) else (tartanlaw11_KeysLeast.l0 k x0 x1 x2 x7 0)
def tartanlaw11_KeysLeast.l0 : Nat → List (S25) → List ByteArray → List Int → Bool → Int → Option (Bool)
 | 0, _, _, _, _, _ => none
 | k + 1, x0, x1, x2, x7, x8 => if x8 < (x1.length : Int) then (tartanlaw11_KeysLeast.l1 k x0 x1 x2 x7 x8 0) else (tartanlaw11_KeysLeast.l2 k x0 x1 x2 x7 ([] : List ByteArray) 0)
def tartanlaw11_KeysLeast.l1 : Nat → List (S25) → List ByteArray → List Int → Bool → Int → Int → Option (Bool)
 | 0, _, _, _, _, _, _ => none
 | k + 1, x0, x1, x2, x7, x8, x9 => if x9 < x8 then (if 0 ≤ x8 then (if x8 < (x1.length : Int) then (if 0 ≤ x9 then (if x9 < (x1.length : Int) then (if (rdOf ByteArray.empty x1 x8).toList = (rdOf ByteArray.empty x1 x9).toList then (some x7) else (tartanlaw11_KeysLeast.l1 k x0 x1 x2 x7 x8 (wrap64 (x9 + 1)))) else (none)) else (none)) else (none)) else (none)) else (tartanlaw11_KeysLeast.l0 k x0 x1 x2 x7 (wrap64 (x8 + 1)))
def tartanlaw11_KeysLeast.l2 : Nat → List (S25) → List ByteArray → List Int → Bool → List ByteArray → Int → Option (Bool)
 | 0, _, _, _, _, _, _ => none
 | k + 1, x0, x1, x2, x7, x10, x11 => if x11 < (x2.length : Int) then (if 0 ≤ x11 then (if (rd x2 x11) < 0 then (some x7) else (if (rd x2 x11) ≥ (x1.length : Int) then (some x7) else (if x11 > 0 then (if 0 ≤ (wrap64 (x11 - 1)) then (if (wrap64 (x11 - 1)) < (x2.length : Int) then (if (rd x2 x11) ≤ (rd x2 (wrap64 (x11 - 1))) then (some x7) else (if 0 ≤ (rd x2 x11) then (if (rd x2 x11) < (x1.length : Int) then (if x10.length < 8796093022208 then (tartanlaw11_KeysLeast.l2 k x0 x1 x2 x7 (x10 ++ [rdOf ByteArray.empty x1 (rd x2 x11)]) (wrap64 (x11 + 1))) else (none)) else (none)) else (none))) else (none)) else (none)) else (if 0 ≤ (rd x2 x11) then (if (rd x2 x11) < (x1.length : Int) then (if x10.length < 8796093022208 then (tartanlaw11_KeysLeast.l2 k x0 x1 x2 x7 (x10 ++ [rdOf ByteArray.empty x1 (rd x2 x11)]) (wrap64 (x11 + 1))) else (none)) else (none)) else (none))))) else (none)) else ((keys_Infer.f x0 x1).bind fun t253 => (if (t253.length : Int) > 0 then ((keys_Usable.f x0 t253).bind fun t256 => (tartanlaw11_KeysLeast.j4 k x0 x1 x2 x7 x10 t253 (!t256))) else (tartanlaw11_KeysLeast.j4 k x0 x1 x2 x7 x10 t253 false)))
def tartanlaw11_KeysLeast.j4 : Nat → List (S25) → List ByteArray → List Int → Bool → List ByteArray → List ByteArray → Bool → Option (Bool)
 | 0, _, _, _, _, _, _, _ => none
 | k + 1, x0, x1, x2, x7, x10, x12, x112 => if x112 = true then (some false) else ((keys_Usable.f x0 x10).bind fun t257 => (if t257 = true then (if (x12.length : Int) = 0 then (tartanlaw11_KeysLeast.j5 k x1 x2 x7 x10 x12 true) else (tartanlaw11_KeysLeast.j5 k x1 x2 x7 x10 x12 (decide ((x12.length : Int) > (x10.length : Int))))) else (some x7)))
def tartanlaw11_KeysLeast.j5 : Nat → List ByteArray → List Int → Bool → List ByteArray → List ByteArray → Bool → Option (Bool)
 | 0, _, _, _, _, _, _ => none
 | k + 1, x1, x2, x7, x10, x12, x127 => if x127 = true then (some false) else (if (x12.length : Int) < (x10.length : Int) then (some x7) else (tartanlaw11_KeysLeast.l3 k x1 x2 x7 x10 x12 0 0))
def tartanlaw11_KeysLeast.l3 : Nat → List ByteArray → List Int → Bool → List ByteArray → List ByteArray → Int → Int → Option (Bool)
 | 0, _, _, _, _, _, _, _ => none
 | k + 1, x1, x2, x7, x10, x12, x13, x14 => if x14 < (x10.length : Int) then (tartanlaw11_KeysLeast.l4 k x1 x2 x7 x10 x12 x13 x14) else (some x7)
def tartanlaw11_KeysLeast.j8 : Nat → List ByteArray → List Int → Bool → List ByteArray → List ByteArray → Int → Int → Option (Bool)
 | 0, _, _, _, _, _, _, _ => none
 | k + 1, x1, x2, x7, x10, x12, x13, x14 => if x13 = (x1.length : Int) then (some false) else (if 0 ≤ x14 then (if x14 < (x2.length : Int) then (if x13 = (rd x2 x14) then (tartanlaw11_KeysLeast.l3 k x1 x2 x7 x10 x12 x13 (wrap64 (x14 + 1))) else (if x7 = true then (some (decide (x13 < (rd x2 x14)))) else (some false))) else (none)) else (none))
def tartanlaw11_KeysLeast.l4 : Nat → List ByteArray → List Int → Bool → List ByteArray → List ByteArray → Int → Int → Option (Bool)
 | 0, _, _, _, _, _, _, _ => none
 | k + 1, x1, x2, x7, x10, x12, x13, x14 => if x13 < (x1.length : Int) then (if 0 ≤ x13 then (if 0 ≤ x14 then (if x14 < (x12.length : Int) then (if (rdOf ByteArray.empty x1 x13).toList = (rdOf ByteArray.empty x12 x14).toList then (tartanlaw11_KeysLeast.j8 k x1 x2 x7 x10 x12 x13 x14) else (tartanlaw11_KeysLeast.l4 k x1 x2 x7 x10 x12 (wrap64 (x13 + 1)) x14)) else (none)) else (none)) else (none)) else (tartanlaw11_KeysLeast.j8 k x1 x2 x7 x10 x12 x13 x14)
end
def tartanlaw11_KeysLeast.f (k : Nat) (l0 : List (S25)) (l1 : List ByteArray) (l2 : List Int) : Option (Bool) := (tartanlaw11_works.f).bind fun t235 => (if t235 = true then ((tartanlaw11_Few.f k l0 l1).bind fun t236 => (if t236 = true then (if (l2.length : Int) < 1 then (tartanlaw11_KeysLeast.j0 k l0 l1 l2 t235 true) else (tartanlaw11_KeysLeast.j0 k l0 l1 l2 t235 (decide ((l2.length : Int) > 3)))) else (tartanlaw11_KeysLeast.j0 k l0 l1 l2 t235 true))) else (some false))
set_option maxHeartbeats 8000000 in
set_option maxRecDepth 100000 in
theorem tartanlaw11_KeysLeast.calls (k : Nat) (A0 : Option Addr) (c0 : Nat) (l0 : List (S25)) (A1 : Option Addr) (c1 : Nat) (l1 : List ByteArray) (A2 : Option Addr) (c2 : Nat) (l2 : List Int) (r : Bool) (w : World) (hr0 : Kd.C k25 w A0 l0.length l0) (hc0 : l0.length ≤ c0) (hr1 : Kd.C Kd.string w A1 l1.length l1) (hc1 : l1.length ≤ c1) (hr2 : Kd.C (Kd.int .i64) w A2 l2.length l2) (hc2 : l2.length ≤ c2) (h : tartanlaw11_KeysLeast.f k l0 l1 l2 = some r) :
  Calls Try.prog 6 #[.slice A0 l0.length c0, .slice A1 l1.length c1, .slice A2 l2.length c2] w fun e w' => e = .returned (.bool r) ∧ Below w.heap.size w w' := by
 have HR0 := Aside0.mk hr0
 have HC0 := Aside0.mk hc0
 clear hr0 hc0
 have HR1 := Aside0.mk hr1
 have HC1 := Aside0.mk hc1
 clear hr1 hc1
 have HR2 := Aside0.mk hr2
 have HC2 := Aside0.mk hc2
 clear hr2 hc2
 have HB := Aside0.mk (Below.refl w.heap.size w)
 have H : ((tartanlaw11_works.f).bind fun t235 => (if t235 = true then ((tartanlaw11_Few.f k l0 l1).bind fun t236 => (if t236 = true then (if (l2.length : Int) < 1 then (tartanlaw11_KeysLeast.j0 k l0 l1 l2 t235 true) else (tartanlaw11_KeysLeast.j0 k l0 l1 l2 t235 (decide ((l2.length : Int) > 3)))) else (tartanlaw11_KeysLeast.j0 k l0 l1 l2 t235 true))) else (some false))) = some r := h
 clear h
 replace H := Option.bind_eq_some_iff.mp H
 obtain ⟨t235, A40, H⟩ := H
 replace H : (if t235 = true then ((tartanlaw11_Few.f k l0 l1).bind fun t236 => (if t236 = true then (if (l2.length : Int) < 1 then (tartanlaw11_KeysLeast.j0 k l0 l1 l2 t235 true) else (tartanlaw11_KeysLeast.j0 k l0 l1 l2 t235 (decide ((l2.length : Int) > 3)))) else (tartanlaw11_KeysLeast.j0 k l0 l1 l2 t235 true))) else (some false)) = some r := H
 have A4 := Aside0.mk A40
 clear A40
 by_cases c5 : t235 = true
 ·subst c5
  have H1 : ((tartanlaw11_Few.f k l0 l1).bind fun t236 => (if t236 = true then (if (l2.length : Int) < 1 then (tartanlaw11_KeysLeast.j0 k l0 l1 l2 true true) else (tartanlaw11_KeysLeast.j0 k l0 l1 l2 true (decide ((l2.length : Int) > 3)))) else (tartanlaw11_KeysLeast.j0 k l0 l1 l2 true true))) = some r := by first | (rw [if_pos rfl] at H; exact H) | (rw [if_pos trivial] at H; exact H) | simpa using H
  clear H
  have H := H1
  clear H1
  have HC6 := Aside0.mk H
  clear H
  go_enter Try.func6, Try.ntmps6
  go_upto_region 4 with (first | (go_at_call 13; (with_reducible refine (tartanlaw11_works.calls  true _ A4.out).mono ?_); rintro e w7 ⟨rfl, hb⟩; have n0_ := Aside0.mk (below_step (by repeat (first | (with_reducible first | exact HB.out | apply below_alloc | apply pw_below_drewN | apply below_drew1) | exact HB.out)) hb); clear HB; have HB := n0_; clear n0_; (try clear hb); (try clear hb2); (try clear hk); (try clear hi)))
  repeat (go_quiet (first | (go_at_call 13; (with_reducible refine (tartanlaw11_works.calls  true _ A4.out).mono ?_); rintro e w7 ⟨rfl, hb⟩; have n0_ := Aside0.mk (below_step (by repeat (first | (with_reducible first | exact HB.out | apply below_alloc | apply pw_below_drewN | apply below_drew1) | exact HB.out)) hb); clear HB; have HB := n0_; clear n0_; (try clear hb); (try clear hb2); (try clear hk); (try clear hi))); go_upto_region 4 with (first | (go_at_call 13; (with_reducible refine (tartanlaw11_works.calls  true _ A4.out).mono ?_); rintro e w7 ⟨rfl, hb⟩; have n0_ := Aside0.mk (below_step (by repeat (first | (with_reducible first | exact HB.out | apply below_alloc | apply pw_below_drewN | apply below_drew1) | exact HB.out)) hb); clear HB; have HB := n0_; clear n0_; (try clear hb); (try clear hb2); (try clear hk); (try clear hi))))
  (try simp only [Act.put, List.setIfInBounds_toArray, List.set_cons_zero, List.set_cons_succ])
  go_cut [31] (fun v31 wc => ∃ (kq : Nat) (x31_5 : Bool), v31 = .bool x31_5 ∧ Aside0 (tartanlaw11_KeysLeast.j0 kq l0 l1 l2 true x31_5 = some r) ∧ Aside0 (kq ≤ k) ∧ Aside0 (Below w.heap.size w wc))
  case first =>
   have H := HC6.out
   clear HC6
   replace H := Option.bind_eq_some_iff.mp H
   obtain ⟨t236, A80, H⟩ := H
   replace H : (if t236 = true then (if (l2.length : Int) < 1 then (tartanlaw11_KeysLeast.j0 k l0 l1 l2 true true) else (tartanlaw11_KeysLeast.j0 k l0 l1 l2 true (decide ((l2.length : Int) > 3)))) else (tartanlaw11_KeysLeast.j0 k l0 l1 l2 true true)) = some r := H
   have A8 := Aside0.mk A80
   clear A80
   by_cases c9 : t236 = true
   ·subst c9
    have H1 : (if (l2.length : Int) < 1 then (tartanlaw11_KeysLeast.j0 k l0 l1 l2 true true) else (tartanlaw11_KeysLeast.j0 k l0 l1 l2 true (decide ((l2.length : Int) > 3)))) = some r := by first | (rw [if_pos rfl] at H; exact H) | (rw [if_pos trivial] at H; exact H) | simpa using H
    clear H
    have H := H1
    clear H1
    by_cases c10 : (l2.length : Int) < 1
    ·rw [if_pos c10] at H
     have c10b0 : decide ((l2.length : Int) < 1) = true := decide_eq_true c10
     have c10b1 : decide (l2.length < 1) = true := decide_eq_true (by omega)
     clear c10
     (first | rw [c10b0] | (simp only [i64_w, i32_w]; rw [c10b0]) | skip)
     have H' := Aside0.mk H
     clear H
     go_wp2_with (first | (go_at_call 14; (with_reducible refine (tartanlaw11_Few.calls k _ _ l0 _ _ l1 true _ ?side1 ?side2 ?side3 ?side4 A8.out).mono ?_); (case side1 => repeat (first | exact (Kd.C_below HR0.out HB.out) | (with_reducible refine Kd.C_alloc ?_ _) | (with_reducible refine Kd.C_drewN ?_ _) | (with_reducible refine Kd.C_drew ?_))); (case side2 => exact HC0.out); (case side3 => repeat (first | exact (Kd.C_below HR1.out HB.out) | (with_reducible refine Kd.C_alloc ?_ _) | (with_reducible refine Kd.C_drewN ?_ _) | (with_reducible refine Kd.C_drew ?_))); (case side4 => exact HC1.out); rintro e w11 ⟨rfl, hb⟩; have n0_ := Aside0.mk (below_step (by repeat (first | (with_reducible first | exact HB.out | apply below_alloc | apply pw_below_drewN | apply below_drew1) | exact HB.out)) hb); clear HB; have HB := n0_; clear n0_; (try clear hb); (try clear hb2); (try clear hk); (try clear hi)))
     repeat (go_quiet (first | (go_at_call 14; (with_reducible refine (tartanlaw11_Few.calls k _ _ l0 _ _ l1 true _ ?side1 ?side2 ?side3 ?side4 A8.out).mono ?_); (case side1 => repeat (first | exact (Kd.C_below HR0.out HB.out) | (with_reducible refine Kd.C_alloc ?_ _) | (with_reducible refine Kd.C_drewN ?_ _) | (with_reducible refine Kd.C_drew ?_))); (case side2 => exact HC0.out); (case side3 => repeat (first | exact (Kd.C_below HR1.out HB.out) | (with_reducible refine Kd.C_alloc ?_ _) | (with_reducible refine Kd.C_drewN ?_ _) | (with_reducible refine Kd.C_drew ?_))); (case side4 => exact HC1.out); rintro e w11 ⟨rfl, hb⟩; have n0_ := Aside0.mk (below_step (by repeat (first | (with_reducible first | exact HB.out | apply below_alloc | apply pw_below_drewN | apply below_drew1) | exact HB.out)) hb); clear HB; have HB := n0_; clear n0_; (try clear hb); (try clear hb2); (try clear hk); (try clear hi))); try go_wp2_with (first | (go_at_call 14; (with_reducible refine (tartanlaw11_Few.calls k _ _ l0 _ _ l1 true _ ?side1 ?side2 ?side3 ?side4 A8.out).mono ?_); (case side1 => repeat (first | exact (Kd.C_below HR0.out HB.out) | (with_reducible refine Kd.C_alloc ?_ _) | (with_reducible refine Kd.C_drewN ?_ _) | (with_reducible refine Kd.C_drew ?_))); (case side2 => exact HC0.out); (case side3 => repeat (first | exact (Kd.C_below HR1.out HB.out) | (with_reducible refine Kd.C_alloc ?_ _) | (with_reducible refine Kd.C_drewN ?_ _) | (with_reducible refine Kd.C_drew ?_))); (case side4 => exact HC1.out); rintro e w11 ⟨rfl, hb⟩; have n0_ := Aside0.mk (below_step (by repeat (first | (with_reducible first | exact HB.out | apply below_alloc | apply pw_below_drewN | apply below_drew1) | exact HB.out)) hb); clear HB; have HB := n0_; clear n0_; (try clear hb); (try clear hb2); (try clear hk); (try clear hi))))
     go_meet
     case rel => exact ⟨_, (true), (by first | rfl | (simp; done) | (simp [*]; done)), H', ⟨by first | omega | exact Nat.le_refl _⟩, ⟨by repeat (first | (with_reducible first | exact HB.out | apply below_alloc | apply pw_below_drewN | apply below_drew1) | exact HB.out)⟩⟩
    ·rw [if_neg c10] at H
     have c10b0 : decide ((l2.length : Int) < 1) = false := decide_eq_false c10
     have c10b1 : decide (l2.length < 1) = false := decide_eq_false (by omega)
     clear c10
     (first | rw [c10b0] | (simp only [i64_w, i32_w]; rw [c10b0]) | skip)
     have H' := Aside0.mk H
     clear H
     go_wp2_with (first | (go_at_call 14; (with_reducible refine (tartanlaw11_Few.calls k _ _ l0 _ _ l1 true _ ?side1 ?side2 ?side3 ?side4 A8.out).mono ?_); (case side1 => repeat (first | exact (Kd.C_below HR0.out HB.out) | (with_reducible refine Kd.C_alloc ?_ _) | (with_reducible refine Kd.C_drewN ?_ _) | (with_reducible refine Kd.C_drew ?_))); (case side2 => exact HC0.out); (case side3 => repeat (first | exact (Kd.C_below HR1.out HB.out) | (with_reducible refine Kd.C_alloc ?_ _) | (with_reducible refine Kd.C_drewN ?_ _) | (with_reducible refine Kd.C_drew ?_))); (case side4 => exact HC1.out); rintro e w12 ⟨rfl, hb⟩; have n0_ := Aside0.mk (below_step (by repeat (first | (with_reducible first | exact HB.out | apply below_alloc | apply pw_below_drewN | apply below_drew1) | exact HB.out)) hb); clear HB; have HB := n0_; clear n0_; (try clear hb); (try clear hb2); (try clear hk); (try clear hi)))
     repeat (go_quiet (first | (go_at_call 14; (with_reducible refine (tartanlaw11_Few.calls k _ _ l0 _ _ l1 true _ ?side1 ?side2 ?side3 ?side4 A8.out).mono ?_); (case side1 => repeat (first | exact (Kd.C_below HR0.out HB.out) | (with_reducible refine Kd.C_alloc ?_ _) | (with_reducible refine Kd.C_drewN ?_ _) | (with_reducible refine Kd.C_drew ?_))); (case side2 => exact HC0.out); (case side3 => repeat (first | exact (Kd.C_below HR1.out HB.out) | (with_reducible refine Kd.C_alloc ?_ _) | (with_reducible refine Kd.C_drewN ?_ _) | (with_reducible refine Kd.C_drew ?_))); (case side4 => exact HC1.out); rintro e w12 ⟨rfl, hb⟩; have n0_ := Aside0.mk (below_step (by repeat (first | (with_reducible first | exact HB.out | apply below_alloc | apply pw_below_drewN | apply below_drew1) | exact HB.out)) hb); clear HB; have HB := n0_; clear n0_; (try clear hb); (try clear hb2); (try clear hk); (try clear hi))); try go_wp2_with (first | (go_at_call 14; (with_reducible refine (tartanlaw11_Few.calls k _ _ l0 _ _ l1 true _ ?side1 ?side2 ?side3 ?side4 A8.out).mono ?_); (case side1 => repeat (first | exact (Kd.C_below HR0.out HB.out) | (with_reducible refine Kd.C_alloc ?_ _) | (with_reducible refine Kd.C_drewN ?_ _) | (with_reducible refine Kd.C_drew ?_))); (case side2 => exact HC0.out); (case side3 => repeat (first | exact (Kd.C_below HR1.out HB.out) | (with_reducible refine Kd.C_alloc ?_ _) | (with_reducible refine Kd.C_drewN ?_ _) | (with_reducible refine Kd.C_drew ?_))); (case side4 => exact HC1.out); rintro e w12 ⟨rfl, hb⟩; have n0_ := Aside0.mk (below_step (by repeat (first | (with_reducible first | exact HB.out | apply below_alloc | apply pw_below_drewN | apply below_drew1) | exact HB.out)) hb); clear HB; have HB := n0_; clear n0_; (try clear hb); (try clear hb2); (try clear hk); (try clear hi))))
     go_meet
     case rel => exact ⟨_, (decide ((l2.length : Int) > 3)), (by first | rfl | (simp; done) | (simp [*]; done)), H', ⟨by first | omega | exact Nat.le_refl _⟩, ⟨by repeat (first | (with_reducible first | exact HB.out | apply below_alloc | apply pw_below_drewN | apply below_drew1) | exact HB.out)⟩⟩
   ·replace c9 := Bool.eq_false_iff.mpr c9
    subst c9
    have H1 : (tartanlaw11_KeysLeast.j0 k l0 l1 l2 true true) = some r := by rw [if_neg (show ¬ (false = true) by decide)] at H; exact H
    clear H
    have H := H1
    clear H1
    have H' := Aside0.mk H
    clear H
    go_wp2_with (first | (go_at_call 14; (with_reducible refine (tartanlaw11_Few.calls k _ _ l0 _ _ l1 false _ ?side1 ?side2 ?side3 ?side4 A8.out).mono ?_); (case side1 => repeat (first | exact (Kd.C_below HR0.out HB.out) | (with_reducible refine Kd.C_alloc ?_ _) | (with_reducible refine Kd.C_drewN ?_ _) | (with_reducible refine Kd.C_drew ?_))); (case side2 => exact HC0.out); (case side3 => repeat (first | exact (Kd.C_below HR1.out HB.out) | (with_reducible refine Kd.C_alloc ?_ _) | (with_reducible refine Kd.C_drewN ?_ _) | (with_reducible refine Kd.C_drew ?_))); (case side4 => exact HC1.out); rintro e w13 ⟨rfl, hb⟩; have n0_ := Aside0.mk (below_step (by repeat (first | (with_reducible first | exact HB.out | apply below_alloc | apply pw_below_drewN | apply below_drew1) | exact HB.out)) hb); clear HB; have HB := n0_; clear n0_; (try clear hb); (try clear hb2); (try clear hk); (try clear hi)))
    repeat (go_quiet (first | (go_at_call 14; (with_reducible refine (tartanlaw11_Few.calls k _ _ l0 _ _ l1 false _ ?side1 ?side2 ?side3 ?side4 A8.out).mono ?_); (case side1 => repeat (first | exact (Kd.C_below HR0.out HB.out) | (with_reducible refine Kd.C_alloc ?_ _) | (with_reducible refine Kd.C_drewN ?_ _) | (with_reducible refine Kd.C_drew ?_))); (case side2 => exact HC0.out); (case side3 => repeat (first | exact (Kd.C_below HR1.out HB.out) | (with_reducible refine Kd.C_alloc ?_ _) | (with_reducible refine Kd.C_drewN ?_ _) | (with_reducible refine Kd.C_drew ?_))); (case side4 => exact HC1.out); rintro e w13 ⟨rfl, hb⟩; have n0_ := Aside0.mk (below_step (by repeat (first | (with_reducible first | exact HB.out | apply below_alloc | apply pw_below_drewN | apply below_drew1) | exact HB.out)) hb); clear HB; have HB := n0_; clear n0_; (try clear hb); (try clear hb2); (try clear hk); (try clear hi))); try go_wp2_with (first | (go_at_call 14; (with_reducible refine (tartanlaw11_Few.calls k _ _ l0 _ _ l1 false _ ?side1 ?side2 ?side3 ?side4 A8.out).mono ?_); (case side1 => repeat (first | exact (Kd.C_below HR0.out HB.out) | (with_reducible refine Kd.C_alloc ?_ _) | (with_reducible refine Kd.C_drewN ?_ _) | (with_reducible refine Kd.C_drew ?_))); (case side2 => exact HC0.out); (case side3 => repeat (first | exact (Kd.C_below HR1.out HB.out) | (with_reducible refine Kd.C_alloc ?_ _) | (with_reducible refine Kd.C_drewN ?_ _) | (with_reducible refine Kd.C_drew ?_))); (case side4 => exact HC1.out); rintro e w13 ⟨rfl, hb⟩; have n0_ := Aside0.mk (below_step (by repeat (first | (with_reducible first | exact HB.out | apply below_alloc | apply pw_below_drewN | apply below_drew1) | exact HB.out)) hb); clear HB; have HB := n0_; clear n0_; (try clear hb); (try clear hb2); (try clear hk); (try clear hi))))
    go_meet
    case rel => exact ⟨_, (true), (by first | rfl | (simp; done) | (simp [*]; done)), H', ⟨by first | omega | exact Nat.le_refl _⟩, ⟨by repeat (first | (with_reducible first | exact HB.out | apply below_alloc | apply pw_below_drewN | apply below_drew1) | exact HB.out)⟩⟩
  case rest =>
   clear HC6
   try clear c1
   try clear c2
   try clear p2
   try clear c5
   try clear c6
   try clear c9
   try clear c10
   try clear c10b0
   try clear c10b1
   obtain ⟨kq, x31_5, rfl, HA, HJ5, HB⟩ := hcut
   cases kq with
   | zero => exact absurd HA.out (by simp [tartanlaw11_KeysLeast.j0])
   | succ kj5 =>
    have H := HA.out
    clear HA
    simp only [tartanlaw11_KeysLeast.j0] at H
    by_cases c14 : x31_5 = true
    ·subst c14
     have H1 : (some true) = some r := by first | (rw [if_pos rfl] at H; exact H) | (rw [if_pos trivial] at H; exact H) | simpa using H
     clear H
     have H := H1
     clear H1
     obtain rfl := Option.some.inj H
     go_wp2
     repeat (go_quiet (fail); try go_wp2)
     go_ret
     exact ⟨by first | rfl | (simp [errW_none, errW_some] <;> rfl) | (simp [*, errW_none, errW_some] <;> rfl), by repeat (first | (with_reducible first | exact HB.out | apply below_alloc | apply pw_below_drewN | apply below_drew1) | exact HB.out)⟩
    ·replace c14 := Bool.eq_false_iff.mpr c14
     subst c14
     have H1 : (tartanlaw11_KeysLeast.l0 kj5 l0 l1 l2 true 0) = some r := by rw [if_neg (show ¬ (false = true) by decide)] at H; exact H
     clear H
     have H := H1
     clear H1
     have H' := Aside0.mk H
     clear H
     go_wp2
     repeat (go_quiet (fail); try go_wp2)
     go_loopg [8] kj5 (fun kq v8 w' => ∃ (x8_2 : Int), v8 = .int .i64 x8_2 ∧ Aside0 (tartanlaw11_KeysLeast.l0 kq l0 l1 l2 true x8_2 = some r) ∧ Aside0 (kq ≤ kj5) ∧ Aside0 (Below w.heap.size w w'))
     case atStart => exact ⟨(0), (by first | rfl | (simp; done) | (simp [*]; done)), H', ⟨Nat.le_refl _⟩, ⟨by repeat (first | (with_reducible first | exact HB.out | apply below_alloc | apply pw_below_drewN | apply below_drew1) | exact HB.out)⟩⟩
     case round =>
      clear H'
      try clear c1
      try clear c2
      try clear p2
      try clear c5
      try clear c6
      try clear c9
      try clear c10
      try clear c10b0
      try clear c10b1
      try clear c14
      try clear p2
      obtain ⟨x8_2, rfl, HA, HK2, HB⟩ := hrel
      cases gk with
      | zero => exact absurd HA.out (by simp [tartanlaw11_KeysLeast.l0])
      | succ k2 =>
       have H := HA.out
       clear HA
       simp only [tartanlaw11_KeysLeast.l0] at H
       by_cases c15 : x8_2 < (l1.length : Int)
       ·rw [if_pos c15] at H
        have c15b0 : decide (x8_2 < (l1.length : Int)) = true := decide_eq_true c15
        clear c15
        have H' := Aside0.mk H
        clear H
        go_wp2
        repeat (go_quiet (fail); try go_wp2)
        go_loopg [9] k2 (fun kq v9 w' => ∃ (x9_3 : Int), v9 = .int .i64 x9_3 ∧ Aside0 (tartanlaw11_KeysLeast.l1 kq l0 l1 l2 true x8_2 x9_3 = some r) ∧ Aside0 (kq ≤ k2) ∧ Aside0 (Below w.heap.size w w'))
        case atStart => exact ⟨(0), (by first | rfl | (simp; done) | (simp [*]; done)), H', ⟨Nat.le_refl _⟩, ⟨by repeat (first | (with_reducible first | exact HB.out | apply below_alloc | apply pw_below_drewN | apply below_drew1) | exact HB.out)⟩⟩
        case round =>
         clear H'
         try clear c1
         try clear c2
         try clear p2
         try clear c5
         try clear c6
         try clear c9
         try clear c10
         try clear c10b0
         try clear c10b1
         try clear c14
         try clear c15
         try clear c15b0
         try clear p2
         obtain ⟨x9_3, rfl, HA, HK3, HB⟩ := hrel
         cases gk with
         | zero => exact absurd HA.out (by simp [tartanlaw11_KeysLeast.l1])
         | succ k3 =>
          have H := HA.out
          clear HA
          simp only [tartanlaw11_KeysLeast.l1] at H
          by_cases c16 : x9_3 < x8_2
          ·rw [if_pos c16] at H
           have c16b0 : decide (x9_3 < x8_2) = true := decide_eq_true c16
           clear c16
           by_cases c17 : 0 ≤ x8_2
           ·rw [if_pos c17] at H
            have c17b0 : decide (0 ≤ x8_2) = true := decide_eq_true c17
            clear c17
            by_cases c18 : x8_2 < (l1.length : Int)
            ·rw [if_pos c18] at H
             have c18b0 : decide (x8_2 < (l1.length : Int)) = true := decide_eq_true c18
             clear c18
             by_cases c19 : 0 ≤ x9_3
             ·rw [if_pos c19] at H
              have c19b0 : decide (0 ≤ x9_3) = true := decide_eq_true c19
              clear c19
              by_cases c20 : x9_3 < (l1.length : Int)
              ·rw [if_pos c20] at H
               have c20b0 : decide (x9_3 < (l1.length : Int)) = true := decide_eq_true c20
               clear c20
               by_cases c21 : (rdOf ByteArray.empty l1 x8_2).toList = (rdOf ByteArray.empty l1 x9_3).toList
               ·rw [if_pos c21] at H
                have c21b0 : ((rdOf ByteArray.empty l1 x8_2).toList == (rdOf ByteArray.empty l1 x9_3).toList) = true := beq_iff_eq.mpr c21
                have c21b1 : ((rdOf ByteArray.empty l1 x8_2).toList != (rdOf ByteArray.empty l1 x9_3).toList) = false := bne_eq_false_iff_eq.mpr c21
                clear c21
                obtain rfl := Option.some.inj H
                have p237 : 0 ≤ (x8_2 : Int) := of_decide_eq_true (by first | (with_reducible assumption) | assumption)
                have q237 : x8_2 < (l1.length : Int) := of_decide_eq_true (by first | (with_reducible assumption) | assumption)
                obtain ⟨ad237, e237, hx237_0⟩ := Kd.at_string HR1.out x8_2 p237 q237
                cases e237
                replace hx237_0 := (HB.out.cell (World.block_lt_of_cell? w _ hx237_0)).trans hx237_0
                replace p237 := eq_true p237
                replace q237 := eq_true q237
                have p238 : 0 ≤ (x9_3 : Int) := of_decide_eq_true (by first | (with_reducible assumption) | assumption)
                have q238 : x9_3 < (l1.length : Int) := of_decide_eq_true (by first | (with_reducible assumption) | assumption)
                obtain ⟨ad238, e238, hx238_0⟩ := Kd.at_string HR1.out x9_3 p238 q238
                obtain rfl : ad237 = ad238 := (by injection e238)
                replace hx238_0 := (HB.out.cell (World.block_lt_of_cell? w _ hx238_0)).trans hx238_0
                replace p238 := eq_true p238
                replace q238 := eq_true q238
                go_wp2
                repeat (go_quiet (fail); try go_wp2)
                go_ret
                exact ⟨by first | rfl | (simp [errW_none, errW_some] <;> rfl) | (simp [*, errW_none, errW_some] <;> rfl), by repeat (first | (with_reducible first | exact HB.out | apply below_alloc | apply pw_below_drewN | apply below_drew1) | exact HB.out)⟩
               ·rw [if_neg c21] at H
                have c21b0 : ((rdOf ByteArray.empty l1 x8_2).toList == (rdOf ByteArray.empty l1 x9_3).toList) = false := beq_eq_false_iff_ne.mpr c21
                have c21b1 : ((rdOf ByteArray.empty l1 x8_2).toList != (rdOf ByteArray.empty l1 x9_3).toList) = true := bne_iff_ne.mpr c21
                have H' := Aside0.mk H
                clear H
                have p237 : 0 ≤ (x8_2 : Int) := of_decide_eq_true (by first | (with_reducible assumption) | assumption)
                have q237 : x8_2 < (l1.length : Int) := of_decide_eq_true (by first | (with_reducible assumption) | assumption)
                obtain ⟨ad237, e237, hx237_0⟩ := Kd.at_string HR1.out x8_2 p237 q237
                cases e237
                replace hx237_0 := (HB.out.cell (World.block_lt_of_cell? w _ hx237_0)).trans hx237_0
                replace p237 := eq_true p237
                replace q237 := eq_true q237
                have p238 : 0 ≤ (x9_3 : Int) := of_decide_eq_true (by first | (with_reducible assumption) | assumption)
                have q238 : x9_3 < (l1.length : Int) := of_decide_eq_true (by first | (with_reducible assumption) | assumption)
                obtain ⟨ad238, e238, hx238_0⟩ := Kd.at_string HR1.out x9_3 p238 q238
                obtain rfl : ad237 = ad238 := (by injection e238)
                replace hx238_0 := (HB.out.cell (World.block_lt_of_cell? w _ hx238_0)).trans hx238_0
                replace p238 := eq_true p238
                replace q238 := eq_true q238
                go_wp2
                repeat (go_quiet (fail); try go_wp2)
                go_roundg k3
                case measure => have := HJ5.out; have := HK2.out; have := HK3.out; omega
                case rel => exact ⟨(wrap64 (x9_3 + 1)), (by first | rfl | (simp; done) | (simp [*]; done)), H', ⟨by have := HJ5.out; have := HK2.out; have := HK3.out; omega⟩, ⟨by repeat (first | (with_reducible first | exact HB.out | apply below_alloc | apply pw_below_drewN | apply below_drew1) | exact HB.out)⟩⟩
              ·rw [if_neg c20] at H
               exact absurd H (by simp)
             ·rw [if_neg c19] at H
              exact absurd H (by simp)
            ·rw [if_neg c18] at H
             exact absurd H (by simp)
           ·rw [if_neg c17] at H
            exact absurd H (by simp)
          ·rw [if_neg c16] at H
           have c16b0 : decide (x9_3 < x8_2) = false := decide_eq_false c16
           clear c16
           have H' := Aside0.mk H
           clear H
           go_wp2
           repeat (go_quiet (fail); try go_wp2)
           go_roundg k3
           case measure => have := HJ5.out; have := HK2.out; have := HK3.out; omega
           case rel => exact ⟨(wrap64 (x8_2 + 1)), (by first | rfl | (simp; done) | (simp [*]; done)), H', ⟨by have := HJ5.out; have := HK2.out; have := HK3.out; omega⟩, ⟨by repeat (first | (with_reducible first | exact HB.out | apply below_alloc | apply pw_below_drewN | apply below_drew1) | exact HB.out)⟩⟩
       ·rw [if_neg c15] at H
        have c15b0 : decide (x8_2 < (l1.length : Int)) = false := decide_eq_false c15
        clear c15
        have H' := Aside0.mk H
        clear H
        go_wp2
        repeat (go_quiet (fail); try go_wp2)
        go_loopg [10, 11] k2 (fun kq v10 v11 w' => ∃ (x10_3 : List ByteArray) (x11_3 : Int), v11 = .int .i64 x11_3 ∧ Aside0 (tartanlaw11_KeysLeast.l2 kq l0 l1 l2 true x10_3 x11_3 = some r) ∧ Aside0 (kq ≤ k2) ∧ Aside0 (Kd.R Kd.string 9 w' w.heap.size (fun _ => True) v10 x10_3) ∧ Aside0 (Below w.heap.size w w'))
        case atStart => exact ⟨(([] : List ByteArray)), (0), (by first | rfl | (simp; done) | (simp [*]; done)), H', ⟨Nat.le_refl _⟩, ⟨by first | exact Kd.R_nil _ _ _ _ _ | exact Kd.N_nil _ _ _ _ _ | exact Kd.V_nil _ _ _ _ _ | exact Kd.Q_nil _ _ _ _ _ | exact Kd.S_nil _ _ _ _ _⟩, ⟨by repeat (first | (with_reducible first | exact HB.out | apply below_alloc | apply pw_below_drewN | apply below_drew1) | exact HB.out)⟩⟩
        case round =>
         clear H'
         try clear c1
         try clear c2
         try clear p2
         try clear q2
         try clear hx2
         try clear c5
         try clear c6
         try clear p6
         try clear c9
         try clear c10
         try clear c10b0
         try clear c10b1
         try clear c14
         try clear c15
         try clear c15b0
         try clear c16
         try clear c16b0
         try clear c17
         try clear c17b0
         try clear c18
         try clear c18b0
         try clear c19
         try clear c19b0
         try clear c20
         try clear c20b0
         try clear c21
         try clear c21b0
         try clear c21b1
         try clear hx237_0
         try clear hx238_0
         try clear p2
         try clear p237
         try clear p238
         try clear q237
         try clear q238
         obtain ⟨x10_3, x11_3, rfl, HA, HK3, HO_10, HB⟩ := hrel
         cases gk with
         | zero => exact absurd HA.out (by simp [tartanlaw11_KeysLeast.l2])
         | succ k3 =>
          have H := HA.out
          clear HA
          simp only [tartanlaw11_KeysLeast.l2] at H
          by_cases c22 : x11_3 < (l2.length : Int)
          ·rw [if_pos c22] at H
           have c22b0 : decide (x11_3 < (l2.length : Int)) = true := decide_eq_true c22
           clear c22
           by_cases c23 : 0 ≤ x11_3
           ·rw [if_pos c23] at H
            have c23b0 : decide (0 ≤ x11_3) = true := decide_eq_true c23
            clear c23
            by_cases c24 : (rd l2 x11_3) < 0
            ·rw [if_pos c24] at H
             have c24b0 : decide ((rd l2 x11_3) < 0) = true := decide_eq_true c24
             clear c24
             obtain rfl := Option.some.inj H
             have p239 : 0 ≤ (x11_3 : Int) := of_decide_eq_true (by first | (with_reducible assumption) | assumption)
             have q239 : x11_3 < (l2.length : Int) := of_decide_eq_true (by first | (with_reducible assumption) | assumption)
             obtain ⟨ad239, e239, hx239_0⟩ := Kd.at_int HR2.out x11_3 p239 q239
             cases e239
             replace hx239_0 := (HB.out.cell (World.block_lt_of_cell? w _ hx239_0)).trans hx239_0
             replace p239 := eq_true p239
             replace q239 := eq_true q239
             go_wp2
             repeat (go_quiet (fail); try go_wp2)
             go_ret
             exact ⟨by first | rfl | (simp [errW_none, errW_some] <;> rfl) | (simp [*, errW_none, errW_some] <;> rfl), by repeat (first | (with_reducible first | exact HB.out | apply below_alloc | apply pw_below_drewN | apply below_drew1) | exact HB.out)⟩
            ·rw [if_neg c24] at H
             have c24b0 : decide ((rd l2 x11_3) < 0) = false := decide_eq_false c24
             clear c24
             by_cases c25 : (rd l2 x11_3) ≥ (l1.length : Int)
             ·rw [if_pos c25] at H
              have c25b0 : decide ((l1.length : Int) ≤ (rd l2 x11_3)) = true := decide_eq_true c25
              clear c25
              obtain rfl := Option.some.inj H
              have p239 : 0 ≤ (x11_3 : Int) := of_decide_eq_true (by first | (with_reducible assumption) | assumption)
              have q239 : x11_3 < (l2.length : Int) := of_decide_eq_true (by first | (with_reducible assumption) | assumption)
              obtain ⟨ad239, e239, hx239_0⟩ := Kd.at_int HR2.out x11_3 p239 q239
              cases e239
              replace hx239_0 := (HB.out.cell (World.block_lt_of_cell? w _ hx239_0)).trans hx239_0
              replace p239 := eq_true p239
              replace q239 := eq_true q239
              have p240 : 0 ≤ (x11_3 : Int) := of_decide_eq_true (by first | (with_reducible assumption) | assumption)
              have q240 : x11_3 < (l2.length : Int) := of_decide_eq_true (by first | (with_reducible assumption) | assumption)
              obtain ⟨ad240, e240, hx240_0⟩ := Kd.at_int HR2.out x11_3 p240 q240
              obtain rfl : ad239 = ad240 := (by injection e240)
              replace hx240_0 := (HB.out.cell (World.block_lt_of_cell? w _ hx240_0)).trans hx240_0
              replace p240 := eq_true p240
              replace q240 := eq_true q240
              go_wp2
              repeat (go_quiet (fail); try go_wp2)
              go_ret
              exact ⟨by first | rfl | (simp [errW_none, errW_some] <;> rfl) | (simp [*, errW_none, errW_some] <;> rfl), by repeat (first | (with_reducible first | exact HB.out | apply below_alloc | apply pw_below_drewN | apply below_drew1) | exact HB.out)⟩
             ·rw [if_neg c25] at H
              have c25b0 : decide ((l1.length : Int) ≤ (rd l2 x11_3)) = false := decide_eq_false c25
              clear c25
              by_cases c26 : x11_3 > 0
              ·rw [if_pos c26] at H
               have c26b0 : decide (0 < x11_3) = true := decide_eq_true c26
               clear c26
               obtain ⟨ji27, hji27⟩ : ∃ j_ : Int, (wrap64 (x11_3 - 1)) = j_ := ⟨_, rfl⟩
               replace H : (if 0 ≤ (ji27) then (if (ji27) < (l2.length : Int) then (if (rd l2 x11_3) ≤ (rd l2 (ji27)) then (some true) else (if 0 ≤ (rd l2 x11_3) then (if (rd l2 x11_3) < (l1.length : Int) then (if x10_3.length < 8796093022208 then (tartanlaw11_KeysLeast.l2 k3 l0 l1 l2 true (x10_3 ++ [rdOf ByteArray.empty l1 (rd l2 x11_3)]) (wrap64 (x11_3 + 1))) else (none)) else (none)) else (none))) else (none)) else (none)) = some r := by first | (rw [hji27] at H; exact H) | (simp only [hji27] at H ⊢; exact H)
               have hji27w : (IntKind.i64.wrap (x11_3 - 1)) = ji27 := (i64_w _).trans hji27
               by_cases c28 : 0 ≤ (ji27)
               ·rw [if_pos c28] at H
                have c28b0 : decide (0 ≤ (ji27)) = true := decide_eq_true c28
                clear c28
                by_cases c29 : (ji27) < (l2.length : Int)
                ·rw [if_pos c29] at H
                 have c29b0 : decide ((ji27) < (l2.length : Int)) = true := decide_eq_true c29
                 clear c29
                 by_cases c30 : (rd l2 x11_3) ≤ (rd l2 (ji27))
                 ·rw [if_pos c30] at H
                  have c30b0 : decide ((rd l2 x11_3) ≤ (rd l2 (ji27))) = true := decide_eq_true c30
                  clear c30
                  obtain rfl := Option.some.inj H
                  have p239 : 0 ≤ (x11_3 : Int) := of_decide_eq_true (by first | (with_reducible assumption) | assumption)
                  have q239 : x11_3 < (l2.length : Int) := of_decide_eq_true (by first | (with_reducible assumption) | assumption)
                  obtain ⟨ad239, e239, hx239_0⟩ := Kd.at_int HR2.out x11_3 p239 q239
                  cases e239
                  replace hx239_0 := (HB.out.cell (World.block_lt_of_cell? w _ hx239_0)).trans hx239_0
                  replace p239 := eq_true p239
                  replace q239 := eq_true q239
                  have p240 : 0 ≤ (x11_3 : Int) := of_decide_eq_true (by first | (with_reducible assumption) | assumption)
                  have q240 : x11_3 < (l2.length : Int) := of_decide_eq_true (by first | (with_reducible assumption) | assumption)
                  obtain ⟨ad240, e240, hx240_0⟩ := Kd.at_int HR2.out x11_3 p240 q240
                  obtain rfl : ad239 = ad240 := (by injection e240)
                  replace hx240_0 := (HB.out.cell (World.block_lt_of_cell? w _ hx240_0)).trans hx240_0
                  replace p240 := eq_true p240
                  replace q240 := eq_true q240
                  have p241 : 0 ≤ (x11_3 : Int) := of_decide_eq_true (by first | (with_reducible assumption) | assumption)
                  have q241 : x11_3 < (l2.length : Int) := of_decide_eq_true (by first | (with_reducible assumption) | assumption)
                  obtain ⟨ad241, e241, hx241_0⟩ := Kd.at_int HR2.out x11_3 p241 q241
                  obtain rfl : ad239 = ad241 := (by injection e241)
                  replace hx241_0 := (HB.out.cell (World.block_lt_of_cell? w _ hx241_0)).trans hx241_0
                  replace p241 := eq_true p241
                  replace q241 := eq_true q241
                  have p242 : 0 ≤ ((ji27) : Int) := of_decide_eq_true (by first | (with_reducible assumption) | assumption)
                  have q242 : (ji27) < (l2.length : Int) := of_decide_eq_true (by first | (with_reducible assumption) | assumption)
                  obtain ⟨ad242, e242, hx242_0⟩ := Kd.at_int HR2.out (ji27) p242 q242
                  obtain rfl : ad239 = ad242 := (by injection e242)
                  replace hx242_0 := (HB.out.cell (World.block_lt_of_cell? w _ hx242_0)).trans hx242_0
                  replace p242 := eq_true p242
                  replace q242 := eq_true q242
                  go_wp2
                  repeat (go_quiet (fail); try go_wp2)
                  go_ret
                  exact ⟨by first | rfl | (simp [errW_none, errW_some] <;> rfl) | (simp only [← hji27]; first | rfl | (simp [errW_none, errW_some] <;> rfl)) | (simp [*, errW_none, errW_some] <;> rfl), by repeat (first | (with_reducible first | exact HB.out | apply below_alloc | apply pw_below_drewN | apply below_drew1) | exact HB.out)⟩
                 ·rw [if_neg c30] at H
                  have c30b0 : decide ((rd l2 x11_3) ≤ (rd l2 (ji27))) = false := decide_eq_false c30
                  clear c30
                  by_cases c31 : 0 ≤ (rd l2 x11_3)
                  ·rw [if_pos c31] at H
                   have c31b0 : decide (0 ≤ (rd l2 x11_3)) = true := decide_eq_true c31
                   clear c31
                   by_cases c32 : (rd l2 x11_3) < (l1.length : Int)
                   ·rw [if_pos c32] at H
                    have c32b0 : decide ((rd l2 x11_3) < (l1.length : Int)) = true := decide_eq_true c32
                    clear c32
                    by_cases c33 : x10_3.length < 8796093022208
                    ·rw [if_pos c33] at H
                     have LMc33 := Aside0.mk c33
                     clear c33
                     obtain ⟨y245, hy245⟩ : ∃ y_ : List ByteArray, y_ = (x10_3 ++ [rdOf ByteArray.empty l1 (rd l2 x11_3)]) := ⟨_, rfl⟩
                     replace H : (tartanlaw11_KeysLeast.l2 k3 l0 l1 l2 true y245 (wrap64 (x11_3 + 1))) = some r := by first | (rw [hy245]; with_reducible exact H) | (have H2_ := (Option.bind_some _ _).symm.trans H; rw [hy245]; with_reducible exact H2_) | (have H2_ := (Option.bind_some _ _).symm.trans H; with_reducible exact H2_) | with_reducible exact H | (rw [hy245]; exact H) | exact H
                     have Ny245 := Aside0.mk hy245
                     clear hy245
                     have H' := Aside0.mk H
                     clear H
                     have p239 : 0 ≤ (x11_3 : Int) := of_decide_eq_true (by first | (with_reducible assumption) | assumption)
                     have q239 : x11_3 < (l2.length : Int) := of_decide_eq_true (by first | (with_reducible assumption) | assumption)
                     obtain ⟨ad239, e239, hx239_0⟩ := Kd.at_int HR2.out x11_3 p239 q239
                     cases e239
                     replace hx239_0 := (HB.out.cell (World.block_lt_of_cell? w _ hx239_0)).trans hx239_0
                     replace p239 := eq_true p239
                     replace q239 := eq_true q239
                     have p240 : 0 ≤ (x11_3 : Int) := of_decide_eq_true (by first | (with_reducible assumption) | assumption)
                     have q240 : x11_3 < (l2.length : Int) := of_decide_eq_true (by first | (with_reducible assumption) | assumption)
                     obtain ⟨ad240, e240, hx240_0⟩ := Kd.at_int HR2.out x11_3 p240 q240
                     obtain rfl : ad239 = ad240 := (by injection e240)
                     replace hx240_0 := (HB.out.cell (World.block_lt_of_cell? w _ hx240_0)).trans hx240_0
                     replace p240 := eq_true p240
                     replace q240 := eq_true q240
                     have p241 : 0 ≤ (x11_3 : Int) := of_decide_eq_true (by first | (with_reducible assumption) | assumption)
                     have q241 : x11_3 < (l2.length : Int) := of_decide_eq_true (by first | (with_reducible assumption) | assumption)
                     obtain ⟨ad241, e241, hx241_0⟩ := Kd.at_int HR2.out x11_3 p241 q241
                     obtain rfl : ad239 = ad241 := (by injection e241)
                     replace hx241_0 := (HB.out.cell (World.block_lt_of_cell? w _ hx241_0)).trans hx241_0
                     replace p241 := eq_true p241
                     replace q241 := eq_true q241
                     have p242 : 0 ≤ ((ji27) : Int) := of_decide_eq_true (by first | (with_reducible assumption) | assumption)
                     have q242 : (ji27) < (l2.length : Int) := of_decide_eq_true (by first | (with_reducible assumption) | assumption)
                     obtain ⟨ad242, e242, hx242_0⟩ := Kd.at_int HR2.out (ji27) p242 q242
                     obtain rfl : ad239 = ad242 := (by injection e242)
                     replace hx242_0 := (HB.out.cell (World.block_lt_of_cell? w _ hx242_0)).trans hx242_0
                     replace p242 := eq_true p242
                     replace q242 := eq_true q242
                     have p243 : 0 ≤ (x11_3 : Int) := of_decide_eq_true (by first | (with_reducible assumption) | assumption)
                     have q243 : x11_3 < (l2.length : Int) := of_decide_eq_true (by first | (with_reducible assumption) | assumption)
                     obtain ⟨ad243, e243, hx243_0⟩ := Kd.at_int HR2.out x11_3 p243 q243
                     obtain rfl : ad239 = ad243 := (by injection e243)
                     replace hx243_0 := (HB.out.cell (World.block_lt_of_cell? w _ hx243_0)).trans hx243_0
                     replace p243 := eq_true p243
                     replace q243 := eq_true q243
                     have p244 : 0 ≤ ((rd l2 x11_3) : Int) := of_decide_eq_true (by first | (with_reducible assumption) | assumption)
                     have q244 : (rd l2 x11_3) < (l1.length : Int) := of_decide_eq_true (by first | (with_reducible assumption) | assumption)
                     obtain ⟨ad244, e244, hx244_0⟩ := Kd.at_string HR1.out (rd l2 x11_3) p244 q244
                     cases e244
                     replace hx244_0 := (HB.out.cell (World.block_lt_of_cell? w _ hx244_0)).trans hx244_0
                     replace p244 := eq_true p244
                     replace q244 := eq_true q244
                     go_wp2_with (first | ((with_reducible refine gate_builtin (b := .append) (xs := #[.tmp 91, .tmp 99]) rfl ?_); (try (refine gate_guard (by rfl) ?_; dsimp only)); at_builtin; refine Kd.R_append Kd.string (w0 := w) w.heap.size rfl (.tmp 91) (.tmp 99) 22 9 (.string ⟨#[]⟩) 16 rfl Try.underlying22 info9 rfl (by decide) (by omega) u10 x10_3 (rdOf ByteArray.empty l1 (rd l2 x11_3)) [.string (rdOf ByteArray.empty l1 (rd l2 x11_3))] (fun _ => True) (fun _ => False) rfl rfl ?aP (fun _ hk => hk.elim) ?aF ?aO ?aB ?aS ?aL ?_; (case aP => exact rfl); (case aB => exact (by repeat (first | (with_reducible first | exact HB.out | apply below_alloc | apply pw_below_drewN | apply below_drew1) | exact HB.out))); (case aF => exact (fun _ _ => trivial)); (case aO => exact (by (with_reducible repeat (first | apply Kd.R_alloc | apply Kd.R_drewN | apply Kd.R_drew)); exact HO_10.out)); (case aS => exact (below_size (by repeat (first | (with_reducible first | exact HB.out | apply below_alloc | apply pw_below_drewN | apply below_drew1) | exact HB.out)))); (case aL => have := LMc33.out; omega); intro v246 w34 ho hb hg hat; rw [← Ny245.out] at ho; have n0_ := Aside0.mk (hb); have n1_ := Aside0.mk (ho); clear HB; clear HO_10; have HB := n0_; have HO247 := n1_; clear n0_ n1_; clear ho hb hg hat))
                     repeat (go_quiet (first | ((with_reducible refine gate_builtin (b := .append) (xs := #[.tmp 91, .tmp 99]) rfl ?_); (try (refine gate_guard (by rfl) ?_; dsimp only)); at_builtin; refine Kd.R_append Kd.string (w0 := w) w.heap.size rfl (.tmp 91) (.tmp 99) 22 9 (.string ⟨#[]⟩) 16 rfl Try.underlying22 info9 rfl (by decide) (by omega) u10 x10_3 (rdOf ByteArray.empty l1 (rd l2 x11_3)) [.string (rdOf ByteArray.empty l1 (rd l2 x11_3))] (fun _ => True) (fun _ => False) rfl rfl ?aP (fun _ hk => hk.elim) ?aF ?aO ?aB ?aS ?aL ?_; (case aP => exact rfl); (case aB => exact (by repeat (first | (with_reducible first | exact HB.out | apply below_alloc | apply pw_below_drewN | apply below_drew1) | exact HB.out))); (case aF => exact (fun _ _ => trivial)); (case aO => exact (by (with_reducible repeat (first | apply Kd.R_alloc | apply Kd.R_drewN | apply Kd.R_drew)); exact HO_10.out)); (case aS => exact (below_size (by repeat (first | (with_reducible first | exact HB.out | apply below_alloc | apply pw_below_drewN | apply below_drew1) | exact HB.out)))); (case aL => have := LMc33.out; omega); intro v246 w34 ho hb hg hat; rw [← Ny245.out] at ho; have n0_ := Aside0.mk (hb); have n1_ := Aside0.mk (ho); clear HB; clear HO_10; have HB := n0_; have HO247 := n1_; clear n0_ n1_; clear ho hb hg hat)); try go_wp2_with (first | ((with_reducible refine gate_builtin (b := .append) (xs := #[.tmp 91, .tmp 99]) rfl ?_); (try (refine gate_guard (by rfl) ?_; dsimp only)); at_builtin; refine Kd.R_append Kd.string (w0 := w) w.heap.size rfl (.tmp 91) (.tmp 99) 22 9 (.string ⟨#[]⟩) 16 rfl Try.underlying22 info9 rfl (by decide) (by omega) u10 x10_3 (rdOf ByteArray.empty l1 (rd l2 x11_3)) [.string (rdOf ByteArray.empty l1 (rd l2 x11_3))] (fun _ => True) (fun _ => False) rfl rfl ?aP (fun _ hk => hk.elim) ?aF ?aO ?aB ?aS ?aL ?_; (case aP => exact rfl); (case aB => exact (by repeat (first | (with_reducible first | exact HB.out | apply below_alloc | apply pw_below_drewN | apply below_drew1) | exact HB.out))); (case aF => exact (fun _ _ => trivial)); (case aO => exact (by (with_reducible repeat (first | apply Kd.R_alloc | apply Kd.R_drewN | apply Kd.R_drew)); exact HO_10.out)); (case aS => exact (below_size (by repeat (first | (with_reducible first | exact HB.out | apply below_alloc | apply pw_below_drewN | apply below_drew1) | exact HB.out)))); (case aL => have := LMc33.out; omega); intro v246 w34 ho hb hg hat; rw [← Ny245.out] at ho; have n0_ := Aside0.mk (hb); have n1_ := Aside0.mk (ho); clear HB; clear HO_10; have HB := n0_; have HO247 := n1_; clear n0_ n1_; clear ho hb hg hat)))
                     go_roundg k3
                     case measure => have := HJ5.out; have := HK2.out; have := HK3.out; omega
                     case rel => exact ⟨(y245), (wrap64 (x11_3 + 1)), (by first | rfl | (simp; done) | (simp [*]; done)), H', ⟨by have := HJ5.out; have := HK2.out; have := HK3.out; omega⟩, ⟨by (with_reducible repeat (first | apply Kd.R_alloc | apply Kd.R_drewN | apply Kd.R_drew)); exact HO247.out⟩, ⟨by repeat (first | (with_reducible first | exact HB.out | apply below_alloc | apply pw_below_drewN | apply below_drew1) | exact HB.out)⟩⟩
                    ·rw [if_neg c33] at H
                     exact absurd H (by simp)
                   ·rw [if_neg c32] at H
                    exact absurd H (by simp)
                  ·rw [if_neg c31] at H
                   exact absurd H (by simp)
                ·rw [if_neg c29] at H
                 exact absurd H (by simp)
               ·rw [if_neg c28] at H
                exact absurd H (by simp)
              ·rw [if_neg c26] at H
               have c26b0 : decide (0 < x11_3) = false := decide_eq_false c26
               clear c26
               by_cases c35 : 0 ≤ (rd l2 x11_3)
               ·rw [if_pos c35] at H
                have c35b0 : decide (0 ≤ (rd l2 x11_3)) = true := decide_eq_true c35
                clear c35
                by_cases c36 : (rd l2 x11_3) < (l1.length : Int)
                ·rw [if_pos c36] at H
                 have c36b0 : decide ((rd l2 x11_3) < (l1.length : Int)) = true := decide_eq_true c36
                 clear c36
                 by_cases c37 : x10_3.length < 8796093022208
                 ·rw [if_pos c37] at H
                  have LMc37 := Aside0.mk c37
                  clear c37
                  obtain ⟨y250, hy250⟩ : ∃ y_ : List ByteArray, y_ = (x10_3 ++ [rdOf ByteArray.empty l1 (rd l2 x11_3)]) := ⟨_, rfl⟩
                  replace H : (tartanlaw11_KeysLeast.l2 k3 l0 l1 l2 true y250 (wrap64 (x11_3 + 1))) = some r := by first | (rw [hy250]; with_reducible exact H) | (have H2_ := (Option.bind_some _ _).symm.trans H; rw [hy250]; with_reducible exact H2_) | (have H2_ := (Option.bind_some _ _).symm.trans H; with_reducible exact H2_) | with_reducible exact H | (rw [hy250]; exact H) | exact H
                  have Ny250 := Aside0.mk hy250
                  clear hy250
                  have H' := Aside0.mk H
                  clear H
                  have p239 : 0 ≤ (x11_3 : Int) := of_decide_eq_true (by first | (with_reducible assumption) | assumption)
                  have q239 : x11_3 < (l2.length : Int) := of_decide_eq_true (by first | (with_reducible assumption) | assumption)
                  obtain ⟨ad239, e239, hx239_0⟩ := Kd.at_int HR2.out x11_3 p239 q239
                  cases e239
                  replace hx239_0 := (HB.out.cell (World.block_lt_of_cell? w _ hx239_0)).trans hx239_0
                  replace p239 := eq_true p239
                  replace q239 := eq_true q239
                  have p240 : 0 ≤ (x11_3 : Int) := of_decide_eq_true (by first | (with_reducible assumption) | assumption)
                  have q240 : x11_3 < (l2.length : Int) := of_decide_eq_true (by first | (with_reducible assumption) | assumption)
                  obtain ⟨ad240, e240, hx240_0⟩ := Kd.at_int HR2.out x11_3 p240 q240
                  obtain rfl : ad239 = ad240 := (by injection e240)
                  replace hx240_0 := (HB.out.cell (World.block_lt_of_cell? w _ hx240_0)).trans hx240_0
                  replace p240 := eq_true p240
                  replace q240 := eq_true q240
                  have p248 : 0 ≤ (x11_3 : Int) := of_decide_eq_true (by first | (with_reducible assumption) | assumption)
                  have q248 : x11_3 < (l2.length : Int) := of_decide_eq_true (by first | (with_reducible assumption) | assumption)
                  obtain ⟨ad248, e248, hx248_0⟩ := Kd.at_int HR2.out x11_3 p248 q248
                  obtain rfl : ad239 = ad248 := (by injection e248)
                  replace hx248_0 := (HB.out.cell (World.block_lt_of_cell? w _ hx248_0)).trans hx248_0
                  replace p248 := eq_true p248
                  replace q248 := eq_true q248
                  have p249 : 0 ≤ ((rd l2 x11_3) : Int) := of_decide_eq_true (by first | (with_reducible assumption) | assumption)
                  have q249 : (rd l2 x11_3) < (l1.length : Int) := of_decide_eq_true (by first | (with_reducible assumption) | assumption)
                  obtain ⟨ad249, e249, hx249_0⟩ := Kd.at_string HR1.out (rd l2 x11_3) p249 q249
                  cases e249
                  replace hx249_0 := (HB.out.cell (World.block_lt_of_cell? w _ hx249_0)).trans hx249_0
                  replace p249 := eq_true p249
                  replace q249 := eq_true q249
                  go_wp2_with (first | ((with_reducible refine gate_builtin (b := .append) (xs := #[.tmp 91, .tmp 99]) rfl ?_); (try (refine gate_guard (by rfl) ?_; dsimp only)); at_builtin; refine Kd.R_append Kd.string (w0 := w) w.heap.size rfl (.tmp 91) (.tmp 99) 22 9 (.string ⟨#[]⟩) 16 rfl Try.underlying22 info9 rfl (by decide) (by omega) u10 x10_3 (rdOf ByteArray.empty l1 (rd l2 x11_3)) [.string (rdOf ByteArray.empty l1 (rd l2 x11_3))] (fun _ => True) (fun _ => False) rfl rfl ?aP (fun _ hk => hk.elim) ?aF ?aO ?aB ?aS ?aL ?_; (case aP => exact rfl); (case aB => exact (by repeat (first | (with_reducible first | exact HB.out | apply below_alloc | apply pw_below_drewN | apply below_drew1) | exact HB.out))); (case aF => exact (fun _ _ => trivial)); (case aO => exact (by (with_reducible repeat (first | apply Kd.R_alloc | apply Kd.R_drewN | apply Kd.R_drew)); exact HO_10.out)); (case aS => exact (below_size (by repeat (first | (with_reducible first | exact HB.out | apply below_alloc | apply pw_below_drewN | apply below_drew1) | exact HB.out)))); (case aL => have := LMc37.out; omega); intro v251 w38 ho hb hg hat; rw [← Ny250.out] at ho; have n0_ := Aside0.mk (hb); have n1_ := Aside0.mk (ho); clear HB; clear HO_10; have HB := n0_; have HO252 := n1_; clear n0_ n1_; clear ho hb hg hat))
                  repeat (go_quiet (first | ((with_reducible refine gate_builtin (b := .append) (xs := #[.tmp 91, .tmp 99]) rfl ?_); (try (refine gate_guard (by rfl) ?_; dsimp only)); at_builtin; refine Kd.R_append Kd.string (w0 := w) w.heap.size rfl (.tmp 91) (.tmp 99) 22 9 (.string ⟨#[]⟩) 16 rfl Try.underlying22 info9 rfl (by decide) (by omega) u10 x10_3 (rdOf ByteArray.empty l1 (rd l2 x11_3)) [.string (rdOf ByteArray.empty l1 (rd l2 x11_3))] (fun _ => True) (fun _ => False) rfl rfl ?aP (fun _ hk => hk.elim) ?aF ?aO ?aB ?aS ?aL ?_; (case aP => exact rfl); (case aB => exact (by repeat (first | (with_reducible first | exact HB.out | apply below_alloc | apply pw_below_drewN | apply below_drew1) | exact HB.out))); (case aF => exact (fun _ _ => trivial)); (case aO => exact (by (with_reducible repeat (first | apply Kd.R_alloc | apply Kd.R_drewN | apply Kd.R_drew)); exact HO_10.out)); (case aS => exact (below_size (by repeat (first | (with_reducible first | exact HB.out | apply below_alloc | apply pw_below_drewN | apply below_drew1) | exact HB.out)))); (case aL => have := LMc37.out; omega); intro v251 w38 ho hb hg hat; rw [← Ny250.out] at ho; have n0_ := Aside0.mk (hb); have n1_ := Aside0.mk (ho); clear HB; clear HO_10; have HB := n0_; have HO252 := n1_; clear n0_ n1_; clear ho hb hg hat)); try go_wp2_with (first | ((with_reducible refine gate_builtin (b := .append) (xs := #[.tmp 91, .tmp 99]) rfl ?_); (try (refine gate_guard (by rfl) ?_; dsimp only)); at_builtin; refine Kd.R_append Kd.string (w0 := w) w.heap.size rfl (.tmp 91) (.tmp 99) 22 9 (.string ⟨#[]⟩) 16 rfl Try.underlying22 info9 rfl (by decide) (by omega) u10 x10_3 (rdOf ByteArray.empty l1 (rd l2 x11_3)) [.string (rdOf ByteArray.empty l1 (rd l2 x11_3))] (fun _ => True) (fun _ => False) rfl rfl ?aP (fun _ hk => hk.elim) ?aF ?aO ?aB ?aS ?aL ?_; (case aP => exact rfl); (case aB => exact (by repeat (first | (with_reducible first | exact HB.out | apply below_alloc | apply pw_below_drewN | apply below_drew1) | exact HB.out))); (case aF => exact (fun _ _ => trivial)); (case aO => exact (by (with_reducible repeat (first | apply Kd.R_alloc | apply Kd.R_drewN | apply Kd.R_drew)); exact HO_10.out)); (case aS => exact (below_size (by repeat (first | (with_reducible first | exact HB.out | apply below_alloc | apply pw_below_drewN | apply below_drew1) | exact HB.out)))); (case aL => have := LMc37.out; omega); intro v251 w38 ho hb hg hat; rw [← Ny250.out] at ho; have n0_ := Aside0.mk (hb); have n1_ := Aside0.mk (ho); clear HB; clear HO_10; have HB := n0_; have HO252 := n1_; clear n0_ n1_; clear ho hb hg hat)))
                  go_roundg k3
                  case measure => have := HJ5.out; have := HK2.out; have := HK3.out; omega
                  case rel => exact ⟨(y250), (wrap64 (x11_3 + 1)), (by first | rfl | (simp; done) | (simp [*]; done)), H', ⟨by have := HJ5.out; have := HK2.out; have := HK3.out; omega⟩, ⟨by (with_reducible repeat (first | apply Kd.R_alloc | apply Kd.R_drewN | apply Kd.R_drew)); exact HO252.out⟩, ⟨by repeat (first | (with_reducible first | exact HB.out | apply below_alloc | apply pw_below_drewN | apply below_drew1) | exact HB.out)⟩⟩
                 ·rw [if_neg c37] at H
                  exact absurd H (by simp)
                ·rw [if_neg c36] at H
                 exact absurd H (by simp)
               ·rw [if_neg c35] at H
                exact absurd H (by simp)
           ·rw [if_neg c23] at H
            exact absurd H (by simp)
          ·rw [if_neg c22] at H
           have c22b0 : decide (x11_3 < (l2.length : Int)) = false := decide_eq_false c22
           clear c22
           replace H := Option.bind_eq_some_iff.mp H
           obtain ⟨t253, A390, H⟩ := H
           replace H : (if (t253.length : Int) > 0 then ((keys_Usable.f l0 t253).bind fun t256 => (tartanlaw11_KeysLeast.j4 k3 l0 l1 l2 true x10_3 t253 (!t256))) else (tartanlaw11_KeysLeast.j4 k3 l0 l1 l2 true x10_3 t253 false)) = some r := H
           have A39 := Aside0.mk A390
           clear A390
           have HC40 := Aside0.mk H
           clear H
           go_upto_region 22 with (first | (go_at_call 21; (with_reducible refine (keys_Infer.calls _ _ l0 _ _ l1 t253 _ ?side1 ?side2 ?side3 ?side4 A39.out).mono ?_); (case side1 => repeat (first | exact (Kd.C_below HR0.out HB.out) | (with_reducible refine Kd.C_alloc ?_ _) | (with_reducible refine Kd.C_drewN ?_ _) | (with_reducible refine Kd.C_drew ?_))); (case side2 => exact HC0.out); (case side3 => repeat (first | exact (Kd.C_below HR1.out HB.out) | (with_reducible refine Kd.C_alloc ?_ _) | (with_reducible refine Kd.C_drewN ?_ _) | (with_reducible refine Kd.C_drew ?_))); (case side4 => exact HC1.out); rintro e w41 ⟨v254, rfl, ho0, hb⟩; have n0_ := Aside0.mk (Kd.R_elder' (by (with_reducible repeat (first | apply Kd.R_alloc | apply Kd.R_drewN | apply Kd.R_drew)); exact HO_10.out) (Kd.R_base ho0) hb); have n1_ := Aside0.mk (Kd.R_lower (Kd.R_new' ho0 (Kd.R_lt (by (with_reducible repeat (first | apply Kd.R_alloc | apply Kd.R_drewN | apply Kd.R_drew)); exact HO_10.out))) (below_size (by repeat (first | (with_reducible first | exact HB.out | apply below_alloc | apply pw_below_drewN | apply below_drew1) | exact HB.out)))); have n2_ := Aside0.mk (below_step (by repeat (first | (with_reducible first | exact HB.out | apply below_alloc | apply pw_below_drewN | apply below_drew1) | exact HB.out)) hb); clear HO_10; clear HB; have HO_10 := n0_; have HO255 := n1_; have HB := n2_; clear n0_ n1_ n2_; (try clear hb); (try clear hb2); (try clear hk); (try clear hi); (try clear ho0)))
           repeat (go_quiet (first | (go_at_call 21; (with_reducible refine (keys_Infer.calls _ _ l0 _ _ l1 t253 _ ?side1 ?side2 ?side3 ?side4 A39.out).mono ?_); (case side1 => repeat (first | exact (Kd.C_below HR0.out HB.out) | (with_reducible refine Kd.C_alloc ?_ _) | (with_reducible refine Kd.C_drewN ?_ _) | (with_reducible refine Kd.C_drew ?_))); (case side2 => exact HC0.out); (case side3 => repeat (first | exact (Kd.C_below HR1.out HB.out) | (with_reducible refine Kd.C_alloc ?_ _) | (with_reducible refine Kd.C_drewN ?_ _) | (with_reducible refine Kd.C_drew ?_))); (case side4 => exact HC1.out); rintro e w41 ⟨v254, rfl, ho0, hb⟩; have n0_ := Aside0.mk (Kd.R_elder' (by (with_reducible repeat (first | apply Kd.R_alloc | apply Kd.R_drewN | apply Kd.R_drew)); exact HO_10.out) (Kd.R_base ho0) hb); have n1_ := Aside0.mk (Kd.R_lower (Kd.R_new' ho0 (Kd.R_lt (by (with_reducible repeat (first | apply Kd.R_alloc | apply Kd.R_drewN | apply Kd.R_drew)); exact HO_10.out))) (below_size (by repeat (first | (with_reducible first | exact HB.out | apply below_alloc | apply pw_below_drewN | apply below_drew1) | exact HB.out)))); have n2_ := Aside0.mk (below_step (by repeat (first | (with_reducible first | exact HB.out | apply below_alloc | apply pw_below_drewN | apply below_drew1) | exact HB.out)) hb); clear HO_10; clear HB; have HO_10 := n0_; have HO255 := n1_; have HB := n2_; clear n0_ n1_ n2_; (try clear hb); (try clear hb2); (try clear hk); (try clear hi); (try clear ho0))); go_upto_region 22 with (first | (go_at_call 21; (with_reducible refine (keys_Infer.calls _ _ l0 _ _ l1 t253 _ ?side1 ?side2 ?side3 ?side4 A39.out).mono ?_); (case side1 => repeat (first | exact (Kd.C_below HR0.out HB.out) | (with_reducible refine Kd.C_alloc ?_ _) | (with_reducible refine Kd.C_drewN ?_ _) | (with_reducible refine Kd.C_drew ?_))); (case side2 => exact HC0.out); (case side3 => repeat (first | exact (Kd.C_below HR1.out HB.out) | (with_reducible refine Kd.C_alloc ?_ _) | (with_reducible refine Kd.C_drewN ?_ _) | (with_reducible refine Kd.C_drew ?_))); (case side4 => exact HC1.out); rintro e w41 ⟨v254, rfl, ho0, hb⟩; have n0_ := Aside0.mk (Kd.R_elder' (by (with_reducible repeat (first | apply Kd.R_alloc | apply Kd.R_drewN | apply Kd.R_drew)); exact HO_10.out) (Kd.R_base ho0) hb); have n1_ := Aside0.mk (Kd.R_lower (Kd.R_new' ho0 (Kd.R_lt (by (with_reducible repeat (first | apply Kd.R_alloc | apply Kd.R_drewN | apply Kd.R_drew)); exact HO_10.out))) (below_size (by repeat (first | (with_reducible first | exact HB.out | apply below_alloc | apply pw_below_drewN | apply below_drew1) | exact HB.out)))); have n2_ := Aside0.mk (below_step (by repeat (first | (with_reducible first | exact HB.out | apply below_alloc | apply pw_below_drewN | apply below_drew1) | exact HB.out)) hb); clear HO_10; clear HB; have HO_10 := n0_; have HO255 := n1_; have HB := n2_; clear n0_ n1_ n2_; (try clear hb); (try clear hb2); (try clear hk); (try clear hi); (try clear ho0))))
           (try simp only [Act.put, List.setIfInBounds_toArray, List.set_cons_zero, List.set_cons_succ])
           go_cut [112] (fun v112 wc => ∃ (kq : Nat) (x112_39 : Bool), v112 = .bool x112_39 ∧ Aside0 (tartanlaw11_KeysLeast.j4 kq l0 l1 l2 true x10_3 t253 x112_39 = some r) ∧ Aside0 (kq ≤ k3) ∧ Aside0 (Kd.R Kd.string 9 wc w.heap.size (fun k_ => some k_ ≠ (v254 : Value).ownBlock) u10 x10_3) ∧ Aside0 (Kd.R Kd.string 9 wc w.heap.size (fun k_ => some k_ ≠ (u10 : Value).ownBlock) v254 t253) ∧ Aside0 (Below w.heap.size w wc))
           case first =>
            have H := HC40.out
            clear HC40
            by_cases c42 : (t253.length : Int) > 0
            ·rw [if_pos c42] at H
             have c42b0 : decide (0 < (t253.length : Int)) = true := decide_eq_true c42
             have c42b1 : decide (0 < t253.length) = true := decide_eq_true (by omega)
             clear c42
             (first | rw [c42b0] | (simp only [i64_w, i32_w]; rw [c42b0]) | skip)
             replace H := Option.bind_eq_some_iff.mp H
             obtain ⟨t256, A430, H⟩ := H
             replace H : (tartanlaw11_KeysLeast.j4 k3 l0 l1 l2 true x10_3 t253 (!t256)) = some r := H
             have A43 := Aside0.mk A430
             clear A430
             have H' := Aside0.mk H
             clear H
             obtain ⟨Ao44, co44, eo44⟩ := Kd.R_slice HO255.out
             subst eo44
             go_wp2_with (first | (go_at_call 25; (with_reducible refine (keys_Usable.calls _ _ l0 _ _ t253 t256 _ ?side1 ?side2 ?side3 ?side4 A43.out).mono ?_); (case side1 => repeat (first | exact (Kd.C_below HR0.out HB.out) | (with_reducible refine Kd.C_alloc ?_ _) | (with_reducible refine Kd.C_drewN ?_ _) | (with_reducible refine Kd.C_drew ?_))); (case side2 => exact HC0.out); (case side3 => repeat (first | exact (Kd.R_reads' HO255.out).2.2 | (with_reducible refine Kd.C_alloc ?_ _) | (with_reducible refine Kd.C_drewN ?_ _) | (with_reducible refine Kd.C_drew ?_))); (case side4 => exact (Kd.R_reads' HO255.out).2.1); rintro e w45 ⟨rfl, hb⟩; have n0_ := Aside0.mk (Kd.R_below (by (with_reducible repeat (first | apply Kd.R_alloc | apply Kd.R_drewN | apply Kd.R_drew)); exact HO_10.out) hb); have n1_ := Aside0.mk (Kd.R_below (by (with_reducible repeat (first | apply Kd.R_alloc | apply Kd.R_drewN | apply Kd.R_drew)); exact HO255.out) hb); have n2_ := Aside0.mk (below_step (by repeat (first | (with_reducible first | exact HB.out | apply below_alloc | apply pw_below_drewN | apply below_drew1) | exact HB.out)) hb); clear HO_10; clear HO255; clear HB; have HO_10 := n0_; have HO255 := n1_; have HB := n2_; clear n0_ n1_ n2_; (try clear hb); (try clear hb2); (try clear hk); (try clear hi)))
             repeat (go_quiet (first | (go_at_call 25; (with_reducible refine (keys_Usable.calls _ _ l0 _ _ t253 t256 _ ?side1 ?side2 ?side3 ?side4 A43.out).mono ?_); (case side1 => repeat (first | exact (Kd.C_below HR0.out HB.out) | (with_reducible refine Kd.C_alloc ?_ _) | (with_reducible refine Kd.C_drewN ?_ _) | (with_reducible refine Kd.C_drew ?_))); (case side2 => exact HC0.out); (case side3 => repeat (first | exact (Kd.R_reads' HO255.out).2.2 | (with_reducible refine Kd.C_alloc ?_ _) | (with_reducible refine Kd.C_drewN ?_ _) | (with_reducible refine Kd.C_drew ?_))); (case side4 => exact (Kd.R_reads' HO255.out).2.1); rintro e w45 ⟨rfl, hb⟩; have n0_ := Aside0.mk (Kd.R_below (by (with_reducible repeat (first | apply Kd.R_alloc | apply Kd.R_drewN | apply Kd.R_drew)); exact HO_10.out) hb); have n1_ := Aside0.mk (Kd.R_below (by (with_reducible repeat (first | apply Kd.R_alloc | apply Kd.R_drewN | apply Kd.R_drew)); exact HO255.out) hb); have n2_ := Aside0.mk (below_step (by repeat (first | (with_reducible first | exact HB.out | apply below_alloc | apply pw_below_drewN | apply below_drew1) | exact HB.out)) hb); clear HO_10; clear HO255; clear HB; have HO_10 := n0_; have HO255 := n1_; have HB := n2_; clear n0_ n1_ n2_; (try clear hb); (try clear hb2); (try clear hk); (try clear hi))); try go_wp2_with (first | (go_at_call 25; (with_reducible refine (keys_Usable.calls _ _ l0 _ _ t253 t256 _ ?side1 ?side2 ?side3 ?side4 A43.out).mono ?_); (case side1 => repeat (first | exact (Kd.C_below HR0.out HB.out) | (with_reducible refine Kd.C_alloc ?_ _) | (with_reducible refine Kd.C_drewN ?_ _) | (with_reducible refine Kd.C_drew ?_))); (case side2 => exact HC0.out); (case side3 => repeat (first | exact (Kd.R_reads' HO255.out).2.2 | (with_reducible refine Kd.C_alloc ?_ _) | (with_reducible refine Kd.C_drewN ?_ _) | (with_reducible refine Kd.C_drew ?_))); (case side4 => exact (Kd.R_reads' HO255.out).2.1); rintro e w45 ⟨rfl, hb⟩; have n0_ := Aside0.mk (Kd.R_below (by (with_reducible repeat (first | apply Kd.R_alloc | apply Kd.R_drewN | apply Kd.R_drew)); exact HO_10.out) hb); have n1_ := Aside0.mk (Kd.R_below (by (with_reducible repeat (first | apply Kd.R_alloc | apply Kd.R_drewN | apply Kd.R_drew)); exact HO255.out) hb); have n2_ := Aside0.mk (below_step (by repeat (first | (with_reducible first | exact HB.out | apply below_alloc | apply pw_below_drewN | apply below_drew1) | exact HB.out)) hb); clear HO_10; clear HO255; clear HB; have HO_10 := n0_; have HO255 := n1_; have HB := n2_; clear n0_ n1_ n2_; (try clear hb); (try clear hb2); (try clear hk); (try clear hi))))
             go_meet
             case rel => exact ⟨_, (!t256), (by first | rfl | (simp; done) | (simp [*]; done)), H', ⟨by have := HJ5.out; have := HK2.out; have := HK3.out; first | omega | exact Nat.le_refl _⟩, ⟨by (with_reducible repeat (first | apply Kd.R_alloc | apply Kd.R_drewN | apply Kd.R_drew)); exact Kd.R_mono HO_10.out (fun _ hk => hk.2)⟩, ⟨by (with_reducible repeat (first | apply Kd.R_alloc | apply Kd.R_drewN | apply Kd.R_drew)); exact Kd.R_mono HO255.out (fun _ hk => hk.2)⟩, ⟨by repeat (first | (with_reducible first | exact HB.out | apply below_alloc | apply pw_below_drewN | apply below_drew1) | exact HB.out)⟩⟩
            ·rw [if_neg c42] at H
             have c42b0 : decide (0 < (t253.length : Int)) = false := decide_eq_false c42
             have c42b1 : decide (0 < t253.length) = false := decide_eq_false (by omega)
             clear c42
             (first | rw [c42b0] | (simp only [i64_w, i32_w]; rw [c42b0]) | skip)
             have H' := Aside0.mk H
             clear H
             obtain ⟨Ao46, co46, eo46⟩ := Kd.R_slice HO255.out
             subst eo46
             go_wp2
             repeat (go_quiet (fail); try go_wp2)
             go_meet
             case rel => exact ⟨_, (false), (by first | rfl | (simp; done) | (simp [*]; done)), H', ⟨by have := HJ5.out; have := HK2.out; have := HK3.out; first | omega | exact Nat.le_refl _⟩, ⟨by (with_reducible repeat (first | apply Kd.R_alloc | apply Kd.R_drewN | apply Kd.R_drew)); exact Kd.R_mono HO_10.out (fun _ hk => hk.2)⟩, ⟨by (with_reducible repeat (first | apply Kd.R_alloc | apply Kd.R_drewN | apply Kd.R_drew)); exact Kd.R_mono HO255.out (fun _ hk => hk.2)⟩, ⟨by repeat (first | (with_reducible first | exact HB.out | apply below_alloc | apply pw_below_drewN | apply below_drew1) | exact HB.out)⟩⟩
           case rest =>
            clear HC40
            try clear c1
            try clear c2
            try clear p2
            try clear q2
            try clear hx2
            try clear c3
            try clear c4
            try clear c5
            try clear c6
            try clear p6
            try clear c9
            try clear c10
            try clear c10b0
            try clear c10b1
            try clear c14
            try clear c15
            try clear c15b0
            try clear c16
            try clear c16b0
            try clear c17
            try clear c17b0
            try clear c18
            try clear c18b0
            try clear c19
            try clear c19b0
            try clear c20
            try clear c20b0
            try clear c21
            try clear c21b0
            try clear c21b1
            try clear c22
            try clear c22b0
            try clear c23
            try clear c23b0
            try clear p23
            try clear q23
            try clear hx23
            try clear c24
            try clear c24b0
            try clear p24
            try clear q24
            try clear hx24
            try clear c25
            try clear c25b0
            try clear c26
            try clear c26b0
            try clear c28
            try clear c28b0
            try clear c29
            try clear c29b0
            try clear c30
            try clear c30b0
            try clear c31
            try clear c31b0
            try clear c32
            try clear c32b0
            try clear c33
            try clear c35
            try clear c35b0
            try clear c36
            try clear c36b0
            try clear c37
            try clear c42
            try clear c42b0
            try clear c42b1
            try clear hx237_0
            try clear hx238_0
            try clear hx239_0
            try clear hx240_0
            try clear hx241_0
            try clear hx242_0
            try clear hx243_0
            try clear hx244_0
            try clear hx248_0
            try clear hx249_0
            try clear p2
            try clear p237
            try clear p238
            try clear p239
            try clear p240
            try clear p241
            try clear p242
            try clear p243
            try clear p244
            try clear p248
            try clear p249
            try clear p6
            try clear q2
            try clear q237
            try clear q238
            try clear q239
            try clear q240
            try clear q241
            try clear q242
            try clear q243
            try clear q244
            try clear q248
            try clear q249
            obtain ⟨kq, x112_39, rfl, HA, HJ39, HO_10, HO_12, HB⟩ := hcut
            cases kq with
            | zero => exact absurd HA.out (by simp [tartanlaw11_KeysLeast.j4])
            | succ kj39 =>
             have H := HA.out
             clear HA
             simp only [tartanlaw11_KeysLeast.j4] at H
             by_cases c47 : x112_39 = true
             ·subst c47
              have H1 : (some false) = some r := by first | (rw [if_pos rfl] at H; exact H) | (rw [if_pos trivial] at H; exact H) | simpa using H
              clear H
              have H := H1
              clear H1
              obtain rfl := Option.some.inj H
              go_wp2
              repeat (go_quiet (fail); try go_wp2)
              go_ret
              exact ⟨by first | rfl | (simp [errW_none, errW_some] <;> rfl) | (simp [*, errW_none, errW_some] <;> rfl), by repeat (first | (with_reducible first | exact HB.out | apply below_alloc | apply pw_below_drewN | apply below_drew1) | exact HB.out)⟩
             ·replace c47 := Bool.eq_false_iff.mpr c47
              subst c47
              have H1 : ((keys_Usable.f l0 x10_3).bind fun t257 => (if t257 = true then (if (t253.length : Int) = 0 then (tartanlaw11_KeysLeast.j5 kj39 l1 l2 true x10_3 t253 true) else (tartanlaw11_KeysLeast.j5 kj39 l1 l2 true x10_3 t253 (decide ((t253.length : Int) > (x10_3.length : Int))))) else (some true))) = some r := by rw [if_neg (show ¬ (false = true) by decide)] at H; exact H
              clear H
              have H := H1
              clear H1
              replace H := Option.bind_eq_some_iff.mp H
              obtain ⟨t257, A480, H⟩ := H
              replace H : (if t257 = true then (if (t253.length : Int) = 0 then (tartanlaw11_KeysLeast.j5 kj39 l1 l2 true x10_3 t253 true) else (tartanlaw11_KeysLeast.j5 kj39 l1 l2 true x10_3 t253 (decide ((t253.length : Int) > (x10_3.length : Int))))) else (some true)) = some r := H
              have A48 := Aside0.mk A480
              clear A480
              by_cases c49 : t257 = true
              ·subst c49
               have H1 : (if (t253.length : Int) = 0 then (tartanlaw11_KeysLeast.j5 kj39 l1 l2 true x10_3 t253 true) else (tartanlaw11_KeysLeast.j5 kj39 l1 l2 true x10_3 t253 (decide ((t253.length : Int) > (x10_3.length : Int))))) = some r := by first | (rw [if_pos rfl] at H; exact H) | (rw [if_pos trivial] at H; exact H) | simpa using H
               clear H
               have H := H1
               clear H1
               have HC50 := Aside0.mk H
               clear H
               obtain ⟨Ao51, co51, eo51⟩ := Kd.R_slice HO_10.out
               subst eo51
               go_upto_region 26 with (first | (go_at_call 25; (with_reducible refine (keys_Usable.calls _ _ l0 _ _ x10_3 true _ ?side1 ?side2 ?side3 ?side4 A48.out).mono ?_); (case side1 => repeat (first | exact (Kd.C_below HR0.out HB.out) | (with_reducible refine Kd.C_alloc ?_ _) | (with_reducible refine Kd.C_drewN ?_ _) | (with_reducible refine Kd.C_drew ?_))); (case side2 => exact HC0.out); (case side3 => repeat (first | exact (Kd.R_reads' HO_10.out).2.2 | (with_reducible refine Kd.C_alloc ?_ _) | (with_reducible refine Kd.C_drewN ?_ _) | (with_reducible refine Kd.C_drew ?_))); (case side4 => exact (Kd.R_reads' HO_10.out).2.1); rintro e w52 ⟨rfl, hb⟩; have n0_ := Aside0.mk (Kd.R_below (by (with_reducible repeat (first | apply Kd.R_alloc | apply Kd.R_drewN | apply Kd.R_drew)); exact HO_10.out) hb); have n1_ := Aside0.mk (Kd.R_below (by (with_reducible repeat (first | apply Kd.R_alloc | apply Kd.R_drewN | apply Kd.R_drew)); exact HO_12.out) hb); have n2_ := Aside0.mk (below_step (by repeat (first | (with_reducible first | exact HB.out | apply below_alloc | apply pw_below_drewN | apply below_drew1) | exact HB.out)) hb); clear HO_10; clear HO_12; clear HB; have HO_10 := n0_; have HO_12 := n1_; have HB := n2_; clear n0_ n1_ n2_; (try clear hb); (try clear hb2); (try clear hk); (try clear hi)))
               repeat (go_quiet (first | (go_at_call 25; (with_reducible refine (keys_Usable.calls _ _ l0 _ _ x10_3 true _ ?side1 ?side2 ?side3 ?side4 A48.out).mono ?_); (case side1 => repeat (first | exact (Kd.C_below HR0.out HB.out) | (with_reducible refine Kd.C_alloc ?_ _) | (with_reducible refine Kd.C_drewN ?_ _) | (with_reducible refine Kd.C_drew ?_))); (case side2 => exact HC0.out); (case side3 => repeat (first | exact (Kd.R_reads' HO_10.out).2.2 | (with_reducible refine Kd.C_alloc ?_ _) | (with_reducible refine Kd.C_drewN ?_ _) | (with_reducible refine Kd.C_drew ?_))); (case side4 => exact (Kd.R_reads' HO_10.out).2.1); rintro e w52 ⟨rfl, hb⟩; have n0_ := Aside0.mk (Kd.R_below (by (with_reducible repeat (first | apply Kd.R_alloc | apply Kd.R_drewN | apply Kd.R_drew)); exact HO_10.out) hb); have n1_ := Aside0.mk (Kd.R_below (by (with_reducible repeat (first | apply Kd.R_alloc | apply Kd.R_drewN | apply Kd.R_drew)); exact HO_12.out) hb); have n2_ := Aside0.mk (below_step (by repeat (first | (with_reducible first | exact HB.out | apply below_alloc | apply pw_below_drewN | apply below_drew1) | exact HB.out)) hb); clear HO_10; clear HO_12; clear HB; have HO_10 := n0_; have HO_12 := n1_; have HB := n2_; clear n0_ n1_ n2_; (try clear hb); (try clear hb2); (try clear hk); (try clear hi))); go_upto_region 26 with (first | (go_at_call 25; (with_reducible refine (keys_Usable.calls _ _ l0 _ _ x10_3 true _ ?side1 ?side2 ?side3 ?side4 A48.out).mono ?_); (case side1 => repeat (first | exact (Kd.C_below HR0.out HB.out) | (with_reducible refine Kd.C_alloc ?_ _) | (with_reducible refine Kd.C_drewN ?_ _) | (with_reducible refine Kd.C_drew ?_))); (case side2 => exact HC0.out); (case side3 => repeat (first | exact (Kd.R_reads' HO_10.out).2.2 | (with_reducible refine Kd.C_alloc ?_ _) | (with_reducible refine Kd.C_drewN ?_ _) | (with_reducible refine Kd.C_drew ?_))); (case side4 => exact (Kd.R_reads' HO_10.out).2.1); rintro e w52 ⟨rfl, hb⟩; have n0_ := Aside0.mk (Kd.R_below (by (with_reducible repeat (first | apply Kd.R_alloc | apply Kd.R_drewN | apply Kd.R_drew)); exact HO_10.out) hb); have n1_ := Aside0.mk (Kd.R_below (by (with_reducible repeat (first | apply Kd.R_alloc | apply Kd.R_drewN | apply Kd.R_drew)); exact HO_12.out) hb); have n2_ := Aside0.mk (below_step (by repeat (first | (with_reducible first | exact HB.out | apply below_alloc | apply pw_below_drewN | apply below_drew1) | exact HB.out)) hb); clear HO_10; clear HO_12; clear HB; have HO_10 := n0_; have HO_12 := n1_; have HB := n2_; clear n0_ n1_ n2_; (try clear hb); (try clear hb2); (try clear hk); (try clear hi))))
               (try simp only [Act.put, List.setIfInBounds_toArray, List.set_cons_zero, List.set_cons_succ])
               go_cut [127] (fun v127 wc => ∃ (kq : Nat) (x127_49 : Bool), v127 = .bool x127_49 ∧ Aside0 (tartanlaw11_KeysLeast.j5 kq l1 l2 true x10_3 t253 x127_49 = some r) ∧ Aside0 (kq ≤ kj39) ∧ Aside0 (Kd.R Kd.string 9 wc w.heap.size (fun k_ => some k_ ≠ (v254 : Value).ownBlock) (.slice Ao51 x10_3.length co51) x10_3) ∧ Aside0 (Kd.R Kd.string 9 wc w.heap.size (fun k_ => some k_ ≠ ((.slice Ao51 x10_3.length co51) : Value).ownBlock) v254 t253) ∧ Aside0 (Below w.heap.size w wc))
               case first =>
                have H := HC50.out
                clear HC50
                by_cases c53 : (t253.length : Int) = 0
                ·rw [if_pos c53] at H
                 have c53b0 : ((t253.length : Int) == 0) = true := beq_iff_eq.mpr c53
                 have c53b1 : ((t253.length : Int) != 0) = false := bne_eq_false_iff_eq.mpr c53
                 clear c53
                 (first | rw [c53b0] | (simp only [i64_w, i32_w]; rw [c53b0]) | skip)
                 have H' := Aside0.mk H
                 clear H
                 obtain ⟨Ao54, co54, eo54⟩ := Kd.R_slice HO_12.out
                 subst eo54
                 go_wp2
                 repeat (go_quiet (fail); try go_wp2)
                 go_meet
                 case rel => exact ⟨_, (true), (by first | rfl | (simp; done) | (simp [*]; done)), H', ⟨by have := HJ5.out; have := HK2.out; have := HK3.out; have := HJ39.out; first | omega | exact Nat.le_refl _⟩, ⟨by (with_reducible repeat (first | apply Kd.R_alloc | apply Kd.R_drewN | apply Kd.R_drew)); exact HO_10.out⟩, ⟨by (with_reducible repeat (first | apply Kd.R_alloc | apply Kd.R_drewN | apply Kd.R_drew)); exact HO_12.out⟩, ⟨by repeat (first | (with_reducible first | exact HB.out | apply below_alloc | apply pw_below_drewN | apply below_drew1) | exact HB.out)⟩⟩
                ·rw [if_neg c53] at H
                 have c53b0 : ((t253.length : Int) == 0) = false := beq_eq_false_iff_ne.mpr c53
                 have c53b1 : ((t253.length : Int) != 0) = true := bne_iff_ne.mpr c53
                 have c53b2 : ¬ (t253 = []) := fun h_ => c53 (by rw [h_]; rfl)
                 (first | rw [c53b0] | (simp only [i64_w, i32_w]; rw [c53b0]) | skip)
                 have H' := Aside0.mk H
                 clear H
                 obtain ⟨Ao55, co55, eo55⟩ := Kd.R_slice HO_12.out
                 subst eo55
                 go_wp2
                 repeat (go_quiet (fail); try go_wp2)
                 go_meet
                 case rel => exact ⟨_, (decide ((t253.length : Int) > (x10_3.length : Int))), (by first | rfl | (simp; done) | (simp [*]; done)), H', ⟨by have := HJ5.out; have := HK2.out; have := HK3.out; have := HJ39.out; first | omega | exact Nat.le_refl _⟩, ⟨by (with_reducible repeat (first | apply Kd.R_alloc | apply Kd.R_drewN | apply Kd.R_drew)); exact HO_10.out⟩, ⟨by (with_reducible repeat (first | apply Kd.R_alloc | apply Kd.R_drewN | apply Kd.R_drew)); exact HO_12.out⟩, ⟨by repeat (first | (with_reducible first | exact HB.out | apply below_alloc | apply pw_below_drewN | apply below_drew1) | exact HB.out)⟩⟩
               case rest =>
                clear HC50
                try clear c1
                try clear c2
                try clear p2
                try clear q2
                try clear hx2
                try clear c3
                try clear c4
                try clear c5
                try clear c6
                try clear p6
                try clear c9
                try clear c10
                try clear c10b0
                try clear c10b1
                try clear c14
                try clear c15
                try clear c15b0
                try clear c16
                try clear c16b0
                try clear c17
                try clear c17b0
                try clear c18
                try clear c18b0
                try clear c19
                try clear c19b0
                try clear c20
                try clear c20b0
                try clear c21
                try clear c21b0
                try clear c21b1
                try clear c22
                try clear c22b0
                try clear c23
                try clear c23b0
                try clear p23
                try clear q23
                try clear hx23
                try clear c24
                try clear c24b0
                try clear p24
                try clear q24
                try clear hx24
                try clear c25
                try clear c25b0
                try clear c26
                try clear c26b0
                try clear c28
                try clear c28b0
                try clear c29
                try clear c29b0
                try clear c30
                try clear c30b0
                try clear c31
                try clear c31b0
                try clear c32
                try clear c32b0
                try clear c33
                try clear c35
                try clear c35b0
                try clear c36
                try clear c36b0
                try clear c37
                try clear c42
                try clear c42b0
                try clear c42b1
                try clear c47
                try clear c49
                try clear c53
                try clear c53b0
                try clear c53b1
                try clear c53b2
                try clear hx237_0
                try clear hx238_0
                try clear hx239_0
                try clear hx240_0
                try clear hx241_0
                try clear hx242_0
                try clear hx243_0
                try clear hx244_0
                try clear hx248_0
                try clear hx249_0
                try clear p2
                try clear p23
                try clear p237
                try clear p238
                try clear p239
                try clear p24
                try clear p240
                try clear p241
                try clear p242
                try clear p243
                try clear p244
                try clear p248
                try clear p249
                try clear p6
                try clear q2
                try clear q23
                try clear q237
                try clear q238
                try clear q239
                try clear q24
                try clear q240
                try clear q241
                try clear q242
                try clear q243
                try clear q244
                try clear q248
                try clear q249
                obtain ⟨kq, x127_49, rfl, HA, HJ49, HO_10, HO_12, HB⟩ := hcut
                cases kq with
                | zero => exact absurd HA.out (by simp [tartanlaw11_KeysLeast.j5])
                | succ kj49 =>
                 have H := HA.out
                 clear HA
                 simp only [tartanlaw11_KeysLeast.j5] at H
                 by_cases c56 : x127_49 = true
                 ·subst c56
                  have H1 : (some false) = some r := by first | (rw [if_pos rfl] at H; exact H) | (rw [if_pos trivial] at H; exact H) | simpa using H
                  clear H
                  have H := H1
                  clear H1
                  obtain rfl := Option.some.inj H
                  go_wp2
                  repeat (go_quiet (fail); try go_wp2)
                  go_ret
                  exact ⟨by first | rfl | (simp [errW_none, errW_some] <;> rfl) | (simp [*, errW_none, errW_some] <;> rfl), by repeat (first | (with_reducible first | exact HB.out | apply below_alloc | apply pw_below_drewN | apply below_drew1) | exact HB.out)⟩
                 ·replace c56 := Bool.eq_false_iff.mpr c56
                  subst c56
                  have H1 : (if (t253.length : Int) < (x10_3.length : Int) then (some true) else (tartanlaw11_KeysLeast.l3 kj49 l1 l2 true x10_3 t253 0 0)) = some r := by rw [if_neg (show ¬ (false = true) by decide)] at H; exact H
                  clear H
                  have H := H1
                  clear H1
                  by_cases c57 : (t253.length : Int) < (x10_3.length : Int)
                  ·rw [if_pos c57] at H
                   have c57b0 : decide ((t253.length : Int) < (x10_3.length : Int)) = true := decide_eq_true c57
                   have c57b1 : decide (t253.length < x10_3.length) = true := decide_eq_true (Int.ofNat_lt.mp c57)
                   clear c57
                   obtain rfl := Option.some.inj H
                   obtain ⟨Ao58, co58, eo58⟩ := Kd.R_slice HO_12.out
                   subst eo58
                   go_wp2
                   repeat (go_quiet (fail); try go_wp2)
                   go_ret
                   exact ⟨by first | rfl | (simp [errW_none, errW_some] <;> rfl) | (simp [*, errW_none, errW_some] <;> rfl), by repeat (first | (with_reducible first | exact HB.out | apply below_alloc | apply pw_below_drewN | apply below_drew1) | exact HB.out)⟩
                  ·rw [if_neg c57] at H
                   have c57b0 : decide ((t253.length : Int) < (x10_3.length : Int)) = false := decide_eq_false c57
                   have c57b1 : decide (t253.length < x10_3.length) = false := decide_eq_false (fun h => c57 (Int.ofNat_lt.mpr h))
                   clear c57
                   have H' := Aside0.mk H
                   clear H
                   obtain ⟨Ao59, co59, eo59⟩ := Kd.R_slice HO_12.out
                   subst eo59
                   go_wp2
                   repeat (go_quiet (fail); try go_wp2)
                   go_loopg [13, 14] kj49 (fun kq v13 v14 w' => ∃ (x13_6 : Int) (x14_6 : Int), v13 = .int .i64 x13_6 ∧ v14 = .int .i64 x14_6 ∧ Aside0 (tartanlaw11_KeysLeast.l3 kq l1 l2 true x10_3 t253 x13_6 x14_6 = some r) ∧ Aside0 (kq ≤ kj49) ∧ Aside0 (Kd.R Kd.string 9 w' w.heap.size (fun k_ => some k_ ≠ ((.slice Ao59 t253.length co59) : Value).ownBlock) (.slice Ao51 x10_3.length co51) x10_3) ∧ Aside0 (Kd.R Kd.string 9 w' w.heap.size (fun k_ => some k_ ≠ ((.slice Ao51 x10_3.length co51) : Value).ownBlock) (.slice Ao59 t253.length co59) t253) ∧ Aside0 (Below w.heap.size w w'))
                   case atStart => exact ⟨(0), (0), (by first | rfl | (simp; done) | (simp [*]; done)), (by first | rfl | (simp; done) | (simp [*]; done)), H', ⟨Nat.le_refl _⟩, ⟨by (with_reducible repeat (first | apply Kd.R_alloc | apply Kd.R_drewN | apply Kd.R_drew)); exact HO_10.out⟩, ⟨by (with_reducible repeat (first | apply Kd.R_alloc | apply Kd.R_drewN | apply Kd.R_drew)); exact HO_12.out⟩, ⟨by repeat (first | (with_reducible first | exact HB.out | apply below_alloc | apply pw_below_drewN | apply below_drew1) | exact HB.out)⟩⟩
                   case round =>
                    clear H'
                    try clear c1
                    try clear c2
                    try clear p2
                    try clear q2
                    try clear hx2
                    try clear c3
                    try clear c4
                    try clear c5
                    try clear c6
                    try clear p6
                    try clear c9
                    try clear c10
                    try clear c10b0
                    try clear c10b1
                    try clear c14
                    try clear c15
                    try clear c15b0
                    try clear c16
                    try clear c16b0
                    try clear c17
                    try clear c17b0
                    try clear c18
                    try clear c18b0
                    try clear c19
                    try clear c19b0
                    try clear c20
                    try clear c20b0
                    try clear c21
                    try clear c21b0
                    try clear c21b1
                    try clear c22
                    try clear c22b0
                    try clear c23
                    try clear c23b0
                    try clear p23
                    try clear q23
                    try clear hx23
                    try clear c24
                    try clear c24b0
                    try clear p24
                    try clear q24
                    try clear hx24
                    try clear c25
                    try clear c25b0
                    try clear c26
                    try clear c26b0
                    try clear c28
                    try clear c28b0
                    try clear c29
                    try clear c29b0
                    try clear c30
                    try clear c30b0
                    try clear c31
                    try clear c31b0
                    try clear c32
                    try clear c32b0
                    try clear c33
                    try clear c35
                    try clear c35b0
                    try clear c36
                    try clear c36b0
                    try clear c37
                    try clear c42
                    try clear c42b0
                    try clear c42b1
                    try clear c47
                    try clear c49
                    try clear c53
                    try clear c53b0
                    try clear c53b1
                    try clear c53b2
                    try clear c56
                    try clear c57
                    try clear c57b0
                    try clear c57b1
                    try clear hx237_0
                    try clear hx238_0
                    try clear hx239_0
                    try clear hx240_0
                    try clear hx241_0
                    try clear hx242_0
                    try clear hx243_0
                    try clear hx244_0
                    try clear hx248_0
                    try clear hx249_0
                    try clear p2
                    try clear p23
                    try clear p237
                    try clear p238
                    try clear p239
                    try clear p24
                    try clear p240
                    try clear p241
                    try clear p242
                    try clear p243
                    try clear p244
                    try clear p248
                    try clear p249
                    try clear p6
                    try clear q2
                    try clear q23
                    try clear q237
                    try clear q238
                    try clear q239
                    try clear q24
                    try clear q240
                    try clear q241
                    try clear q242
                    try clear q243
                    try clear q244
                    try clear q248
                    try clear q249
                    obtain ⟨x13_6, x14_6, rfl, rfl, HA, HK6, HO_10, HO_12, HB⟩ := hrel
                    cases gk with
                    | zero => exact absurd HA.out (by simp [tartanlaw11_KeysLeast.l3])
                    | succ k6 =>
                     have H := HA.out
                     clear HA
                     simp only [tartanlaw11_KeysLeast.l3] at H
                     by_cases c60 : x14_6 < (x10_3.length : Int)
                     ·rw [if_pos c60] at H
                      have c60b0 : decide (x14_6 < (x10_3.length : Int)) = true := decide_eq_true c60
                      clear c60
                      have HC61 := Aside0.mk H
                      clear H
                      go_upto_block 8 with (fail)
                      repeat (go_quiet (fail); go_upto_block 8 with (fail))
                      go_cut [13] (fun v13 wc => ∃ (kq : Nat) (x13_60 : Int), v13 = .int .i64 x13_60 ∧ Aside0 (tartanlaw11_KeysLeast.j8 kq l1 l2 true x10_3 t253 x13_60 x14_6 = some r) ∧ Aside0 (kq ≤ k6) ∧ Aside0 (Kd.R Kd.string 9 wc w.heap.size (fun k_ => some k_ ≠ ((.slice Ao59 t253.length co59) : Value).ownBlock) (.slice Ao51 x10_3.length co51) x10_3) ∧ Aside0 (Kd.R Kd.string 9 wc w.heap.size (fun k_ => some k_ ≠ ((.slice Ao51 x10_3.length co51) : Value).ownBlock) (.slice Ao59 t253.length co59) t253) ∧ Aside0 (Below w.heap.size w wc))
                      case first =>
                       have H := HC61.out
                       clear HC61
                       have H' := Aside0.mk H
                       clear H
                       go_wp2
                       repeat (go_quiet (fail); try go_wp2)
                       go_loopg [13] k6 (fun kq v13 w' => ∃ (x13_7 : Int), v13 = .int .i64 x13_7 ∧ Aside0 (tartanlaw11_KeysLeast.l4 kq l1 l2 true x10_3 t253 x13_7 x14_6 = some r) ∧ Aside0 (kq ≤ k6) ∧ Aside0 (Kd.R Kd.string 9 w' w.heap.size (fun k_ => some k_ ≠ ((.slice Ao59 t253.length co59) : Value).ownBlock) (.slice Ao51 x10_3.length co51) x10_3) ∧ Aside0 (Kd.R Kd.string 9 w' w.heap.size (fun k_ => some k_ ≠ ((.slice Ao51 x10_3.length co51) : Value).ownBlock) (.slice Ao59 t253.length co59) t253) ∧ Aside0 (Below w.heap.size w w'))
                       case atStart => exact ⟨(x13_6), (by first | rfl | (simp; done) | (simp [*]; done)), H', ⟨Nat.le_refl _⟩, ⟨by (with_reducible repeat (first | apply Kd.R_alloc | apply Kd.R_drewN | apply Kd.R_drew)); exact HO_10.out⟩, ⟨by (with_reducible repeat (first | apply Kd.R_alloc | apply Kd.R_drewN | apply Kd.R_drew)); exact HO_12.out⟩, ⟨by repeat (first | (with_reducible first | exact HB.out | apply below_alloc | apply pw_below_drewN | apply below_drew1) | exact HB.out)⟩⟩
                       case round =>
                        clear H'
                        try clear c1
                        try clear c2
                        try clear p2
                        try clear q2
                        try clear hx2
                        try clear c3
                        try clear c4
                        try clear c5
                        try clear c6
                        try clear p6
                        try clear c9
                        try clear c10
                        try clear c10b0
                        try clear c10b1
                        try clear c14
                        try clear c15
                        try clear c15b0
                        try clear c16
                        try clear c16b0
                        try clear c17
                        try clear c17b0
                        try clear c18
                        try clear c18b0
                        try clear c19
                        try clear c19b0
                        try clear c20
                        try clear c20b0
                        try clear c21
                        try clear c21b0
                        try clear c21b1
                        try clear c22
                        try clear c22b0
                        try clear c23
                        try clear c23b0
                        try clear p23
                        try clear q23
                        try clear hx23
                        try clear c24
                        try clear c24b0
                        try clear p24
                        try clear q24
                        try clear hx24
                        try clear c25
                        try clear c25b0
                        try clear c26
                        try clear c26b0
                        try clear c28
                        try clear c28b0
                        try clear c29
                        try clear c29b0
                        try clear c30
                        try clear c30b0
                        try clear c31
                        try clear c31b0
                        try clear c32
                        try clear c32b0
                        try clear c33
                        try clear c35
                        try clear c35b0
                        try clear c36
                        try clear c36b0
                        try clear c37
                        try clear c42
                        try clear c42b0
                        try clear c42b1
                        try clear c47
                        try clear c49
                        try clear c53
                        try clear c53b0
                        try clear c53b1
                        try clear c53b2
                        try clear c56
                        try clear c57
                        try clear c57b0
                        try clear c57b1
                        try clear c60
                        try clear c60b0
                        try clear hx237_0
                        try clear hx238_0
                        try clear hx239_0
                        try clear hx240_0
                        try clear hx241_0
                        try clear hx242_0
                        try clear hx243_0
                        try clear hx244_0
                        try clear hx248_0
                        try clear hx249_0
                        try clear p2
                        try clear p23
                        try clear p237
                        try clear p238
                        try clear p239
                        try clear p24
                        try clear p240
                        try clear p241
                        try clear p242
                        try clear p243
                        try clear p244
                        try clear p248
                        try clear p249
                        try clear p6
                        try clear q2
                        try clear q23
                        try clear q237
                        try clear q238
                        try clear q239
                        try clear q24
                        try clear q240
                        try clear q241
                        try clear q242
                        try clear q243
                        try clear q244
                        try clear q248
                        try clear q249
                        obtain ⟨x13_7, rfl, HA, HK7, HO_10, HO_12, HB⟩ := hrel
                        cases gk with
                        | zero => exact absurd HA.out (by simp [tartanlaw11_KeysLeast.l4])
                        | succ k7 =>
                         have H := HA.out
                         clear HA
                         simp only [tartanlaw11_KeysLeast.l4] at H
                         by_cases c62 : x13_7 < (l1.length : Int)
                         ·rw [if_pos c62] at H
                          have c62b0 : decide (x13_7 < (l1.length : Int)) = true := decide_eq_true c62
                          clear c62
                          (first | rw [c62b0] | (simp only [i64_w, i32_w]; rw [c62b0]) | skip)
                          by_cases c63 : 0 ≤ x13_7
                          ·rw [if_pos c63] at H
                           have c63b0 : decide (0 ≤ x13_7) = true := decide_eq_true c63
                           clear c63
                           by_cases c64 : 0 ≤ x14_6
                           ·rw [if_pos c64] at H
                            have c64b0 : decide (0 ≤ x14_6) = true := decide_eq_true c64
                            clear c64
                            by_cases c65 : x14_6 < (t253.length : Int)
                            ·rw [if_pos c65] at H
                             have c65b0 : decide (x14_6 < (t253.length : Int)) = true := decide_eq_true c65
                             clear c65
                             by_cases c66 : (rdOf ByteArray.empty l1 x13_7).toList = (rdOf ByteArray.empty t253 x14_6).toList
                             ·rw [if_pos c66] at H
                              have c66b0 : ((rdOf ByteArray.empty l1 x13_7).toList == (rdOf ByteArray.empty t253 x14_6).toList) = true := beq_iff_eq.mpr c66
                              have c66b1 : ((rdOf ByteArray.empty l1 x13_7).toList != (rdOf ByteArray.empty t253 x14_6).toList) = false := bne_eq_false_iff_eq.mpr c66
                              clear c66
                              have H' := Aside0.mk H
                              clear H
                              have p258 : 0 ≤ (x13_7 : Int) := of_decide_eq_true (by first | (with_reducible assumption) | assumption)
                              have q258 : x13_7 < (l1.length : Int) := of_decide_eq_true (by first | (with_reducible assumption) | assumption)
                              obtain ⟨ad258, e258, hx258_0⟩ := Kd.at_string HR1.out x13_7 p258 q258
                              cases e258
                              replace hx258_0 := (HB.out.cell (World.block_lt_of_cell? w _ hx258_0)).trans hx258_0
                              replace p258 := eq_true p258
                              replace q258 := eq_true q258
                              have p259 : 0 ≤ (x14_6 : Int) := of_decide_eq_true (by first | (with_reducible assumption) | assumption)
                              have q259 : x14_6 < (t253.length : Int) := of_decide_eq_true (by first | (with_reducible assumption) | assumption)
                              obtain ⟨ad259, e259, hx259_0⟩ := Kd.at_string (Kd.R_reads' HO_12.out).2.2 x14_6 p259 q259
                              cases e259
                              replace p259 := eq_true p259
                              replace q259 := eq_true q259
                              go_wp2
                              repeat (go_quiet (fail); try go_wp2)
                              go_meet
                              case rel => exact ⟨_, (x13_7), (by first | rfl | (simp; done) | (simp [*]; done)), H', ⟨by have := HJ5.out; have := HK2.out; have := HK3.out; have := HJ39.out; have := HJ49.out; have := HK6.out; have := HK7.out; first | omega | exact Nat.le_refl _⟩, ⟨by (with_reducible repeat (first | apply Kd.R_alloc | apply Kd.R_drewN | apply Kd.R_drew)); exact HO_10.out⟩, ⟨by (with_reducible repeat (first | apply Kd.R_alloc | apply Kd.R_drewN | apply Kd.R_drew)); exact HO_12.out⟩, ⟨by repeat (first | (with_reducible first | exact HB.out | apply below_alloc | apply pw_below_drewN | apply below_drew1) | exact HB.out)⟩⟩
                             ·rw [if_neg c66] at H
                              have c66b0 : ((rdOf ByteArray.empty l1 x13_7).toList == (rdOf ByteArray.empty t253 x14_6).toList) = false := beq_eq_false_iff_ne.mpr c66
                              have c66b1 : ((rdOf ByteArray.empty l1 x13_7).toList != (rdOf ByteArray.empty t253 x14_6).toList) = true := bne_iff_ne.mpr c66
                              have H' := Aside0.mk H
                              clear H
                              have p258 : 0 ≤ (x13_7 : Int) := of_decide_eq_true (by first | (with_reducible assumption) | assumption)
                              have q258 : x13_7 < (l1.length : Int) := of_decide_eq_true (by first | (with_reducible assumption) | assumption)
                              obtain ⟨ad258, e258, hx258_0⟩ := Kd.at_string HR1.out x13_7 p258 q258
                              cases e258
                              replace hx258_0 := (HB.out.cell (World.block_lt_of_cell? w _ hx258_0)).trans hx258_0
                              replace p258 := eq_true p258
                              replace q258 := eq_true q258
                              have p259 : 0 ≤ (x14_6 : Int) := of_decide_eq_true (by first | (with_reducible assumption) | assumption)
                              have q259 : x14_6 < (t253.length : Int) := of_decide_eq_true (by first | (with_reducible assumption) | assumption)
                              obtain ⟨ad259, e259, hx259_0⟩ := Kd.at_string (Kd.R_reads' HO_12.out).2.2 x14_6 p259 q259
                              cases e259
                              replace p259 := eq_true p259
                              replace q259 := eq_true q259
                              go_wp2
                              repeat (go_quiet (fail); try go_wp2)
                              go_roundg k7
                              case measure => have := HJ5.out; have := HK2.out; have := HK3.out; have := HJ39.out; have := HJ49.out; have := HK6.out; have := HK7.out; omega
                              case rel => exact ⟨(wrap64 (x13_7 + 1)), (by first | rfl | (simp; done) | (simp [*]; done)), H', ⟨by have := HJ5.out; have := HK2.out; have := HK3.out; have := HJ39.out; have := HJ49.out; have := HK6.out; have := HK7.out; omega⟩, ⟨by (with_reducible repeat (first | apply Kd.R_alloc | apply Kd.R_drewN | apply Kd.R_drew)); exact HO_10.out⟩, ⟨by (with_reducible repeat (first | apply Kd.R_alloc | apply Kd.R_drewN | apply Kd.R_drew)); exact HO_12.out⟩, ⟨by repeat (first | (with_reducible first | exact HB.out | apply below_alloc | apply pw_below_drewN | apply below_drew1) | exact HB.out)⟩⟩
                            ·rw [if_neg c65] at H
                             exact absurd H (by simp)
                           ·rw [if_neg c64] at H
                            exact absurd H (by simp)
                          ·rw [if_neg c63] at H
                           exact absurd H (by simp)
                         ·rw [if_neg c62] at H
                          have c62b0 : decide (x13_7 < (l1.length : Int)) = false := decide_eq_false c62
                          clear c62
                          (first | rw [c62b0] | (simp only [i64_w, i32_w]; rw [c62b0]) | skip)
                          have H' := Aside0.mk H
                          clear H
                          go_wp2
                          repeat (go_quiet (fail); try go_wp2)
                          go_meet
                          case rel => exact ⟨_, (x13_7), (by first | rfl | (simp; done) | (simp [*]; done)), H', ⟨by have := HJ5.out; have := HK2.out; have := HK3.out; have := HJ39.out; have := HJ49.out; have := HK6.out; have := HK7.out; first | omega | exact Nat.le_refl _⟩, ⟨by (with_reducible repeat (first | apply Kd.R_alloc | apply Kd.R_drewN | apply Kd.R_drew)); exact HO_10.out⟩, ⟨by (with_reducible repeat (first | apply Kd.R_alloc | apply Kd.R_drewN | apply Kd.R_drew)); exact HO_12.out⟩, ⟨by repeat (first | (with_reducible first | exact HB.out | apply below_alloc | apply pw_below_drewN | apply below_drew1) | exact HB.out)⟩⟩
                      case rest =>
                       clear HC61
                       try clear c1
                       try clear c2
                       try clear p2
                       try clear q2
                       try clear hx2
                       try clear c3
                       try clear c4
                       try clear c5
                       try clear c6
                       try clear p6
                       try clear c9
                       try clear c10
                       try clear c10b0
                       try clear c10b1
                       try clear c14
                       try clear c15
                       try clear c15b0
                       try clear c16
                       try clear c16b0
                       try clear c17
                       try clear c17b0
                       try clear c18
                       try clear c18b0
                       try clear c19
                       try clear c19b0
                       try clear c20
                       try clear c20b0
                       try clear c21
                       try clear c21b0
                       try clear c21b1
                       try clear c22
                       try clear c22b0
                       try clear c23
                       try clear c23b0
                       try clear p23
                       try clear q23
                       try clear hx23
                       try clear c24
                       try clear c24b0
                       try clear p24
                       try clear q24
                       try clear hx24
                       try clear c25
                       try clear c25b0
                       try clear p25
                       try clear q25
                       try clear hx25
                       try clear c26
                       try clear c26b0
                       try clear c28
                       try clear c28b0
                       try clear c29
                       try clear c29b0
                       try clear c30
                       try clear c30b0
                       try clear c31
                       try clear c31b0
                       try clear c32
                       try clear c32b0
                       try clear c33
                       try clear c35
                       try clear c35b0
                       try clear c36
                       try clear c36b0
                       try clear c37
                       try clear c42
                       try clear c42b0
                       try clear c42b1
                       try clear c47
                       try clear c49
                       try clear c53
                       try clear c53b0
                       try clear c53b1
                       try clear c53b2
                       try clear c56
                       try clear c57
                       try clear c57b0
                       try clear c57b1
                       try clear c60
                       try clear c60b0
                       try clear c62
                       try clear c62b0
                       try clear c63
                       try clear c63b0
                       try clear c64
                       try clear c64b0
                       try clear p64
                       try clear c65
                       try clear c65b0
                       try clear c66
                       try clear c66b0
                       try clear c66b1
                       try clear hx237_0
                       try clear hx238_0
                       try clear hx239_0
                       try clear hx240_0
                       try clear hx241_0
                       try clear hx242_0
                       try clear hx243_0
                       try clear hx244_0
                       try clear hx248_0
                       try clear hx249_0
                       try clear hx258_0
                       try clear hx259_0
                       try clear p2
                       try clear p23
                       try clear p237
                       try clear p238
                       try clear p239
                       try clear p24
                       try clear p240
                       try clear p241
                       try clear p242
                       try clear p243
                       try clear p244
                       try clear p248
                       try clear p249
                       try clear p258
                       try clear p259
                       try clear p6
                       try clear q2
                       try clear q23
                       try clear q237
                       try clear q238
                       try clear q239
                       try clear q24
                       try clear q240
                       try clear q241
                       try clear q242
                       try clear q243
                       try clear q244
                       try clear q248
                       try clear q249
                       try clear q258
                       try clear q259
                       obtain ⟨kq, x13_60, rfl, HA, HJ60, HO_10, HO_12, HB⟩ := hcut
                       cases kq with
                       | zero => exact absurd HA.out (by simp [tartanlaw11_KeysLeast.j8])
                       | succ kj60 =>
                        have H := HA.out
                        clear HA
                        simp only [tartanlaw11_KeysLeast.j8] at H
                        by_cases c67 : x13_60 = (l1.length : Int)
                        ·rw [if_pos c67] at H
                         have c67b0 : (x13_60 == (l1.length : Int)) = true := beq_iff_eq.mpr c67
                         have c67b1 : (x13_60 != (l1.length : Int)) = false := bne_eq_false_iff_eq.mpr c67
                         clear c67
                         obtain rfl := Option.some.inj H
                         go_wp2
                         repeat (go_quiet (fail); try go_wp2)
                         go_ret
                         exact ⟨by first | rfl | (simp [errW_none, errW_some] <;> rfl) | (simp [*, errW_none, errW_some] <;> rfl), by repeat (first | (with_reducible first | exact HB.out | apply below_alloc | apply pw_below_drewN | apply below_drew1) | exact HB.out)⟩
                        ·rw [if_neg c67] at H
                         have c67b0 : (x13_60 == (l1.length : Int)) = false := beq_eq_false_iff_ne.mpr c67
                         have c67b1 : (x13_60 != (l1.length : Int)) = true := bne_iff_ne.mpr c67
                         by_cases c68 : 0 ≤ x14_6
                         ·rw [if_pos c68] at H
                          have c68b0 : decide (0 ≤ x14_6) = true := decide_eq_true c68
                          clear c68
                          by_cases c69 : x14_6 < (l2.length : Int)
                          ·rw [if_pos c69] at H
                           have c69b0 : decide (x14_6 < (l2.length : Int)) = true := decide_eq_true c69
                           clear c69
                           by_cases c70 : x13_60 = (rd l2 x14_6)
                           ·rw [if_pos c70] at H
                            have c70b0 : (x13_60 == (rd l2 x14_6)) = true := beq_iff_eq.mpr c70
                            have c70b1 : (x13_60 != (rd l2 x14_6)) = false := bne_eq_false_iff_eq.mpr c70
                            clear c70
                            have H' := Aside0.mk H
                            clear H
                            have p260 : 0 ≤ (x14_6 : Int) := of_decide_eq_true (by first | (with_reducible assumption) | assumption)
                            have q260 : x14_6 < (l2.length : Int) := of_decide_eq_true (by first | (with_reducible assumption) | assumption)
                            obtain ⟨ad260, e260, hx260_0⟩ := Kd.at_int HR2.out x14_6 p260 q260
                            cases e260
                            replace hx260_0 := (HB.out.cell (World.block_lt_of_cell? w _ hx260_0)).trans hx260_0
                            replace p260 := eq_true p260
                            replace q260 := eq_true q260
                            go_wp2
                            repeat (go_quiet (fail); try go_wp2)
                            go_roundg kj60
                            case measure => have := HJ5.out; have := HK2.out; have := HK3.out; have := HJ39.out; have := HJ49.out; have := HK6.out; have := HJ60.out; omega
                            case rel => exact ⟨(x13_60), (wrap64 (x14_6 + 1)), (by first | rfl | (simp; done) | (simp [*]; done)), (by first | rfl | (simp; done) | (simp [*]; done)), H', ⟨by have := HJ5.out; have := HK2.out; have := HK3.out; have := HJ39.out; have := HJ49.out; have := HK6.out; have := HJ60.out; omega⟩, ⟨by (with_reducible repeat (first | apply Kd.R_alloc | apply Kd.R_drewN | apply Kd.R_drew)); exact HO_10.out⟩, ⟨by (with_reducible repeat (first | apply Kd.R_alloc | apply Kd.R_drewN | apply Kd.R_drew)); exact HO_12.out⟩, ⟨by repeat (first | (with_reducible first | exact HB.out | apply below_alloc | apply pw_below_drewN | apply below_drew1) | exact HB.out)⟩⟩
                           ·rw [if_neg c70] at H
                            have c70b0 : (x13_60 == (rd l2 x14_6)) = false := beq_eq_false_iff_ne.mpr c70
                            have c70b1 : (x13_60 != (rd l2 x14_6)) = true := bne_iff_ne.mpr c70
                            have c71 : true = true := rfl
                            have H1 : (some (decide (x13_60 < (rd l2 x14_6)))) = some r := by first | (rw [if_pos rfl] at H; exact H) | (rw [if_pos trivial] at H; exact H) | simpa using H
                            clear H
                            have H := H1
                            clear H1
                            obtain rfl := Option.some.inj H
                            have p260 : 0 ≤ (x14_6 : Int) := of_decide_eq_true (by first | (with_reducible assumption) | assumption)
                            have q260 : x14_6 < (l2.length : Int) := of_decide_eq_true (by first | (with_reducible assumption) | assumption)
                            obtain ⟨ad260, e260, hx260_0⟩ := Kd.at_int HR2.out x14_6 p260 q260
                            cases e260
                            replace hx260_0 := (HB.out.cell (World.block_lt_of_cell? w _ hx260_0)).trans hx260_0
                            replace p260 := eq_true p260
                            replace q260 := eq_true q260
                            have p261 : 0 ≤ (x14_6 : Int) := of_decide_eq_true (by first | (with_reducible assumption) | assumption)
                            have q261 : x14_6 < (l2.length : Int) := of_decide_eq_true (by first | (with_reducible assumption) | assumption)
                            obtain ⟨ad261, e261, hx261_0⟩ := Kd.at_int HR2.out x14_6 p261 q261
                            obtain rfl : ad260 = ad261 := (by injection e261)
                            replace hx261_0 := (HB.out.cell (World.block_lt_of_cell? w _ hx261_0)).trans hx261_0
                            replace p261 := eq_true p261
                            replace q261 := eq_true q261
                            go_wp2
                            repeat (go_quiet (fail); try go_wp2)
                            go_ret
                            exact ⟨by first | rfl | (simp [errW_none, errW_some] <;> rfl) | (simp [*, errW_none, errW_some] <;> rfl), by repeat (first | (with_reducible first | exact HB.out | apply below_alloc | apply pw_below_drewN | apply below_drew1) | exact HB.out)⟩
                          ·rw [if_neg c69] at H
                           exact absurd H (by simp)
                         ·rw [if_neg c68] at H
                          exact absurd H (by simp)
                     ·rw [if_neg c60] at H
                      have c60b0 : decide (x14_6 < (x10_3.length : Int)) = false := decide_eq_false c60
                      clear c60
                      obtain rfl := Option.some.inj H
                      go_wp2
                      repeat (go_quiet (fail); try go_wp2)
                      go_ret
                      exact ⟨by first | rfl | (simp [errW_none, errW_some] <;> rfl) | (simp [*, errW_none, errW_some] <;> rfl), by repeat (first | (with_reducible first | exact HB.out | apply below_alloc | apply pw_below_drewN | apply below_drew1) | exact HB.out)⟩
              ·replace c49 := Bool.eq_false_iff.mpr c49
               subst c49
               have H1 : (some true) = some r := by rw [if_neg (show ¬ (false = true) by decide)] at H; exact H
               clear H
               have H := H1
               clear H1
               obtain rfl := Option.some.inj H
               obtain ⟨Ao72, co72, eo72⟩ := Kd.R_slice HO_10.out
               subst eo72
               go_wp2_with (first | (go_at_call 25; (with_reducible refine (keys_Usable.calls _ _ l0 _ _ x10_3 false _ ?side1 ?side2 ?side3 ?side4 A48.out).mono ?_); (case side1 => repeat (first | exact (Kd.C_below HR0.out HB.out) | (with_reducible refine Kd.C_alloc ?_ _) | (with_reducible refine Kd.C_drewN ?_ _) | (with_reducible refine Kd.C_drew ?_))); (case side2 => exact HC0.out); (case side3 => repeat (first | exact (Kd.R_reads' HO_10.out).2.2 | (with_reducible refine Kd.C_alloc ?_ _) | (with_reducible refine Kd.C_drewN ?_ _) | (with_reducible refine Kd.C_drew ?_))); (case side4 => exact (Kd.R_reads' HO_10.out).2.1); rintro e w73 ⟨rfl, hb⟩; have n0_ := Aside0.mk (Kd.R_below (by (with_reducible repeat (first | apply Kd.R_alloc | apply Kd.R_drewN | apply Kd.R_drew)); exact HO_10.out) hb); have n1_ := Aside0.mk (Kd.R_below (by (with_reducible repeat (first | apply Kd.R_alloc | apply Kd.R_drewN | apply Kd.R_drew)); exact HO_12.out) hb); have n2_ := Aside0.mk (below_step (by repeat (first | (with_reducible first | exact HB.out | apply below_alloc | apply pw_below_drewN | apply below_drew1) | exact HB.out)) hb); clear HO_10; clear HO_12; clear HB; have HO_10 := n0_; have HO_12 := n1_; have HB := n2_; clear n0_ n1_ n2_; (try clear hb); (try clear hb2); (try clear hk); (try clear hi)))
               repeat (go_quiet (first | (go_at_call 25; (with_reducible refine (keys_Usable.calls _ _ l0 _ _ x10_3 false _ ?side1 ?side2 ?side3 ?side4 A48.out).mono ?_); (case side1 => repeat (first | exact (Kd.C_below HR0.out HB.out) | (with_reducible refine Kd.C_alloc ?_ _) | (with_reducible refine Kd.C_drewN ?_ _) | (with_reducible refine Kd.C_drew ?_))); (case side2 => exact HC0.out); (case side3 => repeat (first | exact (Kd.R_reads' HO_10.out).2.2 | (with_reducible refine Kd.C_alloc ?_ _) | (with_reducible refine Kd.C_drewN ?_ _) | (with_reducible refine Kd.C_drew ?_))); (case side4 => exact (Kd.R_reads' HO_10.out).2.1); rintro e w73 ⟨rfl, hb⟩; have n0_ := Aside0.mk (Kd.R_below (by (with_reducible repeat (first | apply Kd.R_alloc | apply Kd.R_drewN | apply Kd.R_drew)); exact HO_10.out) hb); have n1_ := Aside0.mk (Kd.R_below (by (with_reducible repeat (first | apply Kd.R_alloc | apply Kd.R_drewN | apply Kd.R_drew)); exact HO_12.out) hb); have n2_ := Aside0.mk (below_step (by repeat (first | (with_reducible first | exact HB.out | apply below_alloc | apply pw_below_drewN | apply below_drew1) | exact HB.out)) hb); clear HO_10; clear HO_12; clear HB; have HO_10 := n0_; have HO_12 := n1_; have HB := n2_; clear n0_ n1_ n2_; (try clear hb); (try clear hb2); (try clear hk); (try clear hi))); try go_wp2_with (first | (go_at_call 25; (with_reducible refine (keys_Usable.calls _ _ l0 _ _ x10_3 false _ ?side1 ?side2 ?side3 ?side4 A48.out).mono ?_); (case side1 => repeat (first | exact (Kd.C_below HR0.out HB.out) | (with_reducible refine Kd.C_alloc ?_ _) | (with_reducible refine Kd.C_drewN ?_ _) | (with_reducible refine Kd.C_drew ?_))); (case side2 => exact HC0.out); (case side3 => repeat (first | exact (Kd.R_reads' HO_10.out).2.2 | (with_reducible refine Kd.C_alloc ?_ _) | (with_reducible refine Kd.C_drewN ?_ _) | (with_reducible refine Kd.C_drew ?_))); (case side4 => exact (Kd.R_reads' HO_10.out).2.1); rintro e w73 ⟨rfl, hb⟩; have n0_ := Aside0.mk (Kd.R_below (by (with_reducible repeat (first | apply Kd.R_alloc | apply Kd.R_drewN | apply Kd.R_drew)); exact HO_10.out) hb); have n1_ := Aside0.mk (Kd.R_below (by (with_reducible repeat (first | apply Kd.R_alloc | apply Kd.R_drewN | apply Kd.R_drew)); exact HO_12.out) hb); have n2_ := Aside0.mk (below_step (by repeat (first | (with_reducible first | exact HB.out | apply below_alloc | apply pw_below_drewN | apply below_drew1) | exact HB.out)) hb); clear HO_10; clear HO_12; clear HB; have HO_10 := n0_; have HO_12 := n1_; have HB := n2_; clear n0_ n1_ n2_; (try clear hb); (try clear hb2); (try clear hk); (try clear hi))))
               go_ret
               exact ⟨by first | rfl | (simp [errW_none, errW_some] <;> rfl) | (simp [*, errW_none, errW_some] <;> rfl), by repeat (first | (with_reducible first | exact HB.out | apply below_alloc | apply pw_below_drewN | apply below_drew1) | exact HB.out)⟩
 ·replace c5 := Bool.eq_false_iff.mpr c5
  subst c5
  have H1 : (some false) = some r := by rw [if_neg (show ¬ (false = true) by decide)] at H; exact H
  clear H
  have H := H1
  clear H1
  obtain rfl := Option.some.inj H
  go_enter Try.func6, Try.ntmps6
  go_wp2_with (first | (go_at_call 13; (with_reducible refine (tartanlaw11_works.calls  false _ A4.out).mono ?_); rintro e w74 ⟨rfl, hb⟩; have n0_ := Aside0.mk (below_step (by repeat (first | (with_reducible first | exact HB.out | apply below_alloc | apply pw_below_drewN | apply below_drew1) | exact HB.out)) hb); clear HB; have HB := n0_; clear n0_; (try clear hb); (try clear hb2); (try clear hk); (try clear hi)))
  repeat (go_quiet (first | (go_at_call 13; (with_reducible refine (tartanlaw11_works.calls  false _ A4.out).mono ?_); rintro e w74 ⟨rfl, hb⟩; have n0_ := Aside0.mk (below_step (by repeat (first | (with_reducible first | exact HB.out | apply below_alloc | apply pw_below_drewN | apply below_drew1) | exact HB.out)) hb); clear HB; have HB := n0_; clear n0_; (try clear hb); (try clear hb2); (try clear hk); (try clear hi))); try go_wp2_with (first | (go_at_call 13; (with_reducible refine (tartanlaw11_works.calls  false _ A4.out).mono ?_); rintro e w74 ⟨rfl, hb⟩; have n0_ := Aside0.mk (below_step (by repeat (first | (with_reducible first | exact HB.out | apply below_alloc | apply pw_below_drewN | apply below_drew1) | exact HB.out)) hb); clear HB; have HB := n0_; clear n0_; (try clear hb); (try clear hb2); (try clear hk); (try clear hi))))
  go_ret
  exact ⟨by first | rfl | (simp [errW_none, errW_some] <;> rfl) | (simp [*, errW_none, errW_some] <;> rfl), by repeat (first | (with_reducible first | exact HB.out | apply below_alloc | apply pw_below_drewN | apply below_drew1) | exact HB.out)⟩
end Go.Proofs.Ytbcpaojciephmaa.X
end
section
namespace Go.Proofs.Ytbcpaojciephmaa.X
open Go.RowKit Go.Proofs.YtbcpaojciephmaaW.PrintWords
set_option linter.unusedVariables false
theorem wrap_upR (i : Nat) (h : i ≤ 1000000000) : wrap64 ((i : Int) + 1) = ((i + 1 : Nat) : Int) := by unfold wrap64; omega
theorem rd_getR {l : List Int} {i : Nat} (h : i < l.length) : rd l (i : Int) = l[i] := by
  unfold rd; rw [show ((i : Int)).toNat = i from rfl, List.getD_eq_getElem?_getD, List.getElem?_eq_getElem h]; rfl
theorem dropR {l : List Int} {t : Nat} (h : t < l.length) : l.drop t = rd l (t : Int) :: l.drop (t + 1) := by
  rw [rd_getR h]; exact List.drop_eq_getElem_cons h
section
variable (hd : List ByteArray) (rows : List (List ByteArray)) (cols : List Int)
end
end Go.Proofs.Ytbcpaojciephmaa.X
end
section
namespace Go.Proofs.Ytbcpaojciephmaa.X
open Go.RowKit Go.Proofs.YtbcpaojciephmaaW.PrintWords
set_option linter.unusedVariables false
theorem rdT_get {l : List TS} {i : Nat} (h : i < l.length) : rd_T25 l (i : Int) = l[i] := by
  unfold rd_T25
  rw [show ((i : Int)).toNat = i from rfl, List.getD_eq_getElem?_getD, List.getElem?_eq_getElem h]; rfl
def FewP (l : List TS) : Prop := l.length ≤ 4 ∧ ∀ T ∈ l, T.f0.length ≤ 12 ∧ T.f1.length ≤ 30
theorem rfew_l0 (l : List TS) (hl : l.length ≤ 4) : ∀ (d k i : Nat), i + d = l.length → d + 10000 < k → ∃ b, tartanlaw11_Few.l0 k l (i : Nat) = some b ∧ (b = true → ∀ j : Nat, i ≤ j → j < l.length → (rd_T25 l (j : Int)).f0.length ≤ 12 ∧ (rd_T25 l (j : Int)).f1.length ≤ 30) := by
  intro d
  induction d with
  | zero =>
    intro k i hi hk
    obtain ⟨k, rfl⟩ : ∃ m, k = m + 1 := ⟨k - 1, by omega⟩
    simp only [tartanlaw11_Few.l0]
    rw [if_neg (by omega)]
    exact ⟨true, rfl, fun _ j h1 h2 => by omega⟩
  | succ d ih =>
    intro k i hi hk
    obtain ⟨k, rfl⟩ : ∃ m, k = m + 1 := ⟨k - 1, by omega⟩
    simp only [tartanlaw11_Few.l0]
    rw [if_pos (by omega), if_pos (by omega)]
    obtain ⟨b, e, hb⟩ := few4_some (rd_T25 l (i : Int)).f0 (rd_T25 l (i : Int)).f1 (k := k) (by omega)
    rw [e, Option.bind_some]
    cases b with
    | false => rw [if_neg (by decide)]; exact ⟨false, rfl, fun h => by cases h⟩
    | true =>
      rw [if_pos rfl]
      by_cases h1 : (((rd_T25 l (i : Int)).f0).length : Int) > 12
      · rw [if_pos h1]; exact ⟨false, rfl, fun h => by cases h⟩
      · rw [if_neg h1]
        by_cases h2 : (((rd_T25 l (i : Int)).f1).length : Int) > 30
        · rw [if_pos h2]; exact ⟨false, rfl, fun h => by cases h⟩
        · rw [if_neg h2, wrap_upR _ (by omega)]
          obtain ⟨b, e, hb⟩ := ih k (i + 1) (by omega) (by omega)
          refine ⟨b, e, fun h j h3 h4 => ?_⟩
          rcases Nat.lt_or_ge i j with h' | h'
          · exact hb h j h' h4
          · obtain rfl : j = i := by omega
            exact ⟨by omega, by omega⟩
theorem rfew_some (l : List TS) (names : List ByteArray) {k : Nat} (hk : 20000 ≤ k) : ∃ b, tartanlaw11_Few.f k l names = some b ∧ (b = true → FewP l ∧ names.length ≤ 12) := by
  obtain ⟨k, rfl⟩ : ∃ m, k = m + 1 := ⟨k - 1, by omega⟩
  unfold tartanlaw11_Few.f
  by_cases h1 : (l.length : Int) > 4
  · rw [if_pos h1]; simp only [tartanlaw11_Few.j0]; rw [if_pos trivial]; exact ⟨false, rfl, fun h => by cases h⟩
  · rw [if_neg h1]
    by_cases h2 : (names.length : Int) > 12
    · rw [decide_eq_true h2]; simp only [tartanlaw11_Few.j0]; rw [if_pos trivial]; exact ⟨false, rfl, fun h => by cases h⟩
    · rw [decide_eq_false h2]; simp only [tartanlaw11_Few.j0]; rw [if_neg (by decide)]
      obtain ⟨b, e, hb⟩ := rfew_l0 l (by omega) l.length k 0 (by omega) (by omega)
      refine ⟨b, e, fun h => ⟨⟨by omega, fun T hT => ?_⟩, by omega⟩⟩
      obtain ⟨j, hj, rfl⟩ := List.getElem_of_mem hT
      have := hb h j (Nat.zero_le _) hj
      rw [rdT_get hj] at this
      exact this
end Go.Proofs.Ytbcpaojciephmaa.X
end
