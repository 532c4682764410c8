/- slices.Max; pairs.rest, RestA, RestB. -/
import Derived.Test.YtphmnjapjalfgaaGPairs
import Derived.OwnWalk
import Derived.WalkSmall
import Derived.Maps.AppendAt
namespace Go.Proofs.Ytphmnjapjalfgaa.X
open Go.RowKit Go.Maps Go.Proofs.YtphmnjapjalfgaaW.PrintWords Go.Proofs.Ytphmnjapjalfgaa.GMap
set_option linter.unusedVariables false

theorem intAt {w : World} {A : Option Addr} {l : List Int} (h : Kd.C (Kd.int .i64) w A l.length l) {k : Nat} (hk : k < l.length) : ∃ ad, A = some ad ∧ w.cell? (ad.add k) = some (.int .i64 (rd l (k : Int))) := by
  obtain ⟨ad, e, hx⟩ := Kd.at_int h (k : Int) (by omega) (by omega)
  exact ⟨ad, e, hx⟩
theorem take_rdI {l : List Int} {k : Nat} (h : k < l.length) : l.take (k + 1) = l.take k ++ [rd l (k : Int)] := by
  unfold rd
  rw [show (k : Int).toNat = k from rfl, List.getD_eq_getElem?_getD, List.getElem?_eq_getElem h, List.take_succ_eq_append_getElem h]; rfl
theorem maxI (a b : Int) (W : World) : (Builtin.max_ #[3, 3] 3 #[.int .i64 a, .int .i64 b]).run Try.prog W = .ok (.int .i64 (max a b)) W := by
  rw [Go.Proofs.YtphmnjapjalfgaaW.PrintMore.max_two, Go.Proofs.YtphmnjapjalfgaaW.PrintMore.max2_int]
  show Result.ok (Value.int .i64 (if a < b then b else a)) W = _
  rw [show (if a < b then b else a) = max a b from by split <;> omega]

def slices_Max_int_int.f (l : List Int) : Option Int := if l.length = 0 then none else if l.length ≤ 100000 then some (l.foldl max (rd l 0)) else none
theorem slices_Max_int_int.calls (A0 : Option Addr) (c0 : Nat) (l0 : List Int) (r : Int) (w : World) (hr0 : Kd.C (Kd.int .i64) w A0 l0.length l0) (hc0 : l0.length ≤ c0) (h : slices_Max_int_int.f l0 = some r) :
    Calls Try.prog 40 #[.slice A0 l0.length c0] w fun e w' => e = .returned (.int .i64 r) ∧ Below w.heap.size w w' := by
  unfold slices_Max_int_int.f at h
  split at h
  · exact nomatch h
  rename_i hne
  split at h
  · rename_i hl
    have H := Aside0.mk (Option.some.inj h)
    have HR := Aside0.mk hr0
    clear h hr0 hc0
    go_enter Try.func40, Try.ntmps40
    have hmx := maxI
    have hlt1 : ¬ l0.length < 1 := by omega
    have hpos : 0 < l0.length := by omega
    obtain ⟨ad, eA, hx⟩ := intAt HR.out hpos
    cases eA
    have ez : ad.add 0 = ad := rfl
    rw [ez] at hx
    have hrd : rd l0 ((0 : Nat) : Int) = rd l0 0 := rfl
    rw [hrd] at hx
    clear ez hrd
    have HX := Aside0.mk hx
    go_wp2
    go_loopw [3, 4] (fun vm vi wr => ∃ (t : Nat), 1 ≤ t ∧ t ≤ l0.length ∧ vi = .int .i64 t ∧ vm = .int .i64 ((l0.take t).foldl max (rd l0 0)) ∧ wr = w)
      (fun _ vi _ => l0.length - (intOf vi).toNat)
    case atStart =>
      refine ⟨1, Nat.le_refl _, hpos, rfl, ?_, rfl⟩
      rw [show (1 : Nat) = 0 + 1 from rfl, take_rdI hpos]; simp
    case round =>
      obtain ⟨t, h1, ht, rfl, rfl, rfl⟩ := hrel
      by_cases hlt : t < l0.length
      · obtain ⟨ad', eA', hy⟩ := intAt HR.out hlt
        cases eA'
        have htk := Aside0.mk (take_rdI hlt)
        generalize rd l0 (t : Int) = y at *
        generalize hm : (l0.take t).foldl max (rd l0 0) = m at *
        have HM := Aside0.mk hm
        clear hm
        go_wp2
        go_roundw
        case rel => exact ⟨t + 1, by omega, by omega, by go_num, by rw [htk.out, List.foldl_append, HM.out]; rfl, by first | rfl | trivial⟩
        case measure => simp [intOf]; omega
      · obtain rfl : t = l0.length := by omega
        rw [List.take_length, H.out]
        go_wp2
        go_ret
        exact ⟨by simp, Below.refl _ _⟩
  · exact nomatch h

theorem pfirst_calls (x y : Int) (w : World) : Calls Try.prog 43 #[.agg #[.int .i64 x, .int .i64 y]] w fun e w' => e = .returned (.int .i64 x) ∧ Below w.heap.size w w' := by
  go_enter Try.func43, Try.ntmps43
  go_wp2
  go_ret
  exact ⟨rfl, (Below.refl _ _).alloc (Nat.le_refl _) _⟩
theorem psecond_calls (x y : Int) (w : World) : Calls Try.prog 44 #[.agg #[.int .i64 x, .int .i64 y]] w fun e w' => e = .returned (.int .i64 y) ∧ Below w.heap.size w w' := by
  go_enter Try.func44, Try.ntmps44
  go_wp2
  go_ret
  exact ⟨rfl, (Below.refl _ _).alloc (Nat.le_refl _) _⟩

/-- The numbers below n that are not among some. -/
def restR (xs : List Int) (n : Nat) : List Int := (List.range n).flatMap fun (i : Nat) => if xs.count ((i : Nat) : Int) = 0 then [((i : Nat) : Int)] else []
theorem restR_succ (xs : List Int) (n : Nat) : restR xs (n + 1) = restR xs n ++ if xs.count (n : Int) = 0 then [(n : Int)] else [] := by
  unfold restR; rw [List.range_succ, List.flatMap_append]; simp
theorem restR_le (xs : List Int) : ∀ n, (restR xs n).length ≤ n
  | 0 => by simp [restR]
  | n + 1 => by rw [restR_succ, List.length_append]; have := restR_le xs n; split <;> simp <;> omega

structure RestAt (w : World) (xs : List Int) (t : Nat) (wr : World) : Prop where
  ht : t ≤ xs.length
  m : MapI wr w.heap.size (dsz (xs.take t)) (cntI (xs.take t))
  hb : Below w.heap.size w wr
theorem RestAt.below {w : World} {xs : List Int} {t : Nat} {wr wr' : World} (h : RestAt w xs t wr) (hb : Below wr.heap.size wr wr') : RestAt w xs t wr' := ⟨h.ht, h.m.below hb, h.hb.trans (hb.mono h.hb.size)⟩
theorem RestAt.sa {w : World} {xs : List Int} {t : Nat} {wr : World} (h : RestAt w xs t wr) (hl : xs.length ≤ 100000) : dsz (xs.take t) < maxLen := by
  have := dsz_le (xs.take t)
  rw [List.length_take] at this
  unfold maxLen; omega
theorem RestAt.next {w : World} {xs : List Int} {t : Nat} {w2 w3 : World} {x : Int} (h : RestAt w xs t w2) (hl : xs.length ≤ 100000) (hlt : t < xs.length) (hx : xs.take (t + 1) = xs.take t ++ [x])
    (hm1 : MapI w3 w.heap.size (grow (cntI (xs.take t)) x (dsz (xs.take t))) (upd (cntI (xs.take t)) x (wrap64 ((cntI (xs.take t) x).getD 0 + 1)))) (hg1 : w2.grownBy w3 (some w.heap.size)) : RestAt w xs (t + 1) w3 := by
  rw [cntI_step (by rw [List.length_take]; omega), dsz_grow, ← hx] at hm1
  exact ⟨hlt, hm1, h.hb.grown hg1 h.hb.size (fun j hj => by cases hj; exact Nat.le_refl _)⟩

theorem encs_snoc (xs : List Int) (x : Int) : encs (Value.int .i64) (xs ++ [x]) = encs (Value.int .i64) xs ++ [.int .i64 x] := by simp [encs]
theorem len_snoc (xs : List Int) (x : Int) : (xs ++ [x]).length = xs.length + 1 := by simp
theorem rest_step {w wr w1 : World} {vo : Value} {n s : Nat} {xs : List Value} {f : Int → Option Int} {o : Obj} (ho : wr.ownsRow w.heap.size 3 1 vo n xs) (hm : MapI wr w.heap.size s f) (hb : Below w.heap.size w wr) (hg : (wr.alloc o).grownBy w1 vo.ownBlock) :
    MapI w1 w.heap.size s f ∧ Below w.heap.size w w1 := by
  refine ⟨(hm.alloc o).kept hg (fun e => ?_), (hb.alloc hb.size o).grown hg (by simp; have := hb.size; omega) (fun k hk => own_base ho k hk)⟩
  obtain ⟨cells, hc⟩ := own_typed ho _ e.symm
  exact hm.noCells hc

-- BEGIN REST
set_option maxRecDepth 100000 in
set_option maxHeartbeats 800000 in
theorem restA_calls (A0 : Option Addr) (c0 : Nat) (l0 : List PS) (n : Int) (w : World) (hr0 : Kd.C k37 w A0 l0.length l0) (hok : okP l0 = true) (hn : n ≤ 100000) :
    Calls Try.prog 42 #[.slice A0 l0.length c0, .int .i64 n, .func (.func 43) #[] #[]] w fun e w' => ∃ v, e = .returned v ∧ w'.ownsRow w.heap.size 3 1 v (restR (l0.map (·.f0)) n.toNat).length (encs (Value.int .i64) (restR (l0.map (·.f0)) n.toNat)) ∧ Below w.heap.size w w' := by
  have HR := Aside0.mk hr0
  have HL := Aside0.mk hok
  have hlen := okP_len hok
  have hmm := @run_makeMap Try.prog
  have hmx : ∀ W : World, (Builtin.max_ #[3, 3] 3 #[.int .i64 n, .int .i64 0]).run Try.prog W = .ok (.int .i64 (n.toNat : Nat)) W := fun W => by rw [maxI, show max n 0 = ((n.toNat : Nat) : Int) from by omega]
  clear hr0 hok
  go_enter Try.func42, Try.ntmps42
  go_wp2
  go_loopw [15] (fun vi wr => ∃ t : Nat, vi = .int .i64 t ∧ RestAt w (l0.map (·.f0)) t wr)
    (fun vi _ => l0.length - (intOf vi).toNat)
  case atStart =>
    refine ⟨0, rfl, Nat.zero_le _, ?_, (Below.refl _ _).alloc (Nat.le_refl _) _⟩
    have e : cntI ((l0.map (·.f0)).take 0) = fun _ => none := by funext k; simp [cntI]
    rw [e]; exact MapO.made Try.prog 3 3 encI w
  case round =>
    obtain ⟨t, rfl, hch⟩ := hrel
    by_cases hlt : t < l0.length
    · have HR2 := Aside0.mk (Kd.C_below HR.out hch.hb)
      have hwf := okP_mem HL.out _ (rdP_mem hlt)
      have htk : (l0.map (·.f0)).take (t + 1) = (l0.map (·.f0)).take t ++ [(rd_T37 l0 (t : Int)).f0] := by rw [← List.map_take, ← List.map_take, take_rdP hlt]; simp
      have HTK := Aside0.mk htk
      clear htk
      obtain ⟨ad, eA, hx0, hx1⟩ := pairAt HR2.out hlt
      cases eA
      generalize hp : rd_T37 l0 (t : Int) = p at *
      clear hp
      have HC := Aside0.mk hch
      clear hch
      go_wp2_with (first
        | (go_at_call 43; refine (pfirst_calls _ _ _).mono ?_; rintro e w2 ⟨rfl, hb2⟩; have HC2 := HC.out.below (((Below.refl _ _).alloc (Nat.le_refl _) _).trans (hb2.mono (by simp))))
        | (at_lookup; refine lookup_arm lawI Try.underlying45 Try.underlying3 zeroI rfl _ _ rfl _ _ _ rfl HC2.m _ _ rfl (keyI hwf.1) ?_; intro hwc)
        | (at_mapUpdate; refine store_arm lawI Try.underlying45 Try.underlying3 rfl _ _ _ rfl _ _ _ rfl HC2.m (HC2.sa (by simpa using hlen)) _ _ rfl (keyI hwf.1) _ rfl (wrap64_wf _) ?_; intro w3 hm1 hg1))
      have hn2 := HC2.next (by simpa using hlen) (by simpa using hlt) HTK.out hm1 hg1
      go_roundw
      case rel => exact ⟨t + 1, by go_num, hn2⟩
      case measure => simp [intOf]; omega
    · obtain rfl : t = l0.length := by have := hch.ht; rw [List.length_map] at this; omega
      have hM : MapI wr w.heap.size (dsz (l0.map (·.f0))) (cntI (l0.map (·.f0))) := by
        have := hch.m
        rwa [show (l0.map (·.f0)).take l0.length = l0.map (·.f0) from List.take_of_length_le (by simp)] at this
      have hb := hch.hb
      clear hch
      obtain ⟨i0, hi, hz0, hz1, hz2⟩ := info_parts info3
      go_wp2
      go_loopw [28, 10] (fun vi vo wr => ∃ (i : Nat), vi = .int .i64 i ∧ i ≤ n.toNat ∧ wr.ownsRow w.heap.size 3 1 vo (restR (l0.map (·.f0)) i).length (encs (Value.int .i64) (restR (l0.map (·.f0)) i)) ∧
          MapI wr w.heap.size (dsz (l0.map (·.f0))) (cntI (l0.map (·.f0))) ∧ Below w.heap.size w wr)
        (fun vi _ _ => n.toNat - (intOf vi).toNat)
      case atStart => exact ⟨0, rfl, Nat.zero_le _, by simpa [restR, encs] using World.ownsRow_nil _ _ _ _, hM, hb⟩
      case round =>
        obtain ⟨i, rfl, hi', ho, hm, hb⟩ := hrel
        by_cases hlt : i < n.toNat
        · have hlt' : (i : Int) < max n 0 := by omega
          have hwi : (Lit.int .i64 (i : Int)).wf = true := by exact WalkArith.wf_i64 (by omega)
          have hcnt := cntI_getD (l0.map (·.f0)) (i : Int)
          have hle := restR_le (l0.map (·.f0)) i
          have hml : (restR (l0.map (·.f0)) i).length + 1 ≤ maxLen := by unfold maxLen; omega
          have hsz := hb.size
          by_cases hz : (l0.map (·.f0)).count (i : Int) = 0
          · rw [hz] at hcnt
            have hs := restR_succ (l0.map (·.f0)) i
            rw [if_pos hz] at hs
            have HSU := Aside0.mk hs
            clear hs
            go_wp2_with (first
              | (at_lookup; refine lookup_arm lawI Try.underlying45 Try.underlying3 zeroI rfl _ _ rfl _ _ _ rfl hm _ _ rfl (keyI hwi) ?_; rw [hcnt]; intro hwc)
              | (at_builtin; refine wpList_append_own _ rfl _ _ 31 rfl w.heap.size 3 i0 (.int .i64 0) 1 8 Try.underlying31 hi hz0 hz1 hz2 rfl (by decide) _ _ _ rfl (ho.alloc _) ⟨wr.heap.size, 0, none⟩ 1 1 [.int .i64 (i : Int)] rfl rfl (cell_one_new _ _ _) (by simp [Value.oneCell']) hml (by omega) (by simp; omega) ?_; intro v' w1 hown' hgrow _))
            rw [← encs_snoc, ← len_snoc _ (i : Int), ← HSU.out] at hown'
            obtain ⟨hm2, hb2⟩ := rest_step ho hm hb hgrow
            go_roundw
            case rel => exact ⟨i + 1, by go_num, by omega, hown', hm2, hb2⟩
            case measure => simp [intOf]; omega
          · have hs := restR_succ (l0.map (·.f0)) i
            rw [if_neg hz, List.append_nil] at hs
            have hpos : ¬ ((l0.map (·.f0)).count (i : Int) : Int) = 0 := by omega
            have HSU := Aside0.mk hs
            clear hs
            generalize hv : ((l0.map (·.f0)).count (i : Int) : Int) = cv at *
            go_wp2_with (first
              | (at_lookup; refine lookup_arm lawI Try.underlying45 Try.underlying3 zeroI rfl _ _ rfl _ _ _ rfl hm _ _ rfl (keyI hwi) ?_; rw [hcnt]; intro hwc))
            go_roundw
            case rel => exact ⟨i + 1, by go_num, by omega, by rw [HSU.out]; exact ho, hm, hb⟩
            case measure => simp [intOf]; omega
        · have hlt' : ¬ (i : Int) < max n 0 := by omega
          obtain rfl : i = n.toNat := by omega
          go_wp2
          go_ret
          exact ⟨_, rfl, ho, hb⟩
-- END REST
set_option maxRecDepth 100000 in
set_option maxHeartbeats 800000 in
theorem restB_calls (A0 : Option Addr) (c0 : Nat) (l0 : List PS) (n : Int) (w : World) (hr0 : Kd.C k37 w A0 l0.length l0) (hok : okP l0 = true) (hn : n ≤ 100000) :
    Calls Try.prog 42 #[.slice A0 l0.length c0, .int .i64 n, .func (.func 44) #[] #[]] w fun e w' => ∃ v, e = .returned v ∧ w'.ownsRow w.heap.size 3 1 v (restR (l0.map (·.f1)) n.toNat).length (encs (Value.int .i64) (restR (l0.map (·.f1)) n.toNat)) ∧ Below w.heap.size w w' := by
  have HR := Aside0.mk hr0
  have HL := Aside0.mk hok
  have hlen := okP_len hok
  have hmm := @run_makeMap Try.prog
  have hmx : ∀ W : World, (Builtin.max_ #[3, 3] 3 #[.int .i64 n, .int .i64 0]).run Try.prog W = .ok (.int .i64 (n.toNat : Nat)) W := fun W => by rw [maxI, show max n 0 = ((n.toNat : Nat) : Int) from by omega]
  clear hr0 hok
  go_enter Try.func42, Try.ntmps42
  go_wp2
  go_loopw [15] (fun vi wr => ∃ t : Nat, vi = .int .i64 t ∧ RestAt w (l0.map (·.f1)) t wr)
    (fun vi _ => l0.length - (intOf vi).toNat)
  case atStart =>
    refine ⟨0, rfl, Nat.zero_le _, ?_, (Below.refl _ _).alloc (Nat.le_refl _) _⟩
    have e : cntI ((l0.map (·.f1)).take 0) = fun _ => none := by funext k; simp [cntI]
    rw [e]; exact MapO.made Try.prog 3 3 encI w
  case round =>
    obtain ⟨t, rfl, hch⟩ := hrel
    by_cases hlt : t < l0.length
    · have HR2 := Aside0.mk (Kd.C_below HR.out hch.hb)
      have hwf := okP_mem HL.out _ (rdP_mem hlt)
      have htk : (l0.map (·.f1)).take (t + 1) = (l0.map (·.f1)).take t ++ [(rd_T37 l0 (t : Int)).f1] := by rw [← List.map_take, ← List.map_take, take_rdP hlt]; simp
      have HTK := Aside0.mk htk
      clear htk
      obtain ⟨ad, eA, hx0, hx1⟩ := pairAt HR2.out hlt
      cases eA
      generalize hp : rd_T37 l0 (t : Int) = p at *
      clear hp
      have HC := Aside0.mk hch
      clear hch
      go_wp2_with (first
        | (go_at_call 44; refine (psecond_calls _ _ _).mono ?_; rintro e w2 ⟨rfl, hb2⟩; have HC2 := HC.out.below (((Below.refl _ _).alloc (Nat.le_refl _) _).trans (hb2.mono (by simp))))
        | (at_lookup; refine lookup_arm lawI Try.underlying45 Try.underlying3 zeroI rfl _ _ rfl _ _ _ rfl HC2.m _ _ rfl (keyI hwf.2) ?_; intro hwc)
        | (at_mapUpdate; refine store_arm lawI Try.underlying45 Try.underlying3 rfl _ _ _ rfl _ _ _ rfl HC2.m (HC2.sa (by simpa using hlen)) _ _ rfl (keyI hwf.2) _ rfl (wrap64_wf _) ?_; intro w3 hm1 hg1))
      have hn2 := HC2.next (by simpa using hlen) (by simpa using hlt) HTK.out hm1 hg1
      go_roundw
      case rel => exact ⟨t + 1, by go_num, hn2⟩
      case measure => simp [intOf]; omega
    · obtain rfl : t = l0.length := by have := hch.ht; rw [List.length_map] at this; omega
      have hM : MapI wr w.heap.size (dsz (l0.map (·.f1))) (cntI (l0.map (·.f1))) := by
        have := hch.m
        rwa [show (l0.map (·.f1)).take l0.length = l0.map (·.f1) from List.take_of_length_le (by simp)] at this
      have hb := hch.hb
      clear hch
      obtain ⟨i0, hi, hz0, hz1, hz2⟩ := info_parts info3
      go_wp2
      go_loopw [28, 10] (fun vi vo wr => ∃ (i : Nat), vi = .int .i64 i ∧ i ≤ n.toNat ∧ wr.ownsRow w.heap.size 3 1 vo (restR (l0.map (·.f1)) i).length (encs (Value.int .i64) (restR (l0.map (·.f1)) i)) ∧
          MapI wr w.heap.size (dsz (l0.map (·.f1))) (cntI (l0.map (·.f1))) ∧ Below w.heap.size w wr)
        (fun vi _ _ => n.toNat - (intOf vi).toNat)
      case atStart => exact ⟨0, rfl, Nat.zero_le _, by simpa [restR, encs] using World.ownsRow_nil _ _ _ _, hM, hb⟩
      case round =>
        obtain ⟨i, rfl, hi', ho, hm, hb⟩ := hrel
        by_cases hlt : i < n.toNat
        · have hlt' : (i : Int) < max n 0 := by omega
          have hwi : (Lit.int .i64 (i : Int)).wf = true := by exact WalkArith.wf_i64 (by omega)
          have hcnt := cntI_getD (l0.map (·.f1)) (i : Int)
          have hle := restR_le (l0.map (·.f1)) i
          have hml : (restR (l0.map (·.f1)) i).length + 1 ≤ maxLen := by unfold maxLen; omega
          have hsz := hb.size
          by_cases hz : (l0.map (·.f1)).count (i : Int) = 0
          · rw [hz] at hcnt
            have hs := restR_succ (l0.map (·.f1)) i
            rw [if_pos hz] at hs
            have HSU := Aside0.mk hs
            clear hs
            go_wp2_with (first
              | (at_lookup; refine lookup_arm lawI Try.underlying45 Try.underlying3 zeroI rfl _ _ rfl _ _ _ rfl hm _ _ rfl (keyI hwi) ?_; rw [hcnt]; intro hwc)
              | (at_builtin; refine wpList_append_own _ rfl _ _ 31 rfl w.heap.size 3 i0 (.int .i64 0) 1 8 Try.underlying31 hi hz0 hz1 hz2 rfl (by decide) _ _ _ rfl (ho.alloc _) ⟨wr.heap.size, 0, none⟩ 1 1 [.int .i64 (i : Int)] rfl rfl (cell_one_new _ _ _) (by simp [Value.oneCell']) hml (by omega) (by simp; omega) ?_; intro v' w1 hown' hgrow _))
            rw [← encs_snoc, ← len_snoc _ (i : Int), ← HSU.out] at hown'
            obtain ⟨hm2, hb2⟩ := rest_step ho hm hb hgrow
            go_roundw
            case rel => exact ⟨i + 1, by go_num, by omega, hown', hm2, hb2⟩
            case measure => simp [intOf]; omega
          · have hs := restR_succ (l0.map (·.f1)) i
            rw [if_neg hz, List.append_nil] at hs
            have hpos : ¬ ((l0.map (·.f1)).count (i : Int) : Int) = 0 := by omega
            have HSU := Aside0.mk hs
            clear hs
            generalize hv : ((l0.map (·.f1)).count (i : Int) : Int) = cv at *
            go_wp2_with (first
              | (at_lookup; refine lookup_arm lawI Try.underlying45 Try.underlying3 zeroI rfl _ _ rfl _ _ _ rfl hm _ _ rfl (keyI hwi) ?_; rw [hcnt]; intro hwc))
            go_roundw
            case rel => exact ⟨i + 1, by go_num, by omega, by rw [HSU.out]; exact ho, hm, hb⟩
            case measure => simp [intOf]; omega
        · have hlt' : ¬ (i : Int) < max n 0 := by omega
          obtain rfl : i = n.toNat := by omega
          go_wp2
          go_ret
          exact ⟨_, rfl, ho, hb⟩

theorem R_int {w' : World} {base : Nat} {v : Value} {xs : List Int} (ho : w'.ownsRow base 3 1 v xs.length (encs (Value.int .i64) xs)) : Kd.R (Kd.int .i64) 3 w' base (fun _ => True) v xs := Kd.R_of_own ho (fun _ _ => trivial)
def pairs_RestA.f (l : List PS) (na : Int) : Option (List Int) := if okP l = true ∧ na ≤ 100000 then some (restR (l.map (·.f0)) na.toNat) else none
def pairs_RestB.f (l : List PS) (na : Int) : Option (List Int) := if okP l = true ∧ na ≤ 100000 then some (restR (l.map (·.f1)) na.toNat) else none
theorem pairs_RestA.calls (A0 : Option Addr) (c0 : Nat) (l0 : List PS) (a1 : Int) (r : List Int) (w : World) (hr0 : Kd.C k37 w A0 l0.length l0) (hc0 : l0.length ≤ c0) (h : pairs_RestA.f l0 a1 = some r) :
    Calls Try.prog 26 #[.slice A0 l0.length c0, .int .i64 a1] w fun e w' => ∃ v0_ : Value, e = .returned (v0_) ∧ Kd.R (Kd.int .i64) 3 w' w.heap.size (fun _ => True) v0_ r ∧ Below w.heap.size w w' := by
  unfold pairs_RestA.f at h
  split at h
  · rename_i hok
    have H := Aside0.mk (Option.some.inj h)
    have HR := Aside0.mk hr0
    have HL := Aside0.mk hok
    clear h hr0 hok hc0
    go_enter Try.func26, Try.ntmps26
    go_wp2_with (first | (go_at_call 42; refine (restA_calls A0 c0 l0 a1 _ HR.out HL.out.1 HL.out.2).mono ?_; rintro e w1 ⟨v, rfl, ho, hb⟩))
    go_ret
    rw [← H.out]
    exact ⟨v, rfl, R_int ho, hb⟩
  · exact nomatch h
theorem pairs_RestB.calls (A0 : Option Addr) (c0 : Nat) (l0 : List PS) (a1 : Int) (r : List Int) (w : World) (hr0 : Kd.C k37 w A0 l0.length l0) (hc0 : l0.length ≤ c0) (h : pairs_RestB.f l0 a1 = some r) :
    Calls Try.prog 28 #[.slice A0 l0.length c0, .int .i64 a1] w fun e w' => ∃ v0_ : Value, e = .returned (v0_) ∧ Kd.R (Kd.int .i64) 3 w' w.heap.size (fun _ => True) v0_ r ∧ Below w.heap.size w w' := by
  unfold pairs_RestB.f at h
  split at h
  · rename_i hok
    have H := Aside0.mk (Option.some.inj h)
    have HR := Aside0.mk hr0
    have HL := Aside0.mk hok
    clear h hr0 hok hc0
    go_enter Try.func28, Try.ntmps28
    go_wp2_with (first | (go_at_call 42; refine (restB_calls A0 c0 l0 a1 _ HR.out HL.out.1 HL.out.2).mono ?_; rintro e w1 ⟨v, rfl, ho, hb⟩))
    go_ret
    rw [← H.out]
    exact ⟨v, rfl, R_int ho, hb⟩
  · exact nomatch h
end Go.Proofs.Ytphmnjapjalfgaa.X
