/- Package lcs: the iterator over the longest common row's pairs, and the list of them. -/
import Derived.Test.YtimchoebiadhmaaGLcs
import Derived.Test.YtimchoebiadhmaaX0
import Derived.RangeFuncNested
import Derived.RangeFuncBound
import Derived.RangeFuncCalls
import Derived.RangeFuncLeaves
import Derived.RangeFuncBox
import Derived.Shelf.Abstract
import Derived.OwnWalkIn
import Derived.TacticsInMore
import Derived.LoopNIn
import Derived.LoopIn
import Derived.Maps.AppendAt
import Derived.WalkSmall
namespace Go.Proofs.Ytimchoebiadhmaa.X
open Go.RowKit Go.WideMaps Go.Maps Go.Shelf Go.Proofs.YtimchoebiadhmaaW.PrintWords Go.Proofs.Ytimchoebiadhmaa.GMap
set_option linter.unusedVariables false

/-- The longest common row's pairs from (i, k) on. -/
def lcsPRow (x : ByteArray) (a : List ByteArray) (i : Nat) (rec : List ByteArray → Nat → List (Nat × Nat)) : List ByteArray → Nat → List (Nat × Nat)
  | [], _ => []
  | y :: b, k => if x = y then (i, k) :: rec b (k + 1) else if lcsL (x :: a) b ≤ lcsL a (y :: b) then rec (y :: b) k else lcsPRow x a i rec b (k + 1)
def lcsP : List ByteArray → Nat → List ByteArray → Nat → List (Nat × Nat)
  | [], _ => fun _ _ => []
  | x :: a, i => lcsPRow x a i (lcsP a (i + 1))
theorem lcsP_nil : ∀ (a : List ByteArray) (i k : Nat), lcsP a i [] k = []
  | [], _, _ => rfl
  | _ :: _, _, _ => rfl
theorem lcsP_cons (x y : ByteArray) (a b : List ByteArray) (i k : Nat) : lcsP (x :: a) i (y :: b) k = if x = y then (i, k) :: lcsP a (i + 1) b (k + 1) else if lcsL (x :: a) b ≤ lcsL a (y :: b) then lcsP a (i + 1) (y :: b) k else lcsP (x :: a) i b (k + 1) := rfl

/-- What lies for the iterator: the lists' boxes, the grid's box, the grid's cells. -/
structure WalkS (w0 : World) (A0 : Option Addr) (c0 : Nat) (a : List ByteArray) (A1 : Option Addr) (c1 : Nat) (b : List ByteArray) (xs : List Int) (Ba Bb Bg G : Nat) (W : World) : Prop where
  ba : W.heap[Ba]? = some (.cells #[.slice A0 a.length c0] 22 (0, 0))
  bb : W.heap[Bb]? = some (.cells #[.slice A1 b.length c1] 22 (0, 0))
  bg : W.heap[Bg]? = some (.cells #[.slice (some ⟨G, 0, none⟩) ((a.length + 1) * (b.length + 1)) ((a.length + 1) * (b.length + 1)), .int .i64 (↑b.length + 1)] 46 (0, 0))
  g : W.heap[G]? = some (.cells (nums .i64 xs).toArray 3 (0, 0))
  lo : Below w0.heap.size w0 W
theorem WalkS.below {w0 : World} {A0 : Option Addr} {c0 : Nat} {a : List ByteArray} {A1 : Option Addr} {c1 : Nat} {b : List ByteArray} {xs : List Int} {Ba Bb Bg G : Nat} {W W' : World} (h : WalkS w0 A0 c0 a A1 c1 b xs Ba Bb Bg G W) (hb : Below W.heap.size W W') : WalkS w0 A0 c0 a A1 c1 b xs Ba Bb Bg G W' :=
  ⟨(hb.block _ (lt_of_block h.ba)).trans h.ba, (hb.block _ (lt_of_block h.bb)).trans h.bb, (hb.block _ (lt_of_block h.bg)).trans h.bg, (hb.block _ (lt_of_block h.g)).trans h.g, h.lo.trans (hb.mono h.lo.size)⟩

set_option maxRecDepth 100000 in
set_option maxHeartbeats 400000 in
theorem lcs_walk_calls (A0 : Option Addr) (c0 : Nat) (a : List ByteArray) (A1 : Option Addr) (c1 : Nat) (b : List ByteArray) (w : World) (hr0 : Kd.C Kd.string w A0 a.length a) (hr1 : Kd.C Kd.string w A1 b.length b) (hla : a.length ≤ 10000) (hlb : b.length ≤ 10000) :
    Calls Try.prog 29 #[.slice A0 a.length c0, .slice A1 b.length c1] w fun e w' => ∃ Ba Bb Bg G xs, e = .returned (.func (.func 32) #[] #[.pointer (some ⟨Ba, 0, none⟩), .pointer (some ⟨Bb, 0, none⟩), .pointer (some ⟨Bg, 0, none⟩)]) ∧
      WalkS w A0 c0 a A1 c1 b xs Ba Bb Bg G w' ∧ Grid a b xs 0 0 ∧ w.heap.size ≤ Ba ∧ w.heap.size ≤ Bb ∧ w.heap.size ≤ Bg ∧ w.heap.size ≤ G ∧ Below w.heap.size w w' := by
  have HR0 := Aside0.mk hr0
  have HR1 := Aside0.mk hr1
  have hmf : ∀ (fn : Fn) (first cap : Array Value) (w : World), (Instr.makeFunc fn first cap).run Try.prog w = .ok (.func fn first cap) w := fun _ _ _ _ => rfl
  have hb0 : Below w.heap.size w ((w.alloc (.cells #[.slice A0 a.length c0] 22)).alloc (.cells #[.slice A1 b.length c1] 22)) := ((Below.refl _ _).alloc (Nat.le_refl _) _).alloc (by simp) _
  have HB0 := Aside0.mk hb0
  clear hr0 hr1 hb0
  go_enter Try.func29, Try.ntmps29
  go_wp2_with (go_at_call 27; refine (lcs_fill_calls A0 c0 a A1 c1 b _ (Kd.C_below HR0.out HB0.out) (Kd.C_below HR1.out HB0.out) hla hlb).mono ?_; rintro e w1 ⟨G, xs, rfl, hG, hh, HG, hb⟩)
  go_ret
  have hbw : Below w.heap.size w w1 := HB0.out.trans (hb.mono (by simp; omega))
  refine ⟨w.heap.size, w.heap.size + 1, w1.heap.size, G, xs, rfl, ⟨?_, ?_, ?_, ?_, hbw.alloc hbw.size _⟩, HG, Nat.le_refl _, by omega, hbw.size, by simp at hG; omega, hbw.alloc hbw.size _⟩
  · have h1 : w1.heap[w.heap.size]? = some (.cells #[.slice A0 a.length c0] 22 (0, 0)) := (hb.block _ (by simp; omega)).trans (by rw [ha, if_neg (by simp), ha, if_pos rfl])
    rw [ha, if_neg (by have := lt_of_block h1; omega)]; exact h1
  · have h1 : w1.heap[w.heap.size + 1]? = some (.cells #[.slice A1 b.length c1] 22 (0, 0)) := (hb.block _ (by simp)).trans (by rw [ha, if_pos (by simp)])
    rw [ha, if_neg (by have := lt_of_block h1; omega)]; exact h1
  · rw [ha, if_pos rfl]
  · rw [ha, if_neg (by have := lt_of_block hh; omega)]; exact hh

/-- How far the iterator has come. -/
structure WalkAt (a b : List ByteArray) (pre : List (Nat × Nat)) (i k : Nat) : Prop where
  hi : i ≤ a.length
  hk : k ≤ b.length
  all : pre ++ lcsP (a.drop i) i (b.drop k) k = lcsP a 0 b 0
theorem WalkAt.start (a b : List ByteArray) : WalkAt a b [] 0 0 := ⟨Nat.zero_le _, Nat.zero_le _, rfl⟩
section
variable {a b : List ByteArray} {pre : List (Nat × Nat)} {i k : Nat}
theorem WalkAt.yes (h : WalkAt a b pre i k) (hi : i < a.length) (hk : k < b.length) (e : rdOf ByteArray.empty a i = rdOf ByteArray.empty b k) : WalkAt a b (pre ++ [(i, k)]) (i + 1) (k + 1) :=
  ⟨hi, hk, by have := h.all; rw [drop_rd hi, drop_rd hk, lcsP_cons, if_pos e] at this; rw [← this]; simp⟩
theorem WalkAt.down (h : WalkAt a b pre i k) (hi : i < a.length) (hk : k < b.length) (e : ¬ rdOf ByteArray.empty a i = rdOf ByteArray.empty b k) (hc : lcsL (a.drop i) (b.drop (k + 1)) ≤ lcsL (a.drop (i + 1)) (b.drop k)) : WalkAt a b pre (i + 1) k :=
  ⟨hi, h.hk, by
    have := h.all
    rw [drop_rd hi, drop_rd hk] at hc
    rw [drop_rd hi, drop_rd hk, lcsP_cons, if_neg e, if_pos hc, ← drop_rd hk] at this
    exact this⟩
theorem WalkAt.right (h : WalkAt a b pre i k) (hi : i < a.length) (hk : k < b.length) (e : ¬ rdOf ByteArray.empty a i = rdOf ByteArray.empty b k) (hc : ¬ lcsL (a.drop i) (b.drop (k + 1)) ≤ lcsL (a.drop (i + 1)) (b.drop k)) : WalkAt a b pre i (k + 1) :=
  ⟨h.hi, hk, by
    have := h.all
    rw [drop_rd hi, drop_rd hk] at hc
    rw [drop_rd hi, drop_rd hk, lcsP_cons, if_neg e, if_neg hc, ← drop_rd hi] at this
    exact this⟩
theorem WalkAt.done (h : WalkAt a b pre i k) (hd : ¬ i < a.length ∨ ¬ k < b.length) : pre = lcsP a 0 b 0 := by
  have := h.all
  rcases hd with hd | hd
  · rw [List.drop_eq_nil_of_le (by omega)] at this
    simpa [lcsP] using this
  · rw [show b.drop k = [] from List.drop_eq_nil_of_le (by omega), lcsP_nil] at this
    simpa using this
theorem WalkAt.some (h : WalkAt a b pre i k) (hi : i < a.length) (hk : k < b.length) (e : rdOf ByteArray.empty a i = rdOf ByteArray.empty b k) : pre.length < (lcsP a 0 b 0).length ∧ pre ++ [(i, k)] <+: lcsP a 0 b 0 := by
  have := (h.yes hi hk e).all
  rw [← this]
  exact ⟨by simp, List.prefix_append _ _⟩
end

theorem Grid.cell10 {a b : List ByteArray} {xs : List Int} (h : Grid a b xs 0 0) {i k : Nat} (hi : i < a.length) (hk : k < b.length) : xs.getD ((i + 1) * (b.length + 1) + k) 0 = (lcsL (a.drop (i + 1)) (b.drop k) : Nat) := h.2.1 _ _ (by omega) (by omega) (by omega)
theorem Grid.cell01 {a b : List ByteArray} {xs : List Int} (h : Grid a b xs 0 0) {i k : Nat} (hi : i < a.length) (hk : k < b.length) : xs.getD (i * (b.length + 1) + (k + 1)) 0 = (lcsL (a.drop i) (b.drop (k + 1)) : Nat) := h.2.1 _ _ (by omega) (by omega) (by omega)

set_option maxRecDepth 100000 in
set_option maxHeartbeats 1600000 in
theorem lcs_walk1_calls (w0 : World) (Kp : World → World → Prop) (A0 : Option Addr) (c0 : Nat) (a : List ByteArray) (A1 : Option Addr) (c1 : Nat) (b : List ByteArray) (xs : List Int) (Ba Bb Bg G n l : Nat) (hr0 : Kd.C Kd.string w0 A0 a.length a) (hr1 : Kd.C Kd.string w0 A1 b.length b) (hla : a.length ≤ 10000) (hlb : b.length ≤ 10000) (hn : 1 ≤ n) (HG : Grid a b xs 0 0) (J Jx : List (Nat × Nat) → World → Prop) (W : World)
    (hJ : ∀ s W W', J s W → Below W.heap.size W W' → J s W')
    (hY : ∀ pre x W1, J pre W1 → pre.length < (lcsP a 0 b 0).length → YieldAt Fence.wide (n - 1) Try.prog l #[.int .i64 (x : Nat × Nat).1, .int .i64 x.2] W1 fun e W' =>
      (e = .returned (.bool true) ∧ J (pre ++ [x]) W' ∧ Kp W1 W') ∨ (e = .returned (.bool false) ∧ Jx (pre ++ [x]) W'))
    (hS : WalkS w0 A0 c0 a A1 c1 b xs Ba Bb Bg G W) (hS0 : ∀ A B, Kp A B → WalkS w0 A0 c0 a A1 c1 b xs Ba Bb Bg G A → WalkS w0 A0 c0 a A1 c1 b xs Ba Bb Bg G B) (h0 : J [] W) :
    Calls Try.prog 32 #[.func (.yield l) #[] #[], .pointer (some ⟨Ba, 0, none⟩), .pointer (some ⟨Bb, 0, none⟩), .pointer (some ⟨Bg, 0, none⟩)] W fun e W' => (∃ v, e = .returned v) ∧ ((∃ ys, ys = lcsP a 0 b 0 ∧ J ys W') ∨ (∃ pre, pre <+: lcsP a 0 b 0 ∧ Jx pre W')) := by
  have HY := Aside0.mk hY
  have HJ := Aside0.mk hJ
  have HS0 := Aside0.mk hS0
  have HGG := Aside0.mk HG
  have HR0 := Aside0.mk hr0
  have HR1 := Aside0.mk hr1
  clear hY hJ hS0 HG hr0 hr1
  go_enter Try.func32, Try.ntmps32
  go_wp2
  go_step3
  go_wp2
  go_step3
  go_wp2
  go_loopw [5, 6] (fun vi vk wr => ∃ (i k : Nat) (pre : List (Nat × Nat)), vi = .int .i64 i ∧ vk = .int .i64 k ∧ WalkAt a b pre i k ∧ Aside0 (J pre wr) ∧ WalkS w0 A0 c0 a A1 c1 b xs Ba Bb Bg G wr)
    (fun vi vk _ => a.length - (intOf vi).toNat + (b.length - (intOf vk).toNat))
  case atStart => exact ⟨0, 0, [], rfl, rfl, WalkAt.start a b, ⟨h0⟩, hS⟩
  case round =>
    clear h0 hS
    obtain ⟨i, k, pre, rfl, rfl, hw, HJp, hs⟩ := hrel
    have hba := cell_of_one hs.ba
    have hbb := cell_of_one hs.bb
    have hi0 := hw.hi
    have hk0 := hw.hk
    have HW := Aside0.mk hw
    have HS := Aside0.mk hs
    clear hw hs
    by_cases hi : i < a.length
    · by_cases hk : k < b.length
      · obtain ⟨ada, eA, hxa⟩ := strAt (Kd.C_below HR0.out HS.out.lo) hi
        obtain ⟨adb, eB, hxb⟩ := strAt (Kd.C_below HR1.out HS.out.lo) hk
        cases eA
        cases eB
        have hi1 : (i : Int) < (a.length : Int) := by omega
        have hk1 : (k : Int) < (b.length : Int) := by omega
        by_cases e : rdOf ByteArray.empty a (i : Int) = rdOf ByteArray.empty b (k : Int)
        · have HW2 := Aside0.mk (HW.out.yes hi hk e)
          obtain ⟨hlt, hpre⟩ := HW.out.some hi hk e
          have HP := Aside0.mk hpre
          have HYq := Aside0.mk (fun q => HY.out pre (i, k) (wr.drewN q) (HJ.out _ _ _ HJp.out (pw_below_drewN (Below.refl _ _) q)) hlt)
          generalize rdOf ByteArray.empty a (i : Int) = x at *
          generalize rdOf ByteArray.empty b (k : Int) = y at *
          have e1 : (x.toList == y.toList) = true := by rw [e]; simp
          clear e hpre hlt
          go_wp2
          go_quiet (fail)
          obtain ⟨fn, tmps, assign, body, hy, hR⟩ := HYq.out nq
          go_step
          go_step
          refine (wpIn_wide (n := n)).1 ?_
          gi_wp2
          refine hR.mono ?_
          rintro e W3 (⟨rfl, hJ3, hk3⟩ | ⟨rfl, hJx3⟩)
          · have hs3 := Aside0.mk (HS0.out _ _ hk3 (HS.out.below (pw_below_drewN (Below.refl _ _) nq)))
            gi_wp2
            go_roundw
            case rel => exact ⟨i + 1, k + 1, _, by go_num, by go_num, HW2.out, ⟨hJ3⟩, hs3.out⟩
            case measure => simp [intOf]; omega
          · gi_wp2
            (try simp only [Exit.noGoto])
            refine bodyPost_end (results_none rfl _ _ _) rfl ?_
            refine ⟨⟨_, rfl⟩, .inr ⟨_, HP.out, hJx3⟩⟩
        · have l10 : (i + 1) * (b.length + 1) + k < (a.length + 1) * (b.length + 1) := idx_lt (by omega) (by omega)
          have l01 : i * (b.length + 1) + (k + 1) < (a.length + 1) * (b.length + 1) := idx_lt (by omega) (by omega)
          have hxl := HGG.out.1
          have l10x : (i + 1) * (b.length + 1) + k < xs.length := by omega
          have l01x : i * (b.length + 1) + (k + 1) < xs.length := by omega
          have hnl := Nat.mul_le_mul (show a.length + 1 ≤ 10001 by omega) (show b.length + 1 ≤ 10001 by omega)
          have bN : (a.length + 1) * (b.length + 1) ≤ 10000000000 := by omega
          have bb : b.length + 1 ≤ 100000 := by omega
          have bi : i ≤ 100000 := by omega
          have bi1 : i + 1 ≤ 100000 := by omega
          have bk : k ≤ 100000 := by omega
          have bk1 : k + 1 ≤ 100000 := by omega
          have wi : IntKind.i64.wrap (↑i + 1) = ↑i + 1 := IntWalk.i64_in _ (by omega)
          have wk : IntKind.i64.wrap (↑k + 1) = ↑k + 1 := IntWalk.i64_in _ (by omega)
          clear hxl hnl
          have HD : Aside0 (lcsL (a.drop i) (b.drop (k + 1)) ≤ lcsL (a.drop (i + 1)) (b.drop k) → WalkAt a b pre (i + 1) k) := ⟨HW.out.down hi hk e⟩
          have HR : Aside0 (¬ lcsL (a.drop i) (b.drop (k + 1)) ≤ lcsL (a.drop (i + 1)) (b.drop k) → WalkAt a b pre i (k + 1)) := ⟨HW.out.right hi hk e⟩
          have hcS : ∀ W, WalkS w0 (some ada) c0 a (some adb) c1 b xs Ba Bb Bg G W → W.cell? ⟨Bg, 0, none⟩ = some (.slice (some ⟨G, 0, none⟩) ((a.length + 1) * (b.length + 1)) ((a.length + 1) * (b.length + 1))) ∧ W.cell? ⟨Bg, 1, none⟩ = some (.int .i64 (↑b.length + 1)) ∧
              W.cell? ⟨G, (i + 1) * (b.length + 1) + k, none⟩ = some (.int .i64 (lcsL (a.drop (i + 1)) (b.drop k) : Nat)) ∧ W.cell? ⟨G, i * (b.length + 1) + (k + 1), none⟩ = some (.int .i64 (lcsL (a.drop i) (b.drop (k + 1)) : Nat)) :=
            fun W h => ⟨by simp [World.cell?, h.bg], by simp [World.cell?, h.bg], by rw [numCell h.g l10x, HGG.out.cell10 hi hk], by rw [numCell h.g l01x, HGG.out.cell01 hi hk]⟩
          have HC := Aside0.mk hcS
          clear hcS l10x l01x
          generalize lcsL (a.drop (i + 1)) (b.drop k) = v1 at *
          generalize lcsL (a.drop i) (b.drop (k + 1)) = v2 at *
          generalize rdOf ByteArray.empty a (i : Int) = x at *
          generalize rdOf ByteArray.empty b (k : Int) = y at *
          have e1 : (x.toList == y.toList) = false := by rw [beq_eq_false_iff_ne]; exact fun h => e (str_eq.1 h)
          clear e
          go_wp2
          go_quiet (fail)
          go_wp2
          have HF : WalkS w0 (some ada) c0 a (some adb) c1 b xs Ba Bb Bg G wr ∧ J pre wr := ⟨HS.out, HJp.out⟩
          have HK : ∀ W W', (WalkS w0 (some ada) c0 a (some adb) c1 b xs Ba Bb Bg G W ∧ J pre W) → Below W.heap.size W W' → WalkS w0 (some ada) c0 a (some adb) c1 b xs Ba Bb Bg G W' ∧ J pre W' := fun W W' h hb => ⟨h.1.below hb, HJ.out _ _ _ h.2 hb⟩
          have HD' : ∀ W q, (WalkS w0 (some ada) c0 a (some adb) c1 b xs Ba Bb Bg G W ∧ J pre W) → (WalkS w0 (some ada) c0 a (some adb) c1 b xs Ba Bb Bg G (W.drewN q) ∧ J pre (W.drewN q)) := fun W q h => HK _ _ h (pw_below_drewN (Below.refl _ _) q)
          have HDd : ∀ W q, (WalkS w0 (some ada) c0 a (some adb) c1 b xs Ba Bb Bg G W ∧ J pre W) → (WalkS w0 (some ada) c0 a (some adb) c1 b xs Ba Bb Bg G (W.drewN q).drew ∧ J pre (W.drewN q).drew) := fun W q h => HK _ _ h (below_drew (pw_below_drewN (Below.refl _ _) q))
          clear hba hbb hxa hxb
          by_cases hv : v2 ≤ v1
          all_goals
            go_region_held3 (fun W => W.cell? ⟨Bg, 0, none⟩ = some (.slice (some ⟨G, 0, none⟩) ((a.length + 1) * (b.length + 1)) ((a.length + 1) * (b.length + 1))) ∧ W.cell? ⟨Bg, 1, none⟩ = some (.int .i64 (↑b.length + 1)) ∧
                W.cell? ⟨G, (i + 1) * (b.length + 1) + k, none⟩ = some (.int .i64 (v1 : Nat)) ∧ W.cell? ⟨G, i * (b.length + 1) + (k + 1), none⟩ = some (.int .i64 (v2 : Nat)))
              (first | exact HC.out _ (HDd _ _ HF).1 | exact HC.out _ (HD' _ _ HF).1 | exact HC.out _ HFa.1 | exact HC.out _ HFb.1)
              (first
                | (go_at_call 28; (with_reducible refine (lcs_at_10 _ _ _ b.length i k _ bN bb bi1 bk l10).mono ?_); rintro e w2 ⟨rfl, hbc⟩; (have HFa : WalkS w0 (some ada) c0 a (some adb) c1 b xs Ba Bb Bg G w2 ∧ J pre w2 := by first | exact HK _ _ (HDd _ _ HF) hbc | exact HK _ _ (HD' _ _ HF) hbc | exact HK _ _ HFb hbc))
                | (go_at_call 28; (with_reducible refine (lcs_at_01 _ _ _ b.length i k _ bN bb bi bk1 l01).mono ?_); rintro e w2 ⟨rfl, hbc⟩; (have HFb : WalkS w0 (some ada) c0 a (some adb) c1 b xs Ba Bb Bg G w2 ∧ J pre w2 := by first | exact HK _ _ (HDd _ _ HF) hbc | exact HK _ _ (HD' _ _ HF) hbc | exact HK _ _ HFa hbc)))
            have HF2 : WalkS w0 (some ada) c0 a (some adb) c1 b xs Ba Bb Bg G w2 ∧ J pre w2 := by first | exact HFb | exact HFa
            go_step
            go_wp2
            go_roundw
            case rel => first | exact ⟨i + 1, k, _, by go_num, by go_num, HD.out hv, ⟨HF2.2⟩, HF2.1⟩ | exact ⟨i, k + 1, _, by go_num, by go_num, HR.out hv, ⟨HF2.2⟩, HF2.1⟩
            case measure => simp [intOf]; omega
      · go_wp2
        simp only [Exit.noGoto]
        refine bodyPost_end (results_none rfl _ _ _) rfl ?_
        exact ⟨⟨_, rfl⟩, .inl ⟨_, HW.out.done (.inr hk), HJp.out⟩⟩
    · go_wp2
      simp only [Exit.noGoto]
      refine bodyPost_end (results_none rfl _ _ _) rfl ?_
      exact ⟨⟨_, rfl⟩, .inl ⟨_, HW.out.done (.inl hi), HJp.out⟩⟩

attribute [local go_sem] Oper.semAt_some

theorem lcsPRow_len (x : ByteArray) (a : List ByteArray) (i : Nat) (rec : List ByteArray → Nat → List (Nat × Nat)) (h : ∀ b k, (rec b k).length ≤ a.length) : ∀ b k, (lcsPRow x a i rec b k).length ≤ a.length + 1
  | [], _ => by simp [lcsPRow]
  | y :: b, k => by
    unfold lcsPRow
    have h1 := h b (k + 1)
    have h2 := h (y :: b) k
    have h3 := lcsPRow_len x a i rec h b (k + 1)
    split
    · simp; omega
    · split <;> omega
theorem lcsP_len : ∀ (a : List ByteArray) (i : Nat) (b : List ByteArray) (k : Nat), (lcsP a i b k).length ≤ a.length
  | [], _, _, _ => by simp [lcsP]
  | x :: a, i, b, k => lcsPRow_len x a i (lcsP a (i + 1)) (fun b k => lcsP_len a (i + 1) b k) b k

/-- A pair's two cells. -/
def pairCells (ps : List (Nat × Nat)) : List Value := ps.flatMap fun p => [.int .i64 p.1, .int .i64 p.2]
theorem pairCells_snoc (ps : List (Nat × Nat)) (p : Nat × Nat) : pairCells (ps ++ [p]) = pairCells ps ++ [.int .i64 p.1, .int .i64 p.2] := by simp [pairCells]

/-- What a round keeps: what lay before; and what the iterator has laid. -/
def PairsK (n₀ hi : Nat) (A B : World) : Prop := Below n₀ A B ∧ ∀ k, n₀ < k → k < hi → B.heap[k]? = A.heap[k]?
theorem PairsK.walkS {w0 : World} {hi : Nat} {A0 : Option Addr} {c0 : Nat} {a : List ByteArray} {A1 : Option Addr} {c1 : Nat} {b : List ByteArray} {xs : List Int} {Ba Bb Bg G : Nat} {A B : World} (hk : PairsK w0.heap.size hi A B)
    (h1 : w0.heap.size < Ba ∧ Ba < hi) (h2 : w0.heap.size < Bb ∧ Bb < hi) (h3 : w0.heap.size < Bg ∧ Bg < hi) (h4 : w0.heap.size < G ∧ G < hi) (h : WalkS w0 A0 c0 a A1 c1 b xs Ba Bb Bg G A) : WalkS w0 A0 c0 a A1 c1 b xs Ba Bb Bg G B :=
  ⟨(hk.2 _ h1.1 h1.2).trans h.ba, (hk.2 _ h2.1 h2.2).trans h.bb, (hk.2 _ h3.1 h3.2).trans h.bg, (hk.2 _ h4.1 h4.2).trans h.g, h.lo.trans hk.1⟩
theorem WalkS.weaken {w0 w1 : World} (hb : Below w0.heap.size w0 w1) {A0 : Option Addr} {c0 : Nat} {a : List ByteArray} {A1 : Option Addr} {c1 : Nat} {b : List ByteArray} {xs : List Int} {Ba Bb Bg G : Nat} {W : World} (h : WalkS w1 A0 c0 a A1 c1 b xs Ba Bb Bg G W) : WalkS w0 A0 c0 a A1 c1 b xs Ba Bb Bg G W :=
  ⟨h.ba, h.bb, h.bg, h.g, hb.trans (h.lo.mono hb.size)⟩

theorem grown_of_below {W W' : World} (hb : Below W.heap.size W W') : W.grownBy W' none := ⟨hb.os, hb.tape, hb.output, hb.size, fun k hk _ => hb.block k hk⟩

theorem lcs_walk_stops (w0 : World) (hi : Nat) (A0 : Option Addr) (c0 : Nat) (a : List ByteArray) (A1 : Option Addr) (c1 : Nat) (b : List ByteArray) (xs : List Int) (Ba Bb Bg G n : Nat) (hr0 : Kd.C Kd.string w0 A0 a.length a) (hr1 : Kd.C Kd.string w0 A1 b.length b) (hla : a.length ≤ 10000) (hlb : b.length ≤ 10000) (hn : 1 ≤ n) (HG : Grid a b xs 0 0)
    (h1 : w0.heap.size < Ba ∧ Ba < hi) (h2 : w0.heap.size < Bb ∧ Bb < hi) (h3 : w0.heap.size < Bg ∧ Bg < hi) (h4 : w0.heap.size < G ∧ G < hi) (w : World) (hS : WalkS w0 A0 c0 a A1 c1 b xs Ba Bb Bg G w) :
    SeqStopsK Fence.wide n Try.prog 32 #[.pointer (some ⟨Ba, 0, none⟩), .pointer (some ⟨Bb, 0, none⟩), .pointer (some ⟨Bg, 0, none⟩)] (fun x : Nat × Nat => #[.int .i64 x.1, .int .i64 x.2]) (PairsK w0.heap.size hi) (fun ys => ys = lcsP a 0 b 0) (fun pre => pre <+: lcsP a 0 b 0) (lcsP a 0 b 0).length w := fun l J Jx W hW hJ _ hY h0 =>
  callsIn_wide.2 (lcs_walk1_calls w0 (PairsK w0.heap.size hi) A0 c0 a A1 c1 b xs Ba Bb Bg G n l hr0 hr1 hla hlb hn HG J Jx W (fun s A B h hb => hJ s A B none h (grown_of_below hb) (by simp)) hY (hS.below hW) (fun A B hk h => hk.walkS h1 h2 h3 h4 h) h0)

set_option maxRecDepth 100000 in
set_option maxHeartbeats 2000000 in
theorem lcs_pairs_own (A0 : Option Addr) (c0 : Nat) (a : List ByteArray) (A1 : Option Addr) (c1 : Nat) (b : List ByteArray) (w : World) (hr0 : Kd.C Kd.string w A0 a.length a) (hr1 : Kd.C Kd.string w A1 b.length b) (hla : a.length ≤ 10000) (hlb : b.length ≤ 10000) :
    Calls Try.prog 23 #[.slice A0 a.length c0, .slice A1 b.length c1] w fun e w' => ∃ v, e = .returned v ∧ w'.ownsRow w.heap.size 34 2 v (lcsP a 0 b 0).length (pairCells (lcsP a 0 b 0)) ∧ Below w.heap.size w w' := by
  refine (callsIn_wide (n := 4)).1 ?_
  have HR0 := Aside0.mk hr0
  have HR1 := Aside0.mk hr1
  have hN := lcsP_len a 0 b 0
  have hN' : (lcsP a 0 b 0).length ≤ 10000 := by omega
  clear hN hr0 hr1
  obtain ⟨i0, hi, hz0, hz1, hz2⟩ := info_parts info34
  refine callsIn_of_wp_marks Try.func23 rfl trivial ?_ rfl
  simp only [Try.ntmps23, List.size_toArray, List.length_cons, List.length_nil, Nat.reduceAdd, Nat.reduceSub, Array.replicate_succ, Array.replicate_zero, List.push_toArray, List.append_toArray, List.nil_append, List.cons_append]
  gi_wp2_with (refine ⟨trivial, ?_⟩; gi_at_call 29; refine (callsIn_wide.2 (lcs_walk_calls A0 c0 a A1 c1 b _ (Kd.C_alloc HR0.out _) (Kd.C_alloc HR1.out _) hla hlb)).mono ?_; rintro e w1 ⟨Ba, Bb, Bg, G, xs, rfl, hS, HG, g1, g2, g3, g4, hb⟩)
  rw [World.size_alloc] at g1 g2 g3 g4
  have hb0 : Below w.heap.size w (w.alloc (.cells #[.slice none 0 0] 31)) := (Below.refl _ w).alloc (Nat.le_refl _) _
  have hbw : Below w.heap.size w w1 := hb0.trans (hb.mono (by simp))
  have hS' := WalkS.weaken hb0 hS
  have bO : Boxed w1 w.heap.size 31 (.slice none 0 0) := (hb.block _ (by simp)).trans (Boxed.new w 31 (.slice none 0 0))
  have lB : w.heap.size < w1.heap.size := bO.lt
  refine wpIn_rangeFunc_ownG rfl (by omega) (gf := 32) (lb := #[.pointer (some ⟨Ba, 0, none⟩), .pointer (some ⟨Bb, 0, none⟩), .pointer (some ⟨Bg, 0, none⟩)]) rfl trivial (enters_of Try.func32 (by kernel_rfl) rfl)
    (lcs_walk_stops w w1.heap.size A0 c0 a A1 c1 b xs Ba Bb Bg G 3 HR0.out HR1.out hla hlb (by omega) HG ⟨by omega, lt_of_block hS.ba⟩ ⟨by omega, lt_of_block hS.bb⟩ ⟨by omega, lt_of_block hS.bg⟩ ⟨by omega, lt_of_block hS.g⟩ w1 hS')
    (fun {A B C} h k => ⟨h.1.trans k.1, fun j j1 j2 => (k.2 j j1 j2).trans (h.2 j j1 j2)⟩)
    (fun W l o o' hl h1 h2 h3 => ⟨belowK_b (w := w1) (Nat.le_of_lt lB) W l o o' hl h1 h2 h3, fun j j1 j2 => (belowK_b (w := w1) (Nat.le_refl _) W l o o' hl h1 h2 h3).block j j2⟩)
    (Below.refl _ _) (fun _ => rfl)
    (fun pre W => (∃ v, Boxed W w.heap.size 31 v ∧ W.ownsRow w1.heap.size 34 2 v pre.length (pairCells pre) ∧ True) ∧ Below w.heap.size w W ∧ w1.heap.size ≤ W.heap.size)
    (fun _ _ _ => False)
    (OwnFrom.and (Own.from (holdsRow_own w1.heap.size w.heap.size 31 34 2 (fun pre => pre.length) (fun pre => pairCells pre) (fun _ _ => True)) _) (OwnFrom.and (ownFrom_below (Nat.le_refl _) (by omega)) (fun s A B row hs hg hr => Nat.le_trans hs hg.size)))
    (fun _ _ _ _ _ hs _ _ => hs)
    ⟨⟨_, bO, World.ownsRow_nil _ _ _ _, trivial⟩, hbw, Nat.le_refl _⟩
    (fun x => { tmps := #[.slice A0 a.length c0, .slice A1 b.length c1, undef, undef, .slice none 0 0, .pointer (some ⟨w.heap.size, 0, none⟩), .int .i64 x.1, .int .i64 x.2, .slice A0 a.length c0, .slice A1 b.length c1,
      .func (.func 32) #[] #[.pointer (some ⟨Ba, 0, none⟩), .pointer (some ⟨Bb, 0, none⟩), .pointer (some ⟨Bg, 0, none⟩)], .int .i64 x.1, .int .i64 x.2, undef, undef, undef, undef, undef, undef, undef], defers := [] }) ?assign ?body ?done ?stop
  case assign =>
    intro l x W K hK
    gi_wp2
    exact hK
  case body =>
    rintro l pre x W ⟨⟨v, hv, hrow, _⟩, hB, hsz⟩ hlt
    have hc := hv.cell
    have hmx : 10001 ≤ maxLen := by decide
    have hmy : pre.length + 1 ≤ maxLen := by omega
    gi_wp2_with (gi_at_builtin; refine wpListIn_append_own _ rfl _ _ 31 rfl w1.heap.size 34 i0 _ 2 16 Try.underlying31 hi hz0 hz1 hz2 rfl (by decide) _ _ _ rfl (hrow.alloc _) ⟨W.heap.size, 0, none⟩ 1 1 [.int .i64 x.1, .int .i64 x.2] rfl rfl (cell_two_new _ _ _ _) (by simp [Value.oneCell']) hmy (by omega) (by simp; omega) ?_; intro v' w2 hown' hgrow _; obtain ⟨g', cap', rfl⟩ := ownsRow_succ hown'; obtain ⟨hv1, hv2, hr2, hk2, hb2⟩ := hv.appended (by decide) (Go.Proofs.YtimchoebiadhmaaW.PrintWords.own_weaken hrow (Nat.le_of_lt lB)) hB.size (Nat.le_refl _) (Go.Proofs.YtimchoebiadhmaaW.PrintWords.own_weaken hown' (Nat.le_of_lt lB)) hgrow; have hc1 := hv1.cell; have hf1 := hv1.frozen)
    have hne : ∀ j, j < w1.heap.size → some j ≠ v.ownBlock := fun j hj e => by have := Go.Proofs.YtimchoebiadhmaaW.PrintWords.own_base hrow j e.symm; omega
    have hr3 := hown'.kept (grownBy_setCell' w2 w.heap.size (.slice (some ⟨g', 0, none⟩) (pre.length + 1) cap')) (.inr (hv1.not_row (by decide) hown').symm)
    refine ⟨hk2.from _, ⟨hb2, fun j j1 j2 => ?_⟩, ⟨_, hv2, ?_, trivial⟩, hB.trans hb2, Nat.le_trans hsz hb2.size⟩
    · rw [Below.heap_setCell _ _ _ _ (by show j ≠ w.heap.size; omega)]
      exact (hgrow.block j (by simp; omega) (hne j j2)).trans (Below.heap_alloc _ _ _ (by omega))
    · rw [pairCells_snoc, List.length_append]; exact hr3
  case done =>
    rintro D ys W hD rfl ⟨⟨v, hv, hrow, _⟩, hB, hsz⟩ hK
    have hc := hv.cell
    gi_wp2
    refine ⟨by simp, .inl ⟨_, _, rfl, run_takeDeferred hK, ?_⟩⟩
    refine ⟨_, results_tmp rfl _ _ _, v, rfl, ownsRow_putObj (Go.Proofs.YtimchoebiadhmaaW.PrintWords.own_weaken hrow (Nat.le_of_lt lB)) _ hK rfl, hB.trans (belowK_b (w := w) (Nat.le_refl _) W D _ _ (by omega) hK rfl rfl)⟩
  case stop =>
    rintro D c pre W _ _ h _
    exact h.elim

/-- The pairs of the longest common row, as the reader sees them. -/
def pairS (p : Nat × Nat) : S34 := ⟨(p.1 : Int), (p.2 : Int)⟩
def lcs_Pairs.f (a b : List ByteArray) : Option (List S34) := if a.length ≤ 10000 ∧ b.length ≤ 10000 then some ((lcsP a 0 b 0).map pairS) else none

theorem reps_pairs {w : World} {base : Nat} {ok : Nat → Prop} (ps : List (Nat × Nat)) : Go.Proofs.YtimchoebiadhmaaW.PrintWords.Reps (k34.M w base ok) 2 (ps.map pairS) (pairCells ps) := by
  suffices h : ∀ (n : Nat) (ps : List (Nat × Nat)), ps.length = n → Go.Proofs.YtimchoebiadhmaaW.PrintWords.Reps (k34.M w base ok) 2 (ps.map pairS) (pairCells ps) from h _ ps rfl
  intro n
  induction n with
  | zero => intro ps h; obtain rfl := List.eq_nil_of_length_eq_zero h; exact Go.Proofs.YtimchoebiadhmaaW.PrintWords.Reps.none _ _
  | succ n ih =>
    intro ps h
    have hne : ps ≠ [] := by intro e; rw [e] at h; simp at h
    rw [← List.dropLast_concat_getLast hne, List.map_append, pairCells_snoc]
    exact (ih ps.dropLast (by simp [h])).snoc (k34_mkM w base ok _) rfl

theorem lcs_Pairs.calls (A0 : Option Addr) (c0 : Nat) (l0 : List ByteArray) (A1 : Option Addr) (c1 : Nat) (l1 : List ByteArray) (r : List S34) (w : World) (hr0 : Kd.C Kd.string w A0 l0.length l0) (hc0 : l0.length ≤ c0) (hr1 : Kd.C Kd.string w A1 l1.length l1) (hc1 : l1.length ≤ c1) (h : lcs_Pairs.f l0 l1 = some r) :
    Calls Try.prog 23 #[.slice A0 l0.length c0, .slice A1 l1.length c1] w fun e w' => ∃ v0_ : Value, e = .returned (v0_) ∧ Kd.R k34 34 w' w.heap.size (fun _ => True) v0_ r ∧ Below w.heap.size w w' := by
  unfold lcs_Pairs.f at h
  split at h
  · rename_i hok
    obtain rfl := Option.some.inj h
    refine (lcs_pairs_own A0 c0 l0 A1 c1 l1 w hr0 hr1 hok.1 hok.2).mono ?_
    rintro e w' ⟨v, rfl, ho, hb⟩
    exact ⟨v, rfl, ⟨fun _ _ => trivial, pairCells (lcsP l0 0 l1 0), by rw [List.length_map]; exact ho, reps_pairs _⟩, hb⟩
  · exact nomatch h
end Go.Proofs.Ytimchoebiadhmaa.X
