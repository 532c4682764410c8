/- The texts that the law EditEither wants, part 5 of 8: what is kept of them. -/
import Derived.Test.YtaolakknkhggnaaCEditEither4
section
namespace Go.Proofs.Ytaolakknkhggnaa.X
open Go.RowKit Go.Maps Go.Shelf Go.Proofs.YtaolakknkhggnaaW.PrintWords Go.Proofs.YtaolakknkhggnaaW.PrintLast
set_option linter.unusedVariables false
set_option linter.unusedSimpArgs false
theorem HowR.weak {K : FuncId} {cap : Array Value} {w w' : World} {rows rows' : List (List ByteArray)} (h : HowR K cap w rows rows') (hb : Below w.heap.size w w') : HowR K cap w' rows rows' := fun W A c base ok hW h1 h2 h3 h4 => h W A c base ok (hb.trans (hW.mono hb.size)) (Nat.le_trans hb.size h1) h2 h3 h4
def xIn2 (a : Int) (n : Nat) (b : Int) (m : Nat) : Int := if (0 ≤ a ∧ a < (n : Int)) ∧ (0 ≤ b ∧ b < (m : Int)) then 0 else 11
def xInsCol (a : Int) (n c r : Nat) : Int := if 0 ≤ a ∧ a < ((n + 1 : Nat) : Int) then (if c = r then 0 else 9) else 11
set_option maxRecDepth 100000 in
set_option maxHeartbeats 4000000 in
theorem how57 (w : World) (gt ga : Nat) (A0 : Option Addr) (c0 : Nat) (hd : List ByteArray) (A1 : Option Addr) (c1 : Nat) (rows : List (List ByteArray)) (hT : TB w gt A0 c0 hd A1 c1 rows) (a : Int) (hg : w.heap[ga]? = some (.cells #[.int .i64 a] 3 (0, 0))) : HowT 57 #[.pointer (some ⟨ga, 0, none⟩), .pointer (some ⟨gt, 0, none⟩)] w (xIn a hd.length) (dropL hd a.toNat) (rows.map fun l => dropL l a.toNat) := by
  have hmf : ∀ (fn : Fn) (first cap : Array Value) (w : World), (Instr.makeFunc fn first cap).run Try.prog w = .ok (.func fn first cap) w := fun _ _ _ _ => rfl
  intro W hW
  show Calls Try.prog 57 #[.pointer (some ⟨ga, 0, none⟩), .pointer (some ⟨gt, 0, none⟩)] W _
  have hwa := hW.trans ((below_alloc (Below.refl W.heap.size W) (.cells #[.slice none 0 0, .slice none 0 0] 25)).mono hW.size)
  have hTa := hT.below hwa
  have ht0 := blk_cell hTa.t 0
  have ht1 := blk_cell hTa.t 1
  have khg := blk_cell ((hwa.block _ (lt_of_block hg)).trans hg) 0
  by_cases hin : 0 ≤ a ∧ a < (hd.length : Int)
  · obtain ⟨k, rfl⟩ : ∃ k : Nat, a = (k : Int) := ⟨a.toNat, by omega⟩
    have HXX : Aside0 (xIn (k : Int) hd.length = 0) := ⟨if_pos hin⟩
    have HWA := Aside0.mk (fun W => within_yes (k : Int) (hd.length : Int) hin.1 hin.2 W)
    rw [Int.toNat_natCast]
    have hE0 := each_calls 58 #[.pointer (some ⟨ga, 0, none⟩)] A0 c0 hd A1 c1 rows (fun l => dropL l k) (W.alloc (.cells #[.slice none 0 0, .slice none 0 0] 25)) hTa.r0 hTa.c0 hTa.r1 hTa.hl enters58 ((how58 w ga k hd.length hg (by omega) (by have := hT.hh; omega)).weak hwa hT.row (fun _ _ => rfl))
    obtain ⟨h2, hh2⟩ : ∃ h2, h2 = dropL hd k := ⟨_, rfl⟩
    obtain ⟨r2, hr2⟩ : ∃ r2, r2 = rows.map fun l => dropL l k := ⟨_, rfl⟩
    first | rw [← hh2, ← hr2] at hE0 ⊢ | (rw [← hr2] at hE0 ⊢; rw [← hh2] at hE0 ⊢)
    clear hh2 hr2
    have HE := Aside0.mk hE0
    clear hE0 hTa hwa hT hW hg hin
    go_enter Try.func57, Try.ntmps57
    go_wp2_with (first
      | (go_at_call 38; refine (HWA.out _).mono ?_; rintro e w8 ⟨rfl, rfl⟩; clear HWA)
      | (go_at_call 37; refine (need_ok 11 _).mono ?_; rintro e w9 ⟨rfl, rfl⟩)
      | (go_at_call 44; refine HE.out.mono ?_; rintro e w2 ⟨v0, v1, rfl, hM, hb2⟩; obtain ⟨Av, cv, rfl, hcv, hCv⟩ := Kd.R_reads hM.1; obtain ⟨Ar, cr, rfl, hcr, hCr⟩ := Kd.S_reads hM.2; have HM := Aside0.mk hM; have HB2 := Aside0.mk hb2; have HZ := Aside0.mk (z_start W Av Ar h2.length r2.length cv cr w2 hb2); have hy0 := blk_cell HZ.out.1 0; have hy1 := blk_cell HZ.out.1 1; have hu0 := blk_frozen HZ.out.1 0; have hu1 := blk_frozen HZ.out.1 1; clear hM hb2 hCv hCr HE))
    have HF := Aside0.mk (z_end HM.out HB2.out (.slice Av h2.length cv) (.slice Ar r2.length cr))
    have hc0 := blk_cell HZ.out.2 0
    have hc1 := blk_cell HZ.out.2 1
    refine bodyPost_ret (v := .agg #[.slice Av h2.length cv, .slice Ar r2.length cr]) (by simp [results, Try.results57, go_sem, hc0, hc1]) rfl ?_
    exact .inl ⟨HXX.out, _, _, rfl, HF.out⟩
  · have HXX : Aside0 (xIn a hd.length ≠ 0 ∧ xIn a hd.length = 11) := ⟨by unfold xIn; rw [if_neg hin]; simp⟩
    have HWA := Aside0.mk (fun W => within_no a (hd.length : Int) hin W)
    clear hTa hwa hT hW hg hin
    go_enter Try.func57, Try.ntmps57
    go_wp2_with (first
      | (go_at_call 38; refine (HWA.out _).mono ?_; rintro e w8 ⟨rfl, rfl⟩; clear HWA)
      | (go_at_call 37; refine (need_no 11 _).mono ?_; rintro e w9 ⟨rfl, rfl⟩))
    exact ⟨rfl, .inr ⟨HXX.out.1, by rw [HXX.out.2], below_alloc (Below.refl _ _) _⟩⟩
set_option maxRecDepth 100000 in
set_option maxHeartbeats 4000000 in
theorem how65 (w : World) (gt ga : Nat) (A0 : Option Addr) (c0 : Nat) (hd : List ByteArray) (A1 : Option Addr) (c1 : Nat) (rows : List (List ByteArray)) (hT : TB w gt A0 c0 hd A1 c1 rows) (a : Int) (hg : w.heap[ga]? = some (.cells #[.int .i64 a] 3 (0, 0))) : HowT 65 #[.pointer (some ⟨ga, 0, none⟩), .pointer (some ⟨gt, 0, none⟩)] w (xIn a rows.length) hd (dropL rows a.toNat) := by
  have hmf : ∀ (fn : Fn) (first cap : Array Value) (w : World), (Instr.makeFunc fn first cap).run Try.prog w = .ok (.func fn first cap) w := fun _ _ _ _ => rfl
  intro W hW
  show Calls Try.prog 65 #[.pointer (some ⟨ga, 0, none⟩), .pointer (some ⟨gt, 0, none⟩)] W _
  have hwa := hW.trans ((below_alloc (Below.refl W.heap.size W) (.cells #[.slice none 0 0, .slice none 0 0] 25)).mono hW.size)
  have hTa := hT.below hwa
  have ht0 := blk_cell hTa.t 0
  have ht1 := blk_cell hTa.t 1
  have khg := blk_cell ((hwa.block _ (lt_of_block hg)).trans hg) 0
  by_cases hin : 0 ≤ a ∧ a < (rows.length : Int)
  · obtain ⟨k, rfl⟩ : ∃ k : Nat, a = (k : Int) := ⟨a.toNat, by omega⟩
    have HXX : Aside0 (xIn (k : Int) rows.length = 0) := ⟨if_pos hin⟩
    have HWA := Aside0.mk (fun W => within_yes (k : Int) (rows.length : Int) hin.1 hin.2 W)
    rw [Int.toNat_natCast]
    have hE0 := rows_calls 66 #[.pointer (some ⟨ga, 0, none⟩)] A0 c0 hd A1 c1 rows (dropL rows k) (W.alloc (.cells #[.slice none 0 0, .slice none 0 0] 25)) hTa.r0 hTa.c0 hTa.r1 hTa.hl (fun x hx => by have h1 := hT.row x hx; have h2 := hT.hh; omega) enters66 ((how66 w ga k rows hg (by omega) (by have := hT.hl; omega)).weak hwa)
    obtain ⟨r2, hr2⟩ : ∃ r2, r2 = dropL rows k := ⟨_, rfl⟩
    rw [← hr2] at hE0 ⊢
    clear hr2
    have HE := Aside0.mk hE0
    clear hE0 hTa hwa hT hW hg hin
    go_enter Try.func65, Try.ntmps65
    go_wp2_with (first
      | (go_at_call 38; refine (HWA.out _).mono ?_; rintro e w8 ⟨rfl, rfl⟩; clear HWA)
      | (go_at_call 37; refine (need_ok 11 _).mono ?_; rintro e w9 ⟨rfl, rfl⟩)
      | (go_at_call 39; refine HE.out.mono ?_; rintro e w2 ⟨v0, v1, rfl, hM, hb2⟩; obtain ⟨Av, cv, rfl, hcv, hCv⟩ := Kd.R_reads hM.1; obtain ⟨Ar, cr, rfl, hcr, hCr⟩ := Kd.S_reads hM.2; have HM := Aside0.mk hM; have HB2 := Aside0.mk hb2; have HZ := Aside0.mk (z_start W Av Ar hd.length r2.length cv cr w2 hb2); have hy0 := blk_cell HZ.out.1 0; have hy1 := blk_cell HZ.out.1 1; have hu0 := blk_frozen HZ.out.1 0; have hu1 := blk_frozen HZ.out.1 1; clear hM hb2 hCv hCr HE))
    have HF := Aside0.mk (z_end HM.out HB2.out (.slice Av hd.length cv) (.slice Ar r2.length cr))
    have hc0 := blk_cell HZ.out.2 0
    have hc1 := blk_cell HZ.out.2 1
    refine bodyPost_ret (v := .agg #[.slice Av hd.length cv, .slice Ar r2.length cr]) (by simp [results, Try.results65, go_sem, hc0, hc1]) rfl ?_
    exact .inl ⟨HXX.out, _, _, rfl, HF.out⟩
  · have HXX : Aside0 (xIn a rows.length ≠ 0 ∧ xIn a rows.length = 11) := ⟨by unfold xIn; rw [if_neg hin]; simp⟩
    have HWA := Aside0.mk (fun W => within_no a (rows.length : Int) hin W)
    clear hTa hwa hT hW hg hin
    go_enter Try.func65, Try.ntmps65
    go_wp2_with (first
      | (go_at_call 38; refine (HWA.out _).mono ?_; rintro e w8 ⟨rfl, rfl⟩; clear HWA)
      | (go_at_call 37; refine (need_no 11 _).mono ?_; rintro e w9 ⟨rfl, rfl⟩))
    exact ⟨rfl, .inr ⟨HXX.out.1, by rw [HXX.out.2], below_alloc (Below.refl _ _) _⟩⟩
set_option maxRecDepth 100000 in
set_option maxHeartbeats 4000000 in
theorem how46 (w : World) (gt ga gb : Nat) (A0 : Option Addr) (c0 : Nat) (hd : List ByteArray) (A1 : Option Addr) (c1 : Nat) (rows : List (List ByteArray)) (hT : TB w gt A0 c0 hd A1 c1 rows) (a b : Int) (hg : w.heap[ga]? = some (.cells #[.int .i64 a] 3 (0, 0))) (hgb : w.heap[gb]? = some (.cells #[.int .i64 b] 3 (0, 0))) : HowT 46 #[.pointer (some ⟨ga, 0, none⟩), .pointer (some ⟨gt, 0, none⟩), .pointer (some ⟨gb, 0, none⟩)] w (xIn2 a hd.length b hd.length) (putL (dropL hd a.toNat) b.toNat (hd.getD a.toNat ByteArray.empty)) (rows.map fun l => putL (dropL l a.toNat) b.toNat (l.getD a.toNat ByteArray.empty)) := by
  have hmf : ∀ (fn : Fn) (first cap : Array Value) (w : World), (Instr.makeFunc fn first cap).run Try.prog w = .ok (.func fn first cap) w := fun _ _ _ _ => rfl
  intro W hW
  show Calls Try.prog 46 #[.pointer (some ⟨ga, 0, none⟩), .pointer (some ⟨gt, 0, none⟩), .pointer (some ⟨gb, 0, none⟩)] W _
  have hwa := hW.trans ((below_alloc (Below.refl W.heap.size W) (.cells #[.slice none 0 0, .slice none 0 0] 25)).mono hW.size)
  have hTa := hT.below hwa
  have ht0 := blk_cell hTa.t 0
  have ht1 := blk_cell hTa.t 1
  have khg := blk_cell ((hwa.block _ (lt_of_block hg)).trans hg) 0
  have khgb := blk_cell ((hwa.block _ (lt_of_block hgb)).trans hgb) 0
  by_cases hin : 0 ≤ a ∧ a < (hd.length : Int)
  · have HWA := Aside0.mk (fun W => within_yes a (hd.length : Int) hin.1 hin.2 W)
    by_cases hin2 : 0 ≤ b ∧ b < (hd.length : Int)
    · have HWB := Aside0.mk (fun W => within_yes b (hd.length : Int) hin2.1 hin2.2 W)
      obtain ⟨k, rfl⟩ : ∃ k : Nat, a = (k : Int) := ⟨a.toNat, by omega⟩
      obtain ⟨j, rfl⟩ : ∃ j : Nat, b = (j : Int) := ⟨b.toNat, by omega⟩
      have HXX : Aside0 (xIn2 (k : Int) hd.length (j : Int) hd.length = 0) := ⟨if_pos ⟨hin, hin2⟩⟩
      rw [Int.toNat_natCast, Int.toNat_natCast]
      have hE0 := each_calls 47 #[.pointer (some ⟨ga, 0, none⟩), .pointer (some ⟨gb, 0, none⟩)] A0 c0 hd A1 c1 rows (fun l => putL (dropL l k) j (l.getD k ByteArray.empty)) (W.alloc (.cells #[.slice none 0 0, .slice none 0 0] 25)) hTa.r0 hTa.c0 hTa.r1 hTa.hl enters47 ((how47 w ga gb k j hd.length hg hgb (by omega) (by omega) (by have := hT.hh; omega)).weak hwa hT.row (fun _ _ => rfl))
      obtain ⟨h2, hh2⟩ : ∃ h2, h2 = putL (dropL hd k) j (hd.getD k ByteArray.empty) := ⟨_, rfl⟩
      obtain ⟨r2, hr2⟩ : ∃ r2, r2 = rows.map fun l => putL (dropL l k) j (l.getD k ByteArray.empty) := ⟨_, rfl⟩
      first | rw [← hh2, ← hr2] at hE0 ⊢ | (rw [← hr2] at hE0 ⊢; rw [← hh2] at hE0 ⊢)
      clear hh2 hr2
      have HE := Aside0.mk hE0
      clear hE0 hTa hwa hT hW hg hgb hin hin2
      go_enter Try.func46, Try.ntmps46
      go_wp2_with (first
        | (go_at_call 38; refine (HWA.out _).mono ?_; rintro e w8 ⟨rfl, rfl⟩; clear HWA)
        | (go_at_call 38; refine (HWB.out _).mono ?_; rintro e w8 ⟨rfl, rfl⟩; clear HWB)
        | (go_at_call 37; refine (need_ok 11 _).mono ?_; rintro e w9 ⟨rfl, rfl⟩)
        | (go_at_call 44; refine HE.out.mono ?_; rintro e w2 ⟨v0, v1, rfl, hM, hb2⟩; obtain ⟨Av, cv, rfl, hcv, hCv⟩ := Kd.R_reads hM.1; obtain ⟨Ar, cr, rfl, hcr, hCr⟩ := Kd.S_reads hM.2; have HM := Aside0.mk hM; have HB2 := Aside0.mk hb2; have HZ := Aside0.mk (z_start W Av Ar h2.length r2.length cv cr w2 hb2); have hy0 := blk_cell HZ.out.1 0; have hy1 := blk_cell HZ.out.1 1; have hu0 := blk_frozen HZ.out.1 0; have hu1 := blk_frozen HZ.out.1 1; clear hM hb2 hCv hCr HE))
      have HF := Aside0.mk (z_end HM.out HB2.out (.slice Av h2.length cv) (.slice Ar r2.length cr))
      have hc0 := blk_cell HZ.out.2 0
      have hc1 := blk_cell HZ.out.2 1
      refine bodyPost_ret (v := .agg #[.slice Av h2.length cv, .slice Ar r2.length cr]) (by simp [results, Try.results46, go_sem, hc0, hc1]) rfl ?_
      exact .inl ⟨HXX.out, _, _, rfl, HF.out⟩
    · have HWB := Aside0.mk (fun W => within_no b (hd.length : Int) hin2 W)
      have HXX : Aside0 (xIn2 a hd.length b hd.length ≠ 0 ∧ xIn2 a hd.length b hd.length = 11) := ⟨by unfold xIn2; rw [if_neg (fun h => hin2 h.2)]; simp⟩
      clear hTa hwa hT hW hg hgb hin hin2 
      go_enter Try.func46, Try.ntmps46
      go_wp2_with (first
        | (go_at_call 38; refine (HWA.out _).mono ?_; rintro e w8 ⟨rfl, rfl⟩; clear HWA)
        | (go_at_call 38; refine (HWB.out _).mono ?_; rintro e w8 ⟨rfl, rfl⟩; clear HWB)
        | (go_at_call 37; refine (need_no 11 _).mono ?_; rintro e w9 ⟨rfl, rfl⟩))
      exact ⟨rfl, .inr ⟨HXX.out.1, by rw [HXX.out.2], below_alloc (Below.refl _ _) _⟩⟩
  · have HXX : Aside0 (xIn2 a hd.length b hd.length ≠ 0 ∧ xIn2 a hd.length b hd.length = 11) := ⟨by unfold xIn2; rw [if_neg (fun h => hin h.1)]; simp⟩
    have HWA := Aside0.mk (fun W => within_no a (hd.length : Int) hin W)
    clear hTa hwa hT hW hg hgb hin 
    go_enter Try.func46, Try.ntmps46
    go_wp2_with (first
      | (go_at_call 38; refine (HWA.out _).mono ?_; rintro e w8 ⟨rfl, rfl⟩; clear HWA)
      | (go_at_call 37; refine (need_no 11 _).mono ?_; rintro e w9 ⟨rfl, rfl⟩))
    exact ⟨rfl, .inr ⟨HXX.out.1, by rw [HXX.out.2], below_alloc (Below.refl _ _) _⟩⟩
set_option maxRecDepth 100000 in
set_option maxHeartbeats 4000000 in
theorem how49 (w : World) (gt ga gb : Nat) (A0 : Option Addr) (c0 : Nat) (hd : List ByteArray) (A1 : Option Addr) (c1 : Nat) (rows : List (List ByteArray)) (hT : TB w gt A0 c0 hd A1 c1 rows) (a b : Int) (hg : w.heap[ga]? = some (.cells #[.int .i64 a] 3 (0, 0))) (hgb : w.heap[gb]? = some (.cells #[.int .i64 b] 3 (0, 0))) : HowT 49 #[.pointer (some ⟨ga, 0, none⟩), .pointer (some ⟨gt, 0, none⟩), .pointer (some ⟨gb, 0, none⟩)] w (xIn2 a rows.length b rows.length) hd (putL (dropL rows a.toNat) b.toNat (rows.getD a.toNat [])) := by
  have hmf : ∀ (fn : Fn) (first cap : Array Value) (w : World), (Instr.makeFunc fn first cap).run Try.prog w = .ok (.func fn first cap) w := fun _ _ _ _ => rfl
  intro W hW
  show Calls Try.prog 49 #[.pointer (some ⟨ga, 0, none⟩), .pointer (some ⟨gt, 0, none⟩), .pointer (some ⟨gb, 0, none⟩)] W _
  have hwa := hW.trans ((below_alloc (Below.refl W.heap.size W) (.cells #[.slice none 0 0, .slice none 0 0] 25)).mono hW.size)
  have hTa := hT.below hwa
  have ht0 := blk_cell hTa.t 0
  have ht1 := blk_cell hTa.t 1
  have khg := blk_cell ((hwa.block _ (lt_of_block hg)).trans hg) 0
  have khgb := blk_cell ((hwa.block _ (lt_of_block hgb)).trans hgb) 0
  by_cases hin : 0 ≤ a ∧ a < (rows.length : Int)
  · have HWA := Aside0.mk (fun W => within_yes a (rows.length : Int) hin.1 hin.2 W)
    by_cases hin2 : 0 ≤ b ∧ b < (rows.length : Int)
    · have HWB := Aside0.mk (fun W => within_yes b (rows.length : Int) hin2.1 hin2.2 W)
      obtain ⟨k, rfl⟩ : ∃ k : Nat, a = (k : Int) := ⟨a.toNat, by omega⟩
      obtain ⟨j, rfl⟩ : ∃ j : Nat, b = (j : Int) := ⟨b.toNat, by omega⟩
      have HXX : Aside0 (xIn2 (k : Int) rows.length (j : Int) rows.length = 0) := ⟨if_pos ⟨hin, hin2⟩⟩
      rw [Int.toNat_natCast, Int.toNat_natCast]
      have hE0 := rows_calls 50 #[.pointer (some ⟨ga, 0, none⟩), .pointer (some ⟨gb, 0, none⟩)] A0 c0 hd A1 c1 rows (putL (dropL rows k) j (rows.getD k [])) (W.alloc (.cells #[.slice none 0 0, .slice none 0 0] 25)) hTa.r0 hTa.c0 hTa.r1 hTa.hl (fun x hx => by have h1 := hT.row x hx; have h2 := hT.hh; omega) enters50 ((how50 w ga gb k j rows hg hgb (by omega) (by omega) (by have := hT.hl; omega)).weak hwa)
      obtain ⟨r2, hr2⟩ : ∃ r2, r2 = putL (dropL rows k) j (rows.getD k []) := ⟨_, rfl⟩
      rw [← hr2] at hE0 ⊢
      clear hr2
      have HE := Aside0.mk hE0
      clear hE0 hTa hwa hT hW hg hgb hin hin2
      go_enter Try.func49, Try.ntmps49
      go_wp2_with (first
        | (go_at_call 38; refine (HWA.out _).mono ?_; rintro e w8 ⟨rfl, rfl⟩; clear HWA)
        | (go_at_call 38; refine (HWB.out _).mono ?_; rintro e w8 ⟨rfl, rfl⟩; clear HWB)
        | (go_at_call 37; refine (need_ok 11 _).mono ?_; rintro e w9 ⟨rfl, rfl⟩)
        | (go_at_call 39; refine HE.out.mono ?_; rintro e w2 ⟨v0, v1, rfl, hM, hb2⟩; obtain ⟨Av, cv, rfl, hcv, hCv⟩ := Kd.R_reads hM.1; obtain ⟨Ar, cr, rfl, hcr, hCr⟩ := Kd.S_reads hM.2; have HM := Aside0.mk hM; have HB2 := Aside0.mk hb2; have HZ := Aside0.mk (z_start W Av Ar hd.length r2.length cv cr w2 hb2); have hy0 := blk_cell HZ.out.1 0; have hy1 := blk_cell HZ.out.1 1; have hu0 := blk_frozen HZ.out.1 0; have hu1 := blk_frozen HZ.out.1 1; clear hM hb2 hCv hCr HE))
      have HF := Aside0.mk (z_end HM.out HB2.out (.slice Av hd.length cv) (.slice Ar r2.length cr))
      have hc0 := blk_cell HZ.out.2 0
      have hc1 := blk_cell HZ.out.2 1
      refine bodyPost_ret (v := .agg #[.slice Av hd.length cv, .slice Ar r2.length cr]) (by simp [results, Try.results49, go_sem, hc0, hc1]) rfl ?_
      exact .inl ⟨HXX.out, _, _, rfl, HF.out⟩
    · have HWB := Aside0.mk (fun W => within_no b (rows.length : Int) hin2 W)
      have HXX : Aside0 (xIn2 a rows.length b rows.length ≠ 0 ∧ xIn2 a rows.length b rows.length = 11) := ⟨by unfold xIn2; rw [if_neg (fun h => hin2 h.2)]; simp⟩
      clear hTa hwa hT hW hg hgb hin hin2 
      go_enter Try.func49, Try.ntmps49
      go_wp2_with (first
        | (go_at_call 38; refine (HWA.out _).mono ?_; rintro e w8 ⟨rfl, rfl⟩; clear HWA)
        | (go_at_call 38; refine (HWB.out _).mono ?_; rintro e w8 ⟨rfl, rfl⟩; clear HWB)
        | (go_at_call 37; refine (need_no 11 _).mono ?_; rintro e w9 ⟨rfl, rfl⟩))
      exact ⟨rfl, .inr ⟨HXX.out.1, by rw [HXX.out.2], below_alloc (Below.refl _ _) _⟩⟩
  · have HXX : Aside0 (xIn2 a rows.length b rows.length ≠ 0 ∧ xIn2 a rows.length b rows.length = 11) := ⟨by unfold xIn2; rw [if_neg (fun h => hin h.1)]; simp⟩
    have HWA := Aside0.mk (fun W => within_no a (rows.length : Int) hin W)
    clear hTa hwa hT hW hg hgb hin 
    go_enter Try.func49, Try.ntmps49
    go_wp2_with (first
      | (go_at_call 38; refine (HWA.out _).mono ?_; rintro e w8 ⟨rfl, rfl⟩; clear HWA)
      | (go_at_call 37; refine (need_no 11 _).mono ?_; rintro e w9 ⟨rfl, rfl⟩))
    exact ⟨rfl, .inr ⟨HXX.out.1, by rw [HXX.out.2], below_alloc (Below.refl _ _) _⟩⟩
set_option maxRecDepth 100000 in
set_option maxHeartbeats 4000000 in
theorem how36 (w : World) (gt ga gb gs : Nat) (A0 : Option Addr) (c0 : Nat) (hd : List ByteArray) (A1 : Option Addr) (c1 : Nat) (rows : List (List ByteArray)) (hT : TB w gt A0 c0 hd A1 c1 rows) (a b : Int) (s : ByteArray) (hg : w.heap[ga]? = some (.cells #[.int .i64 a] 3 (0, 0))) (hgb : w.heap[gb]? = some (.cells #[.int .i64 b] 3 (0, 0))) (hgs : w.heap[gs]? = some (.cells #[.string s] 9 (0, 0))) : HowT 36 #[.pointer (some ⟨ga, 0, none⟩), .pointer (some ⟨gt, 0, none⟩), .pointer (some ⟨gb, 0, none⟩), .pointer (some ⟨gs, 0, none⟩)] w (xIn2 a rows.length b hd.length) hd (rows.set a.toNat ((rows.getD a.toNat []).set b.toNat s)) := by
  have hmf : ∀ (fn : Fn) (first cap : Array Value) (w : World), (Instr.makeFunc fn first cap).run Try.prog w = .ok (.func fn first cap) w := fun _ _ _ _ => rfl
  intro W hW
  show Calls Try.prog 36 #[.pointer (some ⟨ga, 0, none⟩), .pointer (some ⟨gt, 0, none⟩), .pointer (some ⟨gb, 0, none⟩), .pointer (some ⟨gs, 0, none⟩)] W _
  have hwa := hW.trans ((below_alloc (Below.refl W.heap.size W) (.cells #[.slice none 0 0, .slice none 0 0] 25)).mono hW.size)
  have hTa := hT.below hwa
  have ht0 := blk_cell hTa.t 0
  have ht1 := blk_cell hTa.t 1
  have khg := blk_cell ((hwa.block _ (lt_of_block hg)).trans hg) 0
  have khgb := blk_cell ((hwa.block _ (lt_of_block hgb)).trans hgb) 0
  have khgs := blk_cell ((hwa.block _ (lt_of_block hgs)).trans hgs) 0
  by_cases hin : 0 ≤ a ∧ a < (rows.length : Int)
  · have HWA := Aside0.mk (fun W => within_yes a (rows.length : Int) hin.1 hin.2 W)
    by_cases hin2 : 0 ≤ b ∧ b < (hd.length : Int)
    · have HWB := Aside0.mk (fun W => within_yes b (hd.length : Int) hin2.1 hin2.2 W)
      obtain ⟨k, rfl⟩ : ∃ k : Nat, a = (k : Int) := ⟨a.toNat, by omega⟩
      obtain ⟨j, rfl⟩ : ∃ j : Nat, b = (j : Int) := ⟨b.toNat, by omega⟩
      have HXX : Aside0 (xIn2 (k : Int) rows.length (j : Int) hd.length = 0) := ⟨if_pos ⟨hin, hin2⟩⟩
      rw [Int.toNat_natCast, Int.toNat_natCast]
      have hrk : rows[k]? = some (rows.getD k []) := by rw [List.getD_eq_getElem?_getD, List.getElem?_eq_getElem (by omega)]; rfl
      have hrl : (rows.getD k []).length = hd.length := hT.row _ (.inr (List.mem_of_getElem? hrk))
      have hE0 := rows_calls 40 #[.pointer (some ⟨gs, 0, none⟩), .pointer (some ⟨ga, 0, none⟩), .pointer (some ⟨gb, 0, none⟩)] A0 c0 hd A1 c1 rows (rows.set k ((rows.getD k []).set j s)) (W.alloc (.cells #[.slice none 0 0, .slice none 0 0] 25)) hTa.r0 hTa.c0 hTa.r1 hTa.hl (fun x hx => by have h1 := hT.row x hx; have h2 := hT.hh; omega) enters40 ((how40 w ga gb gs k j s rows _ hg hgb hgs hrk (by omega)).weak hwa)
      obtain ⟨r2, hr2⟩ : ∃ r2, r2 = rows.set k ((rows.getD k []).set j s) := ⟨_, rfl⟩
      rw [← hr2] at hE0 ⊢
      clear hr2
      have HE := Aside0.mk hE0
      clear hE0 hTa hwa hT hW hg hgb hgs hin hin2 hrk hrl
      go_enter Try.func36, Try.ntmps36
      go_wp2_with (first
        | (go_at_call 38; refine (HWA.out _).mono ?_; rintro e w8 ⟨rfl, rfl⟩; clear HWA)
        | (go_at_call 38; refine (HWB.out _).mono ?_; rintro e w8 ⟨rfl, rfl⟩; clear HWB)
        | (go_at_call 37; refine (need_ok 11 _).mono ?_; rintro e w9 ⟨rfl, rfl⟩)
        | (go_at_call 39; refine HE.out.mono ?_; rintro e w2 ⟨v0, v1, rfl, hM, hb2⟩; obtain ⟨Av, cv, rfl, hcv, hCv⟩ := Kd.R_reads hM.1; obtain ⟨Ar, cr, rfl, hcr, hCr⟩ := Kd.S_reads hM.2; have HM := Aside0.mk hM; have HB2 := Aside0.mk hb2; have HZ := Aside0.mk (z_start W Av Ar hd.length r2.length cv cr w2 hb2); have hy0 := blk_cell HZ.out.1 0; have hy1 := blk_cell HZ.out.1 1; have hu0 := blk_frozen HZ.out.1 0; have hu1 := blk_frozen HZ.out.1 1; clear hM hb2 hCv hCr HE))
      have HF := Aside0.mk (z_end HM.out HB2.out (.slice Av hd.length cv) (.slice Ar r2.length cr))
      have hc0 := blk_cell HZ.out.2 0
      have hc1 := blk_cell HZ.out.2 1
      refine bodyPost_ret (v := .agg #[.slice Av hd.length cv, .slice Ar r2.length cr]) (by simp [results, Try.results36, go_sem, hc0, hc1]) rfl ?_
      exact .inl ⟨HXX.out, _, _, rfl, HF.out⟩
    · have HWB := Aside0.mk (fun W => within_no b (hd.length : Int) hin2 W)
      have HXX : Aside0 (xIn2 a rows.length b hd.length ≠ 0 ∧ xIn2 a rows.length b hd.length = 11) := ⟨by unfold xIn2; rw [if_neg (fun h => hin2 h.2)]; simp⟩
      clear hTa hwa hT hW hg hgb hin hin2 hgs
      go_enter Try.func36, Try.ntmps36
      go_wp2_with (first
        | (go_at_call 38; refine (HWA.out _).mono ?_; rintro e w8 ⟨rfl, rfl⟩; clear HWA)
        | (go_at_call 38; refine (HWB.out _).mono ?_; rintro e w8 ⟨rfl, rfl⟩; clear HWB)
        | (go_at_call 37; refine (need_no 11 _).mono ?_; rintro e w9 ⟨rfl, rfl⟩))
      exact ⟨rfl, .inr ⟨HXX.out.1, by rw [HXX.out.2], below_alloc (Below.refl _ _) _⟩⟩
  · have HXX : Aside0 (xIn2 a rows.length b hd.length ≠ 0 ∧ xIn2 a rows.length b hd.length = 11) := ⟨by unfold xIn2; rw [if_neg (fun h => hin h.1)]; simp⟩
    have HWA := Aside0.mk (fun W => within_no a (rows.length : Int) hin W)
    clear hTa hwa hT hW hg hgb hin hgs
    go_enter Try.func36, Try.ntmps36
    go_wp2_with (first
      | (go_at_call 38; refine (HWA.out _).mono ?_; rintro e w8 ⟨rfl, rfl⟩; clear HWA)
      | (go_at_call 37; refine (need_no 11 _).mono ?_; rintro e w9 ⟨rfl, rfl⟩))
    exact ⟨rfl, .inr ⟨HXX.out.1, by rw [HXX.out.2], below_alloc (Below.refl _ _) _⟩⟩
set_option maxRecDepth 100000 in
set_option maxHeartbeats 4000000 in
theorem how61 (w : World) (gt ga gc : Nat) (A0 : Option Addr) (c0 : Nat) (hd : List ByteArray) (A1 : Option Addr) (c1 : Nat) (rows : List (List ByteArray)) (hT : TB w gt A0 c0 hd A1 c1 rows) (a : Int) (Ac : Option Addr) (cc : Nat) (cells : List ByteArray) (hg : w.heap[ga]? = some (.cells #[.int .i64 a] 3 (0, 0))) (hgc : w.heap[gc]? = some (.cells #[.slice Ac cells.length cc] 22 (0, 0))) (hcr : Kd.C Kd.string w Ac cells.length cells) (hcc : cells.length ≤ cc) (hcl : cells.length ≤ 1000000) : HowT 61 #[.pointer (some ⟨ga, 0, none⟩), .pointer (some ⟨gt, 0, none⟩), .pointer (some ⟨gc, 0, none⟩)] w (xIn a (rows.length + 1)) hd (putL rows a.toNat cells) := by
  have hmf : ∀ (fn : Fn) (first cap : Array Value) (w : World), (Instr.makeFunc fn first cap).run Try.prog w = .ok (.func fn first cap) w := fun _ _ _ _ => rfl
  intro W hW
  show Calls Try.prog 61 #[.pointer (some ⟨ga, 0, none⟩), .pointer (some ⟨gt, 0, none⟩), .pointer (some ⟨gc, 0, none⟩)] W _
  have hwa := hW.trans ((below_alloc (Below.refl W.heap.size W) (.cells #[.slice none 0 0, .slice none 0 0] 25)).mono hW.size)
  have hTa := hT.below hwa
  have ht0 := blk_cell hTa.t 0
  have ht1 := blk_cell hTa.t 1
  have khg := blk_cell ((hwa.block _ (lt_of_block hg)).trans hg) 0
  have khgc := blk_cell ((hwa.block _ (lt_of_block hgc)).trans hgc) 0
  have hlb := hT.hl
  obtain ⟨m, hm⟩ : ∃ m, m = rows.length + 1 := ⟨_, rfl⟩
  have hw1 : wrap64 ((rows.length : Int) + 1) = (m : Int) := by unfold wrap64; omega
  have hw2 : IntKind.i64.wrap ((rows.length : Int) + 1) = (m : Int) := by rw [IntKind.wrap_i64]; omega
  rw [← hm]
  by_cases hin : 0 ≤ a ∧ a < (m : Int)
  · obtain ⟨k, rfl⟩ : ∃ k : Nat, a = (k : Int) := ⟨a.toNat, by omega⟩
    have HXX : Aside0 (xIn (k : Int) m = 0) := ⟨if_pos hin⟩
    have HWA := Aside0.mk (fun W => within_yes (k : Int) (m : Int) hin.1 hin.2 W)
    rw [Int.toNat_natCast]
    have hE0 := rows_calls 62 #[.pointer (some ⟨ga, 0, none⟩), .pointer (some ⟨gc, 0, none⟩)] A0 c0 hd A1 c1 rows (putL rows k cells) (W.alloc (.cells #[.slice none 0 0, .slice none 0 0] 25)) hTa.r0 hTa.c0 hTa.r1 hTa.hl (fun x hx => by have h1 := hT.row x hx; have h2 := hT.hh; omega) enters62 ((how62 w ga gc k Ac cc cells rows hg hgc hcr hcc hcl (by omega) (by omega)).weak hwa)
    obtain ⟨r2, hr2⟩ : ∃ r2, r2 = putL rows k cells := ⟨_, rfl⟩
    rw [← hr2] at hE0 ⊢
    clear hr2
    have HE := Aside0.mk hE0
    clear hE0 hTa hwa hT hW hg hgc hcr hin hm
    go_enter Try.func61, Try.ntmps61
    go_wp2_with (first
      | (go_at_call 38; refine (HWA.out _).mono ?_; rintro e w8 ⟨rfl, rfl⟩; clear HWA)
      | (go_at_call 37; refine (need_ok 11 _).mono ?_; rintro e w9 ⟨rfl, rfl⟩)
      | (go_at_call 39; refine HE.out.mono ?_; rintro e w2 ⟨v0, v1, rfl, hM, hb2⟩; obtain ⟨Av, cv, rfl, hcv, hCv⟩ := Kd.R_reads hM.1; obtain ⟨Ar, cr, rfl, hcr, hCr⟩ := Kd.S_reads hM.2; have HM := Aside0.mk hM; have HB2 := Aside0.mk hb2; have HZ := Aside0.mk (z_start W Av Ar hd.length r2.length cv cr w2 hb2); have hy0 := blk_cell HZ.out.1 0; have hy1 := blk_cell HZ.out.1 1; have hu0 := blk_frozen HZ.out.1 0; have hu1 := blk_frozen HZ.out.1 1; clear hM hb2 hCv hCr HE))
    have HF := Aside0.mk (z_end HM.out HB2.out (.slice Av hd.length cv) (.slice Ar r2.length cr))
    have hc0 := blk_cell HZ.out.2 0
    have hc1 := blk_cell HZ.out.2 1
    refine bodyPost_ret (v := .agg #[.slice Av hd.length cv, .slice Ar r2.length cr]) (by simp [results, Try.results61, go_sem, hc0, hc1]) rfl ?_
    exact .inl ⟨HXX.out, _, _, rfl, HF.out⟩
  · have HXX : Aside0 (xIn a m ≠ 0 ∧ xIn a m = 11) := ⟨by unfold xIn; rw [if_neg hin]; simp⟩
    have HWA := Aside0.mk (fun W => within_no a (m : Int) hin W)
    clear hTa hwa hT hW hg hgc hcr hin hm
    go_enter Try.func61, Try.ntmps61
    go_wp2_with (first
      | (go_at_call 38; refine (HWA.out _).mono ?_; rintro e w8 ⟨rfl, rfl⟩; clear HWA)
      | (go_at_call 37; refine (need_no 11 _).mono ?_; rintro e w9 ⟨rfl, rfl⟩))
    exact ⟨rfl, .inr ⟨HXX.out.1, by rw [HXX.out.2], below_alloc (Below.refl _ _) _⟩⟩
set_option maxRecDepth 100000 in
set_option maxHeartbeats 4000000 in
theorem how52 (w : World) (gt ga gc gs : Nat) (A0 : Option Addr) (c0 : Nat) (hd : List ByteArray) (A1 : Option Addr) (c1 : Nat) (rows : List (List ByteArray)) (hT : TB w gt A0 c0 hd A1 c1 rows) (a : Int) (s : ByteArray) (Ac : Option Addr) (cc : Nat) (cells : List ByteArray) (hg : w.heap[ga]? = some (.cells #[.int .i64 a] 3 (0, 0))) (hgc : w.heap[gc]? = some (.cells #[.slice Ac cells.length cc] 22 (0, 0))) (hgs : w.heap[gs]? = some (.cells #[.string s] 9 (0, 0))) (hcr : Kd.C Kd.string w Ac cells.length cells) (hcc : cells.length ≤ cc) (hcl : cells.length ≤ 1000000) : HowT 52 #[.pointer (some ⟨ga, 0, none⟩), .pointer (some ⟨gt, 0, none⟩), .pointer (some ⟨gc, 0, none⟩), .pointer (some ⟨gs, 0, none⟩)] w (xInsCol a hd.length cells.length rows.length) (putL hd a.toNat s) (outI (fun i l => putL l a.toNat (cells.getD i ByteArray.empty)) rows rows.length) := by
  have hmf : ∀ (fn : Fn) (first cap : Array Value) (w : World), (Instr.makeFunc fn first cap).run Try.prog w = .ok (.func fn first cap) w := fun _ _ _ _ => rfl
  intro W hW
  show Calls Try.prog 52 #[.pointer (some ⟨ga, 0, none⟩), .pointer (some ⟨gt, 0, none⟩), .pointer (some ⟨gc, 0, none⟩), .pointer (some ⟨gs, 0, none⟩)] W _
  have hwa := hW.trans ((below_alloc (Below.refl W.heap.size W) (.cells #[.slice none 0 0, .slice none 0 0] 25)).mono hW.size)
  have hTa := hT.below hwa
  have ht0 := blk_cell hTa.t 0
  have ht1 := blk_cell hTa.t 1
  have khg := blk_cell ((hwa.block _ (lt_of_block hg)).trans hg) 0
  have khgc := blk_cell ((hwa.block _ (lt_of_block hgc)).trans hgc) 0
  have khgs := blk_cell ((hwa.block _ (lt_of_block hgs)).trans hgs) 0
  have hlb := hT.hh
  obtain ⟨m, hm⟩ : ∃ m, m = hd.length + 1 := ⟨_, rfl⟩
  have hw1 : wrap64 ((hd.length : Int) + 1) = (m : Int) := by unfold wrap64; omega
  have hw2 : IntKind.i64.wrap ((hd.length : Int) + 1) = (m : Int) := by rw [IntKind.wrap_i64]; omega
  by_cases hin : 0 ≤ a ∧ a < (m : Int)
  · have HWA := Aside0.mk (fun W => within_yes a (m : Int) hin.1 hin.2 W)
    by_cases hlen : cells.length = rows.length
    · obtain ⟨k, rfl⟩ : ∃ k : Nat, a = (k : Int) := ⟨a.toNat, by omega⟩
      have HXX : Aside0 (xInsCol (k : Int) hd.length cells.length rows.length = 0) := ⟨by unfold xInsCol; rw [if_pos (by rw [← hm]; exact hin), if_pos hlen]⟩
      rw [Int.toNat_natCast]
      have hrow : ∀ x ∈ rows, x.length = hd.length := fun x hx => hT.row x (.inr hx)
      have hE0 := columns_calls 54 56 #[.pointer (some ⟨ga, 0, none⟩), .pointer (some ⟨gs, 0, none⟩)] #[.pointer (some ⟨ga, 0, none⟩), .pointer (some ⟨gc, 0, none⟩)] A0 c0 hd A1 c1 rows (putL hd k s) (fun i l => putL l k (cells.getD i ByteArray.empty)) (W.alloc (.cells #[.slice none 0 0, .slice none 0 0] 25)) hTa.r0 hTa.c0 hTa.r1 hTa.hl enters54 enters56 ((how54 w ga gs k hd.length s hg hgs (by omega) (by omega)).weak hwa (fun x hx => by rw [hx]) (fun x hx => by rw [hx])) (fun W' i A c x hW' hx hc hC => how56 w ga gc k hd.length Ac cc cells rows hg hgc hcr (by omega) (by omega) hrow hlen W' i A c x (hwa.trans (hW'.mono hwa.size)) hx hc hC)
      obtain ⟨h2, hh2⟩ : ∃ h2, h2 = putL hd k s := ⟨_, rfl⟩
      obtain ⟨r2, hr2⟩ : ∃ r2, r2 = outI (fun i l => putL l k (cells.getD i ByteArray.empty)) rows rows.length := ⟨_, rfl⟩
      rw [← hh2, ← hr2] at hE0 ⊢
      clear hh2 hr2
      have HE := Aside0.mk hE0
      have hlb2 : ((cells.length : Int) == (rows.length : Int)) = true := by simp [hlen]
      have hlb3 : (cells.length : Int) = (rows.length : Int) := by rw [hlen]
      clear hE0 hTa hwa hT hW hg hgc hgs hcr hin hm hrow hlen
      have M1 := Aside0.mk trivial
      go_enter Try.func52, Try.ntmps52
      go_wp2_with (first
        | (go_at_call 38; refine (HWA.out _).mono ?_; rintro e w8 ⟨rfl, rfl⟩; clear HWA)
        | (clear M1; go_at_call 37; refine (need_ok 11 _).mono ?_; rintro e w9 ⟨rfl, rfl⟩)
        | (go_at_call 37; refine (need_ok 9 _).mono ?_; rintro e w9 ⟨rfl, rfl⟩)
        | (go_at_call 53; refine HE.out.mono ?_; rintro e w2 ⟨v0, v1, rfl, hM, hb2⟩; obtain ⟨Av, cv, rfl, hcv, hCv⟩ := Kd.R_reads hM.1; obtain ⟨Ar, cr, rfl, hcr, hCr⟩ := Kd.S_reads hM.2; have HM := Aside0.mk hM; have HB2 := Aside0.mk hb2; have HZ := Aside0.mk (z_start W Av Ar h2.length r2.length cv cr w2 hb2); have hy0 := blk_cell HZ.out.1 0; have hy1 := blk_cell HZ.out.1 1; have hu0 := blk_frozen HZ.out.1 0; have hu1 := blk_frozen HZ.out.1 1; clear hM hb2 hCv hCr HE))
      have HF := Aside0.mk (z_end HM.out HB2.out (.slice Av h2.length cv) (.slice Ar r2.length cr))
      have hc0 := blk_cell HZ.out.2 0
      have hc1 := blk_cell HZ.out.2 1
      refine bodyPost_ret (v := .agg #[.slice Av h2.length cv, .slice Ar r2.length cr]) (by simp [results, Try.results52, go_sem, hc0, hc1]) rfl ?_
      exact .inl ⟨HXX.out, _, _, rfl, HF.out⟩
    · have HXX : Aside0 (xInsCol a hd.length cells.length rows.length ≠ 0 ∧ xInsCol a hd.length cells.length rows.length = 9) := ⟨by unfold xInsCol; rw [if_pos (by rw [← hm]; exact hin), if_neg hlen]; simp⟩
      have hlb2 : ((cells.length : Int) == (rows.length : Int)) = false := by simp; omega
      clear hTa hwa hT hW hg hgc hgs hcr hin hm hlen
      have M1 := Aside0.mk trivial
      go_enter Try.func52, Try.ntmps52
      go_wp2_with (first
        | (go_at_call 38; refine (HWA.out _).mono ?_; rintro e w8 ⟨rfl, rfl⟩; clear HWA)
        | (clear M1; go_at_call 37; refine (need_ok 11 _).mono ?_; rintro e w9 ⟨rfl, rfl⟩)
        | (go_at_call 37; refine (need_no 9 _).mono ?_; rintro e w9 ⟨rfl, rfl⟩))
      exact ⟨rfl, .inr ⟨HXX.out.1, by rw [HXX.out.2], below_alloc (Below.refl _ _) _⟩⟩
  · have HXX : Aside0 (xInsCol a hd.length cells.length rows.length ≠ 0 ∧ xInsCol a hd.length cells.length rows.length = 11) := ⟨by unfold xInsCol; rw [if_neg (by rw [← hm]; exact hin)]; simp⟩
    have HWA := Aside0.mk (fun W => within_no a (m : Int) hin W)
    clear hTa hwa hT hW hg hgc hgs hcr hin hm
    go_enter Try.func52, Try.ntmps52
    go_wp2_with (first
      | (go_at_call 38; refine (HWA.out _).mono ?_; rintro e w8 ⟨rfl, rfl⟩; clear HWA)
      | (go_at_call 37; refine (need_no 11 _).mono ?_; rintro e w9 ⟨rfl, rfl⟩))
    exact ⟨rfl, .inr ⟨HXX.out.1, by rw [HXX.out.2], below_alloc (Below.refl _ _) _⟩⟩
end Go.Proofs.Ytaolakknkhggnaa.X
end
section
namespace Go.Proofs.Ytaolakknkhggnaa.X
open Go.RowKit Go.Maps Go.Shelf Go.Proofs.YtaolakknkhggnaaW.PrintWords Go.Proofs.YtaolakknkhggnaaW.PrintLast
set_option linter.unusedVariables false
set_option linter.unusedSimpArgs false
theorem head_own {W : World} {base : Nat} {ok : Nat → Prop} {v : Value} {l : List ByteArray} (h : Kd.R Kd.string 9 W base ok v l) {k : Nat} (hk : k < l.length) : ∃ g cap sb, v = .slice (some ⟨g, 0, none⟩) l.length cap ∧ l.length ≤ cap ∧ base ≤ g ∧ g < W.heap.size ∧ W.cell? ⟨g, k, none⟩ = some (.string sb) ∧ W.frozen? ⟨g, k, none⟩ = false := by
  obtain ⟨ho, _⟩ := own_of_R h
  rcases ho.2 with ⟨_, h0⟩ | ⟨g, cap, cur, rfl, hb, hh, hc, hm, hs, ht⟩
  · omega
  · have h1 : (l.map Value.string)[k]? = some (Value.string l[k]) := by rw [List.getElem?_map, List.getElem?_eq_getElem hk]; rfl
    rw [← ht, List.getElem?_take] at h1
    split at h1
    · exact ⟨g, cap, l[k], rfl, hc, hb, lt_of_block hh, (blk_cell hh k).trans (by rw [← Array.getElem?_toList]; exact h1), blk_frozen hh k⟩
    · cases h1
theorem MadeT.rename {base : Nat} {W : World} {g n cap : Nat} {v1 : Value} {hd : List ByteArray} {rows : List (List ByteArray)} (h : MadeT base W (.slice (some ⟨g, 0, none⟩) n cap) v1 hd rows) (k : Nat) (s : ByteArray) : MadeT base (W.setCell ⟨g, k, none⟩ (.string s)) (.slice (some ⟨g, 0, none⟩) n cap) v1 (hd.set k s) rows := by
  obtain ⟨ho, _⟩ := own_of_R h.1
  have hn : n = hd.length := by obtain ⟨A, c, e, _⟩ := Kd.R_reads h.1; cases e; rfl
  subst hn
  have hs := own_set (i := k) ho (.string s)
  rw [show (hd.map Value.string).set k (.string s) = (hd.set k s).map Value.string by rw [List.map_set]] at hs
  exact ⟨R_of_own hs, Kd.S_far (p := ⟨g, k, none⟩) h.2 (fun q hq e => hq (by rw [show q = g from e]; rfl)) _⟩
set_option maxRecDepth 100000 in
set_option maxHeartbeats 4000000 in
theorem how68 (w : World) (gt ga gs : Nat) (A0 : Option Addr) (c0 : Nat) (hd : List ByteArray) (A1 : Option Addr) (c1 : Nat) (rows : List (List ByteArray)) (hT : TB w gt A0 c0 hd A1 c1 rows) (a : Int) (s : ByteArray) (hg : w.heap[ga]? = some (.cells #[.int .i64 a] 3 (0, 0))) (hgs : w.heap[gs]? = some (.cells #[.string s] 9 (0, 0))) :
    HowT 68 #[.pointer (some ⟨ga, 0, none⟩), .pointer (some ⟨gt, 0, none⟩), .pointer (some ⟨gs, 0, none⟩)] w (xIn a hd.length) (hd.set a.toNat s) rows := by
  have hmf : ∀ (fn : Fn) (first cap : Array Value) (w : World), (Instr.makeFunc fn first cap).run Try.prog w = .ok (.func fn first cap) w := fun _ _ _ _ => rfl
  intro W hW
  show Calls Try.prog 68 #[.pointer (some ⟨ga, 0, none⟩), .pointer (some ⟨gt, 0, none⟩), .pointer (some ⟨gs, 0, none⟩)] W _
  have hwa := hW.trans ((below_alloc (Below.refl W.heap.size W) (.cells #[.slice none 0 0, .slice none 0 0] 25)).mono hW.size)
  have hTa := hT.below hwa
  have ht0 := blk_cell hTa.t 0
  have ht1 := blk_cell hTa.t 1
  have hga1 := (hwa.block _ (lt_of_block hg)).trans hg
  have hgs1 := (hwa.block _ (lt_of_block hgs)).trans hgs
  have khg := blk_cell hga1 0
  have HGA := Aside0.mk hga1
  have HGS := Aside0.mk hgs1
  by_cases hin : 0 ≤ a ∧ a < (hd.length : Int)
  · obtain ⟨k, rfl⟩ : ∃ k : Nat, a = (k : Int) := ⟨a.toNat, by omega⟩
    have HXX : Aside0 (xIn (k : Int) hd.length = 0) := ⟨if_pos hin⟩
    have HWA := Aside0.mk (fun W => within_yes (k : Int) (hd.length : Int) hin.1 hin.2 W)
    have hkn : k < hd.length := by omega
    rw [Int.toNat_natCast]
    have hE0 := each_calls 64 #[] A0 c0 hd A1 c1 rows (fun x => x) (W.alloc (.cells #[.slice none 0 0, .slice none 0 0] 25)) hTa.r0 hTa.c0 hTa.r1 hTa.hl clone_enters (clone_how _ _ (fun x hx => by have h1 := hT.row x hx; have h2 := hT.hh; omega))
    simp only [List.map_id'] at hE0
    obtain ⟨h3, hh3⟩ : ∃ h3, h3 = hd.set k s := ⟨_, rfl⟩
    have HH3 := Aside0.mk hh3
    rw [← hh3]
    obtain ⟨n, hn⟩ : ∃ n, n = hd.length := ⟨_, rfl⟩
    have hkI : 0 ≤ (k : Int) ∧ (k : Int) < (n : Int) := by omega
    have HN := Aside0.mk hn
    have HKN := Aside0.mk hkn
    have HE := Aside0.mk hE0
    clear hE0 hTa hwa hT hW hg hgs hin hh3 hn hkn hga1 hgs1
    go_enter Try.func68, Try.ntmps68
    go_wp2_with (first
      | (go_at_call 38; refine (HWA.out _).mono ?_; rintro e w8 ⟨rfl, rfl⟩; clear HWA)
      | (go_at_call 37; refine (need_ok 11 _).mono ?_; rintro e w9 ⟨rfl, rfl⟩)
      | (go_at_call 44; refine HE.out.mono ?_; rintro e w2 ⟨v0, v1, rfl, hM, hb2⟩; obtain ⟨g, cv, sb, rfl, hcv, hbg, hgl, hgc, hgf⟩ := head_own hM.1 HKN.out; obtain ⟨Ar, cr, rfl, hcr, hCr⟩ := Kd.S_reads hM.2; rw [← HN.out]; rw [← HN.out] at hM; have hal := below_alloc (Below.refl w2.heap.size w2) (.cells #[.slice (some ⟨g, 0, none⟩) n cv, .slice Ar rows.length cr] 25); have hb3 := hb2.setCell (p := ⟨g, k, none⟩) hbg (.string s); have hal3 := below_alloc (Below.refl (w2.setCell ⟨g, k, none⟩ (.string s)).heap.size (w2.setCell ⟨g, k, none⟩ (.string s))) (.cells #[.slice (some ⟨g, 0, none⟩) n cv, .slice Ar rows.length cr] 25); have HM := Aside0.mk ((hM.rename k s).below hal3); rw [← HH3.out] at HM; have HB2 := Aside0.mk (hb3.trans (hal3.mono hb3.size)); have HZ := Aside0.mk (z_start W (some ⟨g, 0, none⟩) Ar n rows.length cv cr _ HB2.out); have hy0 := blk_cell HZ.out.1 0; have hy1 := blk_cell HZ.out.1 1; have hu0 := blk_frozen HZ.out.1 0; have hu1 := blk_frozen HZ.out.1 1; have kga : (w2.alloc (.cells #[.slice (some ⟨g, 0, none⟩) n cv, .slice Ar rows.length cr] 25)).cell? ⟨ga, 0, none⟩ = some (.int .i64 k) := pw_cell_below hal (pw_cell_below hb2 ((blk_cell HGA.out 0).trans rfl)); have kgs : (w2.alloc (.cells #[.slice (some ⟨g, 0, none⟩) n cv, .slice Ar rows.length cr] 25)).cell? ⟨gs, 0, none⟩ = some (.string s) := pw_cell_below hal (pw_cell_below hb2 ((blk_cell HGS.out 0).trans rfl)); have kgc : (w2.alloc (.cells #[.slice (some ⟨g, 0, none⟩) n cv, .slice Ar rows.length cr] 25)).cell? ⟨g, k, none⟩ = some (.string sb) := pw_cell_below hal hgc; have hne1 : ¬ g = w2.heap.size := (by omega); have hne2 : ¬ w2.heap.size = g := (by omega); clear hM hb2 hCr hal hgc HE hb3 hal3))
    have HF := Aside0.mk (z_end HM.out HB2.out (.slice (some ⟨g, 0, none⟩) n cv) (.slice Ar rows.length cr))
    have hc0 := blk_cell HZ.out.2 0
    have hc1 := blk_cell HZ.out.2 1
    refine bodyPost_ret (v := .agg #[.slice (some ⟨g, 0, none⟩) n cv, .slice Ar rows.length cr]) (by simp [results, Try.results68, go_sem, hc0, hc1]) rfl ?_
    exact .inl ⟨HXX.out, _, _, rfl, HF.out⟩
  · have HXX : Aside0 (xIn a hd.length ≠ 0 ∧ xIn a hd.length = 11) := ⟨by unfold xIn; rw [if_neg hin]; simp⟩
    have HWA := Aside0.mk (fun W => within_no a (hd.length : Int) hin W)
    clear hTa hwa hT hW hg hgs hin hga1 hgs1
    go_enter Try.func68, Try.ntmps68
    go_wp2_with (first
      | (go_at_call 38; refine (HWA.out _).mono ?_; rintro e w8 ⟨rfl, rfl⟩; clear HWA)
      | (go_at_call 37; refine (need_no 11 _).mono ?_; rintro e w9 ⟨rfl, rfl⟩))
    exact ⟨rfl, .inr ⟨HXX.out.1, by rw [HXX.out.2], below_alloc (Below.refl _ _) _⟩⟩
end Go.Proofs.Ytaolakknkhggnaa.X
end
section
namespace Go.Proofs.Ytaolakknkhggnaa.X
open Go.RowKit Go.Maps Go.Shelf Go.Proofs.YtaolakknkhggnaaW.PrintWords Go.Proofs.YtaolakknkhggnaaW.PrintLast
set_option linter.unusedVariables false
set_option linter.unusedSimpArgs false
def xProj (cols : List Int) (n : Nat) : Int := if ∀ c ∈ cols, 0 ≤ c ∧ c < (n : Int) then 0 else 11
set_option maxRecDepth 100000 in
set_option maxHeartbeats 4000000 in
theorem how43 (w : World) (gt gc : Nat) (A0 : Option Addr) (c0 : Nat) (hd : List ByteArray) (A1 : Option Addr) (c1 : Nat) (rows : List (List ByteArray)) (hT : TB w gt A0 c0 hd A1 c1 rows) (Ac : Option Addr) (cc : Nat) (cols : List Int) (hgc : w.heap[gc]? = some (.cells #[.slice Ac cols.length cc] 26 (0, 0))) (hcr : Kd.C (Kd.int .i64) w Ac cols.length cols) (hcl : cols.length ≤ 1000000) :
    HowT 43 #[.pointer (some ⟨gc, 0, none⟩), .pointer (some ⟨gt, 0, none⟩)] w (xProj cols hd.length) (projL cols hd) (rows.map fun l => projL cols l) := by
  have hmf : ∀ (fn : Fn) (first cap : Array Value) (w : World), (Instr.makeFunc fn first cap).run Try.prog w = .ok (.func fn first cap) w := fun _ _ _ _ => rfl
  intro W hW
  show Calls Try.prog 43 #[.pointer (some ⟨gc, 0, none⟩), .pointer (some ⟨gt, 0, none⟩)] W _
  have hwa := hW.trans ((below_alloc (Below.refl W.heap.size W) (.cells #[.slice none 0 0, .slice none 0 0] 25)).mono hW.size)
  have hTa := hT.below hwa
  have ht0 := blk_cell hTa.t 0
  have ht1 := blk_cell hTa.t 1
  have hgc1 := (hwa.block _ (lt_of_block hgc)).trans hgc
  have khc := blk_cell hgc1 0
  have HCR := Aside0.mk (Kd.C_below hcr hwa)
  have HE : Aside0 ((∀ c ∈ cols, 0 ≤ c ∧ c < (hd.length : Int)) → Calls Try.prog 44 #[.agg #[.slice A0 hd.length c0, .slice A1 rows.length c1], .func (.func 45) #[] #[.pointer (some ⟨gc, 0, none⟩)]] (W.alloc (.cells #[.slice none 0 0, .slice none 0 0] 25)) fun e W' => ∃ v0 v1, e = .returned (.agg #[v0, v1]) ∧ MadeT (W.alloc (.cells #[.slice none 0 0, .slice none 0 0] 25)).heap.size W' v0 v1 (projL cols hd) (rows.map fun l => projL cols l) ∧ Below (W.alloc (.cells #[.slice none 0 0, .slice none 0 0] 25)).heap.size (W.alloc (.cells #[.slice none 0 0, .slice none 0 0] 25)) W') :=
    ⟨fun hin => each_calls 45 #[.pointer (some ⟨gc, 0, none⟩)] A0 c0 hd A1 c1 rows (fun l => projL cols l) _ hTa.r0 hTa.c0 hTa.r1 hTa.hl enters45 ((how45 w gc hd.length Ac cc cols hgc hcr hcl hin (by have := hT.hh; omega)).weak hwa hT.row (fun _ _ => rfl))⟩
  obtain ⟨h2, hh2⟩ : ∃ h2, h2 = projL cols hd := ⟨_, rfl⟩
  obtain ⟨r2, hr2⟩ : ∃ r2, r2 = rows.map fun l => projL cols l := ⟨_, rfl⟩
  rw [← hh2, ← hr2] at HE ⊢
  obtain ⟨X, hX⟩ : ∃ X, X = xProj cols hd.length := ⟨_, rfl⟩
  rw [← hX]
  have HX := Aside0.mk hX
  obtain ⟨n, hn⟩ : ∃ n, n = cols.length := ⟨_, rfl⟩
  have HN := Aside0.mk hn
  rw [← hn] at khc
  have hn1 : n ≤ 1000000 := by omega
  clear hh2 hr2 hX hn hTa hwa hT hW hgc hcr hcl hgc1
  go_enter Try.func43, Try.ntmps43
  go_wp2
  go_loopw [7] (fun vi wr => ∃ i : Nat, vi = .int .i64 i ∧ i ≤ n ∧ Aside0 (∀ j, j < i → 0 ≤ cols.getD j 0 ∧ cols.getD j 0 < (hd.length : Int)) ∧ wr = W.alloc (.cells #[.slice none 0 0, .slice none 0 0] 25))
    (fun vi _ => n - (intOf vi).toNat)
  case atStart => exact ⟨0, rfl, Nat.zero_le _, ⟨fun j hj => by omega⟩, rfl⟩
  case round =>
    obtain ⟨i, rfl, hi, HJ, rfl⟩ := hrel
    by_cases hlt : i < n
    · obtain ⟨q, hq⟩ : ∃ q, cols[i]? = some q := ⟨_, List.getElem?_eq_getElem (by rw [← HN.out]; exact hlt)⟩
      obtain ⟨adc, e, hqc⟩ := intAtA HCR.out hq
      subst e
      have HQ : Aside0 (cols.getD i 0 = q) := ⟨by rw [List.getD_eq_getElem?_getD, hq]; rfl⟩
      have HQM := Aside0.mk (List.mem_of_getElem? hq)
      have hiI : (i : Int) < (n : Int) := by omega
      have hi0 : (0 : Int) ≤ (i : Int) := by omega
      by_cases hin : 0 ≤ q ∧ q < (hd.length : Int)
      · have HWA := Aside0.mk (fun W => within_yes q (hd.length : Int) hin.1 hin.2 W)
        have HIN := Aside0.mk hin
        clear hq hin
        go_wp2_with (first
          | (go_at_call 38; refine (HWA.out _).mono ?_; rintro e w8 ⟨rfl, rfl⟩; clear HWA)
          | (go_at_call 37; refine (need_ok 11 _).mono ?_; rintro e w9 ⟨rfl, rfl⟩))
        go_roundw
        case rel =>
          refine ⟨i + 1, by go_num, by omega, ⟨fun j hj => ?_⟩, by first | rfl | trivial⟩
          rcases Nat.lt_or_ge j i with h | h
          · exact HJ.out j h
          · obtain rfl : j = i := by omega
            rw [HQ.out]
            exact HIN.out
        case measure => simp [intOf]; omega
      · have HWA := Aside0.mk (fun W => within_no q (hd.length : Int) hin W)
        have HXX : Aside0 (X ≠ 0 ∧ X = 11) := ⟨by rw [HX.out, xProj, if_neg (fun h => hin (h q HQM.out))]; simp⟩
        clear hq hin
        go_wp2_with (first
          | (go_at_call 38; refine (HWA.out _).mono ?_; rintro e w8 ⟨rfl, rfl⟩; clear HWA)
          | (go_at_call 37; refine (need_no 11 _).mono ?_; rintro e w9 ⟨rfl, rfl⟩))
        exact ⟨rfl, .inr ⟨HXX.out.1, by rw [HXX.out.2], below_alloc (Below.refl _ _) _⟩⟩
    · obtain rfl : i = n := by omega
      have hall : ∀ c ∈ cols, 0 ≤ c ∧ c < (hd.length : Int) := fun c hc => by
        obtain ⟨j, hj, rfl⟩ := List.getElem_of_mem hc
        have h := HJ.out j (by rw [HN.out]; exact hj)
        rw [List.getD_eq_getElem?_getD, List.getElem?_eq_getElem hj] at h
        exact h
      have HXX : Aside0 (X = 0) := ⟨by rw [HX.out, xProj, if_pos hall]⟩
      have HE2 := Aside0.mk (HE.out hall)
      clear hall HE HJ
      have HE := HE2
      clear HE2
      go_wp2_with (go_at_call 44; refine HE.out.mono ?_; rintro e w2 ⟨v0, v1, rfl, hM, hb2⟩; obtain ⟨Av, cv, rfl, hcv, hCv⟩ := Kd.R_reads hM.1; obtain ⟨Ar, cr, rfl, hcr, hCr⟩ := Kd.S_reads hM.2; have HM := Aside0.mk hM; have HB2 := Aside0.mk hb2; have HZ := Aside0.mk (z_start W Av Ar h2.length r2.length cv cr w2 hb2); have hy0 := blk_cell HZ.out.1 0; have hy1 := blk_cell HZ.out.1 1; have hu0 := blk_frozen HZ.out.1 0; have hu1 := blk_frozen HZ.out.1 1; clear hM hb2 hCv hCr HE)
      have HF := Aside0.mk (z_end HM.out HB2.out (.slice Av h2.length cv) (.slice Ar r2.length cr))
      have hc0 := blk_cell HZ.out.2 0
      have hc1 := blk_cell HZ.out.2 1
      refine bodyPost_ret (v := .agg #[.slice Av h2.length cv, .slice Ar r2.length cr]) (by simp [results, Try.results43, go_sem, hc0, hc1]) rfl ?_
      exact .inl ⟨HXX.out, _, _, rfl, HF.out⟩
end Go.Proofs.Ytaolakknkhggnaa.X
end
section
namespace Go.Proofs.Ytaolakknkhggnaa.X
open Go.RowKit Go.Maps Go.Shelf Go.Proofs.YtaolakknkhggnaaW.PrintWords Go.Proofs.YtaolakknkhggnaaW.PrintLast
set_option linter.unusedVariables false
set_option linter.unusedSimpArgs false
theorem rows_of_check {hd : List ByteArray} {rows : List (List ByteArray)} (h : checkT hd rows = 0) : ∀ x, x = hd ∨ x ∈ rows → x.length = hd.length := by
  have hw : wideR rows hd.length = false := by
    rcases Bool.eq_false_or_eq_true (wideR rows hd.length) with hw | hw
    · exfalso
      unfold checkT at h
      simp only [ckR, hw, if_true] at h
      split at h
      · split at h <;> simp_all
      · simp at h
    · exact hw
  rintro x (rfl | hx)
  · rfl
  · unfold wideR at hw
    rw [List.any_eq_false] at hw
    simpa using hw x hx
def okE (hd : List ByteArray) (rows : List (List ByteArray)) : Bool := okT hd rows && decide (hd.length ≤ 90000) && decide (rows.length ≤ 90000)
theorem okE_parts {hd : List ByteArray} {rows : List (List ByteArray)} (h : okE hd rows = true) : okT hd rows = true ∧ hd.length ≤ 90000 ∧ rows.length ≤ 90000 := by
  simp only [okE, Bool.and_eq_true, decide_eq_true_eq] at h
  exact ⟨h.1.1, h.1.2, h.2⟩
theorem okT_mk {hd : List ByteArray} {rows : List (List ByteArray)} (h1 : hd.length ≤ 100000) (h2 : rows.length ≤ 100000) (h3 : ∀ s ∈ hd, s.size ≤ maxLen) : okT hd rows = true := by
  simp only [okT, Bool.and_eq_true, decide_eq_true_eq, List.all_eq_true]
  exact ⟨⟨h1, h2⟩, h3⟩
theorem okT_size {hd : List ByteArray} {rows : List (List ByteArray)} (h : okT hd rows = true) : ∀ s ∈ hd, s.size ≤ maxLen := by
  simp only [okT, Bool.and_eq_true, decide_eq_true_eq, List.all_eq_true] at h
  exact h.2
theorem mem_dropL {α : Type} {l : List α} {i : Nat} {x : α} (h : x ∈ dropL l i) : x ∈ l := by
  rcases List.mem_append.1 h with h | h
  · exact List.mem_of_mem_take h
  · exact List.mem_of_mem_drop h
theorem mem_putL {α : Type} {l : List α} {i : Nat} {x y : α} (h : x ∈ putL l i y) : x = y ∨ x ∈ l := by
  rcases List.mem_append.1 h with h | h
  · exact .inr (List.mem_of_mem_take h)
  · rcases List.mem_cons.1 h with h | h
    · exact .inl h
    · exact .inr (List.mem_of_mem_drop h)
theorem len_dropL {α : Type} (l : List α) (i : Nat) : (dropL l i).length ≤ l.length := by unfold dropL; simp; omega
theorem len_putL {α : Type} (l : List α) (i : Nat) (x : α) : (putL l i x).length = l.length + 1 := by unfold putL; simp; omega
theorem xIn_zero {a : Int} {n : Nat} (h : xIn a n = 0) : 0 ≤ a ∧ a < (n : Int) := by
  unfold xIn at h
  split at h
  · assumption
  · simp at h
theorem xIn2_zero {a b : Int} {n m : Nat} (h : xIn2 a n b m = 0) : (0 ≤ a ∧ a < (n : Int)) ∧ (0 ≤ b ∧ b < (m : Int)) := by
  unfold xIn2 at h
  split at h
  · assumption
  · simp at h
theorem getD_mem {l : List ByteArray} {k : Nat} (h : k < l.length) : l.getD k ByteArray.empty ∈ l := by rw [List.getD_eq_getElem?_getD, List.getElem?_eq_getElem h]; exact List.getElem_mem h
def edit_DeleteCol.f (l0_0 : List ByteArray) (l0_1 : List (List ByteArray)) (a1 : Int) : Option (List ByteArray × List (List ByteArray) × Int) := if (okE l0_0 l0_1 && true) = true then some (madeT l0_0 l0_1 (xIn a1 l0_0.length) (dropL l0_0 a1.toNat) (l0_1.map fun l => dropL l a1.toNat)) else none
theorem edit_DeleteCol.ok (l0_0 : List ByteArray) (l0_1 : List (List ByteArray)) (a1 : Int) (hok : (okE l0_0 l0_1 && true) = true) (hck : checkT l0_0 l0_1 = 0) (hx : (xIn a1 l0_0.length) = 0) : okT (dropL l0_0 a1.toNat) (l0_1.map fun l => dropL l a1.toNat) = true := by
  rw [Bool.and_eq_true] at hok
  obtain ⟨hT, h1, h2⟩ := okE_parts hok.1
  have hs := okT_size hT
  have h3 := len_dropL l0_0 a1.toNat
  exact okT_mk (by omega) (by rw [List.length_map]; omega) (fun s h => hs s (mem_dropL h))
set_option maxRecDepth 100000 in
set_option maxHeartbeats 4000000 in
theorem edit_DeleteCol.calls (A0 : Option Addr) (c0 : Nat) (l0_0 : List ByteArray) (A1 : Option Addr) (c1 : Nat) (l0_1 : List (List ByteArray)) (a1 : Int) (r1 : List ByteArray) (r2 : List (List ByteArray)) (r3 : Int) (w : World) (hr0 : Kd.C Kd.string w A0 l0_0.length l0_0) (hc0 : l0_0.length ≤ c0) (hr1 : Kd.C (Kd.slice 9 Kd.string) w A1 l0_1.length l0_1) (hc1 : l0_1.length ≤ c1) (h : edit_DeleteCol.f l0_0 l0_1 a1 = some (r1, r2, r3)) :
    Calls Try.prog 23 #[.agg #[.slice A0 l0_0.length c0, .slice A1 l0_1.length c1], .int .i64 a1] w fun e w' => ∃ v0_ v1_ : Value, e = .returned (.tuple #[.agg #[v0_, v1_], .int .i64 r3]) ∧ Kd.R Kd.string 9 w' w.heap.size (fun _ => True) v0_ r1 ∧ Kd.S (Kd.slice 9 Kd.string) 22 w' w.heap.size (fun k_ => some k_ ≠ (v0_ : Value).ownBlock) v1_ r2 ∧ Below w.heap.size w w' := by
  have hmf : ∀ (fn : Fn) (first cap : Array Value) (w : World), (Instr.makeFunc fn first cap).run Try.prog w = .ok (.func fn first cap) w := fun _ _ _ _ => rfl
  unfold edit_DeleteCol.f at h
  split at h
  case isFalse => exact nomatch h
  rename_i hok
  have h1 := Option.some.inj h
  obtain ⟨hT0, hh0, hl0⟩ := okE_parts (Bool.and_eq_true_iff.1 hok).1
  obtain ⟨W0, hW0⟩ : ∃ W0, W0 = (((w.alloc (.cells #[.slice A0 l0_0.length c0, .slice A1 l0_1.length c1] 25)).alloc (.cells #[.int .i64 a1] 3)).alloc (.cells #[.slice none 0 0, .slice none 0 0] 25)) := ⟨_, rfl⟩
  have hb0 : Below w.heap.size w W0 := by rw [hW0]; exact below_alloc (below_alloc (below_alloc (Below.refl _ _) _) _) _
  have hx0 : W0.heap[w.heap.size]? = some (.cells #[.slice A0 l0_0.length c0, .slice A1 l0_1.length c1] 25) := by
    rw [hW0]
    have h := blk_new w (.cells #[.slice A0 l0_0.length c0, .slice A1 l0_1.length c1] 25)
    exact ((below_alloc (below_alloc (Below.refl _ (w.alloc (.cells #[.slice A0 l0_0.length c0, .slice A1 l0_1.length c1] 25))) _) _).block _ (by simp only [World.size_alloc]; omega)).trans h
  have hx1 : W0.heap[w.heap.size + 1]? = some (.cells #[.int .i64 a1] 3) := by
    rw [hW0]
    have h := blk_new (w.alloc (.cells #[.slice A0 l0_0.length c0, .slice A1 l0_1.length c1] 25)) (.cells #[.int .i64 a1] 3)
    rw [World.size_alloc] at h
    exact ((below_alloc (Below.refl _ ((w.alloc (.cells #[.slice A0 l0_0.length c0, .slice A1 l0_1.length c1] 25)).alloc (.cells #[.int .i64 a1] 3))) _).block _ (by simp only [World.size_alloc]; omega)).trans h
  have hx2 : W0.heap[w.heap.size + 1 + 1]? = some (.cells #[.slice none 0 0, .slice none 0 0] 25) := by
    rw [hW0]
    have h := blk_new ((w.alloc (.cells #[.slice A0 l0_0.length c0, .slice A1 l0_1.length c1] 25)).alloc (.cells #[.int .i64 a1] 3)) (.cells #[.slice none 0 0, .slice none 0 0] 25)
    rw [World.size_alloc, World.size_alloc] at h
    exact h
  have hM0 := made_calls 57 #[.pointer (some ⟨w.heap.size + 1, 0, none⟩), .pointer (some ⟨w.heap.size, 0, none⟩)] A0 c0 l0_0 A1 c1 l0_1 (xIn a1 l0_0.length) (dropL l0_0 a1.toNat) (l0_1.map fun l => dropL l a1.toNat) W0 (Kd.C_below hr0 hb0) hc0 (Kd.C_below hr1 hb0) hc1 hT0 (edit_DeleteCol.ok l0_0 l0_1 a1 hok) (fun args W => enters_ Try.func57 (by kernel_rfl) rfl args W) (fun hck => how57 W0 _ _ A0 c0 l0_0 A1 c1 l0_1 ⟨hx0, Kd.C_below hr0 hb0, hc0, Kd.C_below hr1 hb0, by omega, by omega, rows_of_check hck⟩ a1 hx1)
  rw [h1] at hM0
  have HM := Aside0.mk hM0
  have HB0 := Aside0.mk hb0
  have HZ0 := Aside0.mk hx2
  have HW0 := Aside0.mk hW0
  clear hM0 hb0 hW0 h h1 hok hT0 hh0 hl0 hr0 hr1 hx0 hx1 hx2
  go_enter Try.func23, Try.ntmps23
  go_wp2_with (go_at_call 35; rw [← HW0.out]; refine HM.out.mono ?_; rintro e w1 ⟨v0, v1, rfl, hM, hb1⟩; obtain ⟨Av, cv, rfl, hcv, hCv⟩ := Kd.R_reads hM.1; obtain ⟨Ar, cr, rfl, hcr, hCr⟩ := Kd.S_reads hM.2; have HN := Aside0.mk hM; have HB1 := Aside0.mk hb1; have HZ1 := Aside0.mk ((hb1.block _ (lt_of_block HZ0.out)).trans HZ0.out); have hy0 := blk_cell HZ1.out 0; have hy1 := blk_cell HZ1.out 1; have hu0 := blk_frozen HZ1.out 0; have hu1 := blk_frozen HZ1.out 1; clear hM hb1 hCv hCr HM)
  have hf0 : ((w1.setCell ⟨w.heap.size + 1 + 1, 0, none⟩ (.slice Av r1.length cv)).setCell ⟨w.heap.size + 1 + 1, 1, none⟩ (.slice Ar r2.length cr)).heap[w.heap.size + 1 + 1]? = some (.cells #[.slice Av r1.length cv, .slice Ar r2.length cr] 25 (0, 0)) := heap_setCell_same _ _ 1 _ _ _ (heap_setCell_same _ _ 0 _ _ _ HZ1.out)
  have hc0 := blk_cell hf0 0
  have hc1 := blk_cell hf0 1
  refine bodyPost_ret (v := .tuple #[.agg #[.slice Av r1.length cv, .slice Ar r2.length cr], .int .i64 r3]) (by simp [results, Try.results23, go_sem, hc0, hc1]) rfl ?_
  have hlt := lt_of_block HZ0.out
  have hZ := ((HN.out.far (p := ⟨w.heap.size + 1 + 1, 0, none⟩) hlt (.slice Av r1.length cv)).far (p := ⟨w.heap.size + 1 + 1, 1, none⟩) hlt (.slice Ar r2.length cr)).lower HB0.out.size
  exact ⟨_, _, rfl, hZ.1, hZ.2, ((HB0.out.trans (HB1.out.mono HB0.out.size)).setCell (by show w.heap.size ≤ w.heap.size + 1 + 1; omega) _).setCell (by show w.heap.size ≤ w.heap.size + 1 + 1; omega) _⟩
def edit_DeleteRow.f (l0_0 : List ByteArray) (l0_1 : List (List ByteArray)) (a1 : Int) : Option (List ByteArray × List (List ByteArray) × Int) := if (okE l0_0 l0_1 && true) = true then some (madeT l0_0 l0_1 (xIn a1 l0_1.length) l0_0 (dropL l0_1 a1.toNat)) else none
theorem edit_DeleteRow.ok (l0_0 : List ByteArray) (l0_1 : List (List ByteArray)) (a1 : Int) (hok : (okE l0_0 l0_1 && true) = true) (hck : checkT l0_0 l0_1 = 0) (hx : (xIn a1 l0_1.length) = 0) : okT l0_0 (dropL l0_1 a1.toNat) = true := by
  rw [Bool.and_eq_true] at hok
  obtain ⟨hT, h1, h2⟩ := okE_parts hok.1
  have hs := okT_size hT
  have h3 := len_dropL l0_1 a1.toNat
  exact okT_mk (by omega) (by omega) hs
set_option maxRecDepth 100000 in
set_option maxHeartbeats 4000000 in
theorem edit_DeleteRow.calls (A0 : Option Addr) (c0 : Nat) (l0_0 : List ByteArray) (A1 : Option Addr) (c1 : Nat) (l0_1 : List (List ByteArray)) (a1 : Int) (r1 : List ByteArray) (r2 : List (List ByteArray)) (r3 : Int) (w : World) (hr0 : Kd.C Kd.string w A0 l0_0.length l0_0) (hc0 : l0_0.length ≤ c0) (hr1 : Kd.C (Kd.slice 9 Kd.string) w A1 l0_1.length l0_1) (hc1 : l0_1.length ≤ c1) (h : edit_DeleteRow.f l0_0 l0_1 a1 = some (r1, r2, r3)) :
    Calls Try.prog 26 #[.agg #[.slice A0 l0_0.length c0, .slice A1 l0_1.length c1], .int .i64 a1] w fun e w' => ∃ v0_ v1_ : Value, e = .returned (.tuple #[.agg #[v0_, v1_], .int .i64 r3]) ∧ Kd.R Kd.string 9 w' w.heap.size (fun _ => True) v0_ r1 ∧ Kd.S (Kd.slice 9 Kd.string) 22 w' w.heap.size (fun k_ => some k_ ≠ (v0_ : Value).ownBlock) v1_ r2 ∧ Below w.heap.size w w' := by
  have hmf : ∀ (fn : Fn) (first cap : Array Value) (w : World), (Instr.makeFunc fn first cap).run Try.prog w = .ok (.func fn first cap) w := fun _ _ _ _ => rfl
  unfold edit_DeleteRow.f at h
  split at h
  case isFalse => exact nomatch h
  rename_i hok
  have h1 := Option.some.inj h
  obtain ⟨hT0, hh0, hl0⟩ := okE_parts (Bool.and_eq_true_iff.1 hok).1
  obtain ⟨W0, hW0⟩ : ∃ W0, W0 = (((w.alloc (.cells #[.slice A0 l0_0.length c0, .slice A1 l0_1.length c1] 25)).alloc (.cells #[.int .i64 a1] 3)).alloc (.cells #[.slice none 0 0, .slice none 0 0] 25)) := ⟨_, rfl⟩
  have hb0 : Below w.heap.size w W0 := by rw [hW0]; exact below_alloc (below_alloc (below_alloc (Below.refl _ _) _) _) _
  have hx0 : W0.heap[w.heap.size]? = some (.cells #[.slice A0 l0_0.length c0, .slice A1 l0_1.length c1] 25) := by
    rw [hW0]
    have h := blk_new w (.cells #[.slice A0 l0_0.length c0, .slice A1 l0_1.length c1] 25)
    exact ((below_alloc (below_alloc (Below.refl _ (w.alloc (.cells #[.slice A0 l0_0.length c0, .slice A1 l0_1.length c1] 25))) _) _).block _ (by simp only [World.size_alloc]; omega)).trans h
  have hx1 : W0.heap[w.heap.size + 1]? = some (.cells #[.int .i64 a1] 3) := by
    rw [hW0]
    have h := blk_new (w.alloc (.cells #[.slice A0 l0_0.length c0, .slice A1 l0_1.length c1] 25)) (.cells #[.int .i64 a1] 3)
    rw [World.size_alloc] at h
    exact ((below_alloc (Below.refl _ ((w.alloc (.cells #[.slice A0 l0_0.length c0, .slice A1 l0_1.length c1] 25)).alloc (.cells #[.int .i64 a1] 3))) _).block _ (by simp only [World.size_alloc]; omega)).trans h
  have hx2 : W0.heap[w.heap.size + 1 + 1]? = some (.cells #[.slice none 0 0, .slice none 0 0] 25) := by
    rw [hW0]
    have h := blk_new ((w.alloc (.cells #[.slice A0 l0_0.length c0, .slice A1 l0_1.length c1] 25)).alloc (.cells #[.int .i64 a1] 3)) (.cells #[.slice none 0 0, .slice none 0 0] 25)
    rw [World.size_alloc, World.size_alloc] at h
    exact h
  have hM0 := made_calls 65 #[.pointer (some ⟨w.heap.size + 1, 0, none⟩), .pointer (some ⟨w.heap.size, 0, none⟩)] A0 c0 l0_0 A1 c1 l0_1 (xIn a1 l0_1.length) l0_0 (dropL l0_1 a1.toNat) W0 (Kd.C_below hr0 hb0) hc0 (Kd.C_below hr1 hb0) hc1 hT0 (edit_DeleteRow.ok l0_0 l0_1 a1 hok) (fun args W => enters_ Try.func65 (by kernel_rfl) rfl args W) (fun hck => how65 W0 _ _ A0 c0 l0_0 A1 c1 l0_1 ⟨hx0, Kd.C_below hr0 hb0, hc0, Kd.C_below hr1 hb0, by omega, by omega, rows_of_check hck⟩ a1 hx1)
  rw [h1] at hM0
  have HM := Aside0.mk hM0
  have HB0 := Aside0.mk hb0
  have HZ0 := Aside0.mk hx2
  have HW0 := Aside0.mk hW0
  clear hM0 hb0 hW0 h h1 hok hT0 hh0 hl0 hr0 hr1 hx0 hx1 hx2
  go_enter Try.func26, Try.ntmps26
  go_wp2_with (go_at_call 35; rw [← HW0.out]; refine HM.out.mono ?_; rintro e w1 ⟨v0, v1, rfl, hM, hb1⟩; obtain ⟨Av, cv, rfl, hcv, hCv⟩ := Kd.R_reads hM.1; obtain ⟨Ar, cr, rfl, hcr, hCr⟩ := Kd.S_reads hM.2; have HN := Aside0.mk hM; have HB1 := Aside0.mk hb1; have HZ1 := Aside0.mk ((hb1.block _ (lt_of_block HZ0.out)).trans HZ0.out); have hy0 := blk_cell HZ1.out 0; have hy1 := blk_cell HZ1.out 1; have hu0 := blk_frozen HZ1.out 0; have hu1 := blk_frozen HZ1.out 1; clear hM hb1 hCv hCr HM)
  have hf0 : ((w1.setCell ⟨w.heap.size + 1 + 1, 0, none⟩ (.slice Av r1.length cv)).setCell ⟨w.heap.size + 1 + 1, 1, none⟩ (.slice Ar r2.length cr)).heap[w.heap.size + 1 + 1]? = some (.cells #[.slice Av r1.length cv, .slice Ar r2.length cr] 25 (0, 0)) := heap_setCell_same _ _ 1 _ _ _ (heap_setCell_same _ _ 0 _ _ _ HZ1.out)
  have hc0 := blk_cell hf0 0
  have hc1 := blk_cell hf0 1
  refine bodyPost_ret (v := .tuple #[.agg #[.slice Av r1.length cv, .slice Ar r2.length cr], .int .i64 r3]) (by simp [results, Try.results26, go_sem, hc0, hc1]) rfl ?_
  have hlt := lt_of_block HZ0.out
  have hZ := ((HN.out.far (p := ⟨w.heap.size + 1 + 1, 0, none⟩) hlt (.slice Av r1.length cv)).far (p := ⟨w.heap.size + 1 + 1, 1, none⟩) hlt (.slice Ar r2.length cr)).lower HB0.out.size
  exact ⟨_, _, rfl, hZ.1, hZ.2, ((HB0.out.trans (HB1.out.mono HB0.out.size)).setCell (by show w.heap.size ≤ w.heap.size + 1 + 1; omega) _).setCell (by show w.heap.size ≤ w.heap.size + 1 + 1; omega) _⟩
def edit_RenameCol.f (l0_0 : List ByteArray) (l0_1 : List (List ByteArray)) (a1 : Int) (a2 : ByteArray) : Option (List ByteArray × List (List ByteArray) × Int) := if (okE l0_0 l0_1 && decide (a2.size ≤ maxLen)) = true then some (madeT l0_0 l0_1 (xIn a1 l0_0.length) (l0_0.set a1.toNat a2) l0_1) else none
theorem edit_RenameCol.ok (l0_0 : List ByteArray) (l0_1 : List (List ByteArray)) (a1 : Int) (a2 : ByteArray) (hok : (okE l0_0 l0_1 && decide (a2.size ≤ maxLen)) = true) (hck : checkT l0_0 l0_1 = 0) (hx : (xIn a1 l0_0.length) = 0) : okT (l0_0.set a1.toNat a2) l0_1 = true := by
  rw [Bool.and_eq_true] at hok
  obtain ⟨hT, h1, h2⟩ := okE_parts hok.1
  have hs := okT_size hT
  have hz := of_decide_eq_true hok.2
  exact okT_mk (by rw [List.length_set]; omega) (by omega) (fun s h => by
    rcases List.mem_or_eq_of_mem_set h with h | h
    · exact hs s h
    · rw [h]; exact hz)
set_option maxRecDepth 100000 in
set_option maxHeartbeats 4000000 in
theorem edit_RenameCol.calls (A0 : Option Addr) (c0 : Nat) (l0_0 : List ByteArray) (A1 : Option Addr) (c1 : Nat) (l0_1 : List (List ByteArray)) (a1 : Int) (a2 : ByteArray) (r1 : List ByteArray) (r2 : List (List ByteArray)) (r3 : Int) (w : World) (hr0 : Kd.C Kd.string w A0 l0_0.length l0_0) (hc0 : l0_0.length ≤ c0) (hr1 : Kd.C (Kd.slice 9 Kd.string) w A1 l0_1.length l0_1) (hc1 : l0_1.length ≤ c1) (h : edit_RenameCol.f l0_0 l0_1 a1 a2 = some (r1, r2, r3)) :
    Calls Try.prog 27 #[.agg #[.slice A0 l0_0.length c0, .slice A1 l0_1.length c1], .int .i64 a1, .string a2] w fun e w' => ∃ v0_ v1_ : Value, e = .returned (.tuple #[.agg #[v0_, v1_], .int .i64 r3]) ∧ Kd.R Kd.string 9 w' w.heap.size (fun _ => True) v0_ r1 ∧ Kd.S (Kd.slice 9 Kd.string) 22 w' w.heap.size (fun k_ => some k_ ≠ (v0_ : Value).ownBlock) v1_ r2 ∧ Below w.heap.size w w' := by
  have hmf : ∀ (fn : Fn) (first cap : Array Value) (w : World), (Instr.makeFunc fn first cap).run Try.prog w = .ok (.func fn first cap) w := fun _ _ _ _ => rfl
  unfold edit_RenameCol.f at h
  split at h
  case isFalse => exact nomatch h
  rename_i hok
  have h1 := Option.some.inj h
  obtain ⟨hT0, hh0, hl0⟩ := okE_parts (Bool.and_eq_true_iff.1 hok).1
  obtain ⟨W0, hW0⟩ : ∃ W0, W0 = ((((w.alloc (.cells #[.slice A0 l0_0.length c0, .slice A1 l0_1.length c1] 25)).alloc (.cells #[.int .i64 a1] 3)).alloc (.cells #[.string a2] 9)).alloc (.cells #[.slice none 0 0, .slice none 0 0] 25)) := ⟨_, rfl⟩
  have hb0 : Below w.heap.size w W0 := by rw [hW0]; exact below_alloc (below_alloc (below_alloc (below_alloc (Below.refl _ _) _) _) _) _
  have hx0 : W0.heap[w.heap.size]? = some (.cells #[.slice A0 l0_0.length c0, .slice A1 l0_1.length c1] 25) := by
    rw [hW0]
    have h := blk_new w (.cells #[.slice A0 l0_0.length c0, .slice A1 l0_1.length c1] 25)
    exact ((below_alloc (below_alloc (below_alloc (Below.refl _ (w.alloc (.cells #[.slice A0 l0_0.length c0, .slice A1 l0_1.length c1] 25))) _) _) _).block _ (by simp only [World.size_alloc]; omega)).trans h
  have hx1 : W0.heap[w.heap.size + 1]? = some (.cells #[.int .i64 a1] 3) := by
    rw [hW0]
    have h := blk_new (w.alloc (.cells #[.slice A0 l0_0.length c0, .slice A1 l0_1.length c1] 25)) (.cells #[.int .i64 a1] 3)
    rw [World.size_alloc] at h
    exact ((below_alloc (below_alloc (Below.refl _ ((w.alloc (.cells #[.slice A0 l0_0.length c0, .slice A1 l0_1.length c1] 25)).alloc (.cells #[.int .i64 a1] 3))) _) _).block _ (by simp only [World.size_alloc]; omega)).trans h
  have hx2 : W0.heap[w.heap.size + 1 + 1]? = some (.cells #[.string a2] 9) := by
    rw [hW0]
    have h := blk_new ((w.alloc (.cells #[.slice A0 l0_0.length c0, .slice A1 l0_1.length c1] 25)).alloc (.cells #[.int .i64 a1] 3)) (.cells #[.string a2] 9)
    rw [World.size_alloc, World.size_alloc] at h
    exact ((below_alloc (Below.refl _ (((w.alloc (.cells #[.slice A0 l0_0.length c0, .slice A1 l0_1.length c1] 25)).alloc (.cells #[.int .i64 a1] 3)).alloc (.cells #[.string a2] 9))) _).block _ (by simp only [World.size_alloc]; omega)).trans h
  have hx3 : W0.heap[w.heap.size + 1 + 1 + 1]? = some (.cells #[.slice none 0 0, .slice none 0 0] 25) := by
    rw [hW0]
    have h := blk_new (((w.alloc (.cells #[.slice A0 l0_0.length c0, .slice A1 l0_1.length c1] 25)).alloc (.cells #[.int .i64 a1] 3)).alloc (.cells #[.string a2] 9)) (.cells #[.slice none 0 0, .slice none 0 0] 25)
    rw [World.size_alloc, World.size_alloc, World.size_alloc] at h
    exact h
  have hM0 := made_calls 68 #[.pointer (some ⟨w.heap.size + 1, 0, none⟩), .pointer (some ⟨w.heap.size, 0, none⟩), .pointer (some ⟨w.heap.size + 1 + 1, 0, none⟩)] A0 c0 l0_0 A1 c1 l0_1 (xIn a1 l0_0.length) (l0_0.set a1.toNat a2) l0_1 W0 (Kd.C_below hr0 hb0) hc0 (Kd.C_below hr1 hb0) hc1 hT0 (edit_RenameCol.ok l0_0 l0_1 a1 a2 hok) (fun args W => enters_ Try.func68 (by kernel_rfl) rfl args W) (fun hck => how68 W0 _ _ _ A0 c0 l0_0 A1 c1 l0_1 ⟨hx0, Kd.C_below hr0 hb0, hc0, Kd.C_below hr1 hb0, by omega, by omega, rows_of_check hck⟩ a1 a2 hx1 hx2)
  rw [h1] at hM0
  have HM := Aside0.mk hM0
  have HB0 := Aside0.mk hb0
  have HZ0 := Aside0.mk hx3
  have HW0 := Aside0.mk hW0
  clear hM0 hb0 hW0 h h1 hok hT0 hh0 hl0 hr0 hr1 hx0 hx1 hx2 hx3
  go_enter Try.func27, Try.ntmps27
  go_wp2_with (go_at_call 35; rw [← HW0.out]; refine HM.out.mono ?_; rintro e w1 ⟨v0, v1, rfl, hM, hb1⟩; obtain ⟨Av, cv, rfl, hcv, hCv⟩ := Kd.R_reads hM.1; obtain ⟨Ar, cr, rfl, hcr, hCr⟩ := Kd.S_reads hM.2; have HN := Aside0.mk hM; have HB1 := Aside0.mk hb1; have HZ1 := Aside0.mk ((hb1.block _ (lt_of_block HZ0.out)).trans HZ0.out); have hy0 := blk_cell HZ1.out 0; have hy1 := blk_cell HZ1.out 1; have hu0 := blk_frozen HZ1.out 0; have hu1 := blk_frozen HZ1.out 1; clear hM hb1 hCv hCr HM)
  have hf0 : ((w1.setCell ⟨w.heap.size + 1 + 1 + 1, 0, none⟩ (.slice Av r1.length cv)).setCell ⟨w.heap.size + 1 + 1 + 1, 1, none⟩ (.slice Ar r2.length cr)).heap[w.heap.size + 1 + 1 + 1]? = some (.cells #[.slice Av r1.length cv, .slice Ar r2.length cr] 25 (0, 0)) := heap_setCell_same _ _ 1 _ _ _ (heap_setCell_same _ _ 0 _ _ _ HZ1.out)
  have hc0 := blk_cell hf0 0
  have hc1 := blk_cell hf0 1
  refine bodyPost_ret (v := .tuple #[.agg #[.slice Av r1.length cv, .slice Ar r2.length cr], .int .i64 r3]) (by simp [results, Try.results27, go_sem, hc0, hc1]) rfl ?_
  have hlt := lt_of_block HZ0.out
  have hZ := ((HN.out.far (p := ⟨w.heap.size + 1 + 1 + 1, 0, none⟩) hlt (.slice Av r1.length cv)).far (p := ⟨w.heap.size + 1 + 1 + 1, 1, none⟩) hlt (.slice Ar r2.length cr)).lower HB0.out.size
  exact ⟨_, _, rfl, hZ.1, hZ.2, ((HB0.out.trans (HB1.out.mono HB0.out.size)).setCell (by show w.heap.size ≤ w.heap.size + 1 + 1 + 1; omega) _).setCell (by show w.heap.size ≤ w.heap.size + 1 + 1 + 1; omega) _⟩
def edit_MoveCol.f (l0_0 : List ByteArray) (l0_1 : List (List ByteArray)) (a1 : Int) (a2 : Int) : Option (List ByteArray × List (List ByteArray) × Int) := if (okE l0_0 l0_1 && true) = true then some (madeT l0_0 l0_1 (xIn2 a1 l0_0.length a2 l0_0.length) (putL (dropL l0_0 a1.toNat) a2.toNat (l0_0.getD a1.toNat ByteArray.empty)) (l0_1.map fun l => putL (dropL l a1.toNat) a2.toNat (l.getD a1.toNat ByteArray.empty))) else none
theorem edit_MoveCol.ok (l0_0 : List ByteArray) (l0_1 : List (List ByteArray)) (a1 : Int) (a2 : Int) (hok : (okE l0_0 l0_1 && true) = true) (hck : checkT l0_0 l0_1 = 0) (hx : (xIn2 a1 l0_0.length a2 l0_0.length) = 0) : okT (putL (dropL l0_0 a1.toNat) a2.toNat (l0_0.getD a1.toNat ByteArray.empty)) (l0_1.map fun l => putL (dropL l a1.toNat) a2.toNat (l.getD a1.toNat ByteArray.empty)) = true := by
  rw [Bool.and_eq_true] at hok
  obtain ⟨hT, h1, h2⟩ := okE_parts hok.1
  have hs := okT_size hT
  have hx2 := xIn2_zero hx
  have h3 := len_dropL l0_0 a1.toNat
  refine okT_mk (by rw [len_putL]; omega) (by rw [List.length_map]; omega) (fun s h => ?_)
  rcases mem_putL h with h | h
  · rw [h]; exact hs _ (getD_mem (by omega))
  · exact hs s (mem_dropL h)
set_option maxRecDepth 100000 in
set_option maxHeartbeats 4000000 in
theorem edit_MoveCol.calls (A0 : Option Addr) (c0 : Nat) (l0_0 : List ByteArray) (A1 : Option Addr) (c1 : Nat) (l0_1 : List (List ByteArray)) (a1 : Int) (a2 : Int) (r1 : List ByteArray) (r2 : List (List ByteArray)) (r3 : Int) (w : World) (hr0 : Kd.C Kd.string w A0 l0_0.length l0_0) (hc0 : l0_0.length ≤ c0) (hr1 : Kd.C (Kd.slice 9 Kd.string) w A1 l0_1.length l0_1) (hc1 : l0_1.length ≤ c1) (h : edit_MoveCol.f l0_0 l0_1 a1 a2 = some (r1, r2, r3)) :
    Calls Try.prog 20 #[.agg #[.slice A0 l0_0.length c0, .slice A1 l0_1.length c1], .int .i64 a1, .int .i64 a2] w fun e w' => ∃ v0_ v1_ : Value, e = .returned (.tuple #[.agg #[v0_, v1_], .int .i64 r3]) ∧ Kd.R Kd.string 9 w' w.heap.size (fun _ => True) v0_ r1 ∧ Kd.S (Kd.slice 9 Kd.string) 22 w' w.heap.size (fun k_ => some k_ ≠ (v0_ : Value).ownBlock) v1_ r2 ∧ Below w.heap.size w w' := by
  have hmf : ∀ (fn : Fn) (first cap : Array Value) (w : World), (Instr.makeFunc fn first cap).run Try.prog w = .ok (.func fn first cap) w := fun _ _ _ _ => rfl
  unfold edit_MoveCol.f at h
  split at h
  case isFalse => exact nomatch h
  rename_i hok
  have h1 := Option.some.inj h
  obtain ⟨hT0, hh0, hl0⟩ := okE_parts (Bool.and_eq_true_iff.1 hok).1
  obtain ⟨W0, hW0⟩ : ∃ W0, W0 = ((((w.alloc (.cells #[.slice A0 l0_0.length c0, .slice A1 l0_1.length c1] 25)).alloc (.cells #[.int .i64 a1] 3)).alloc (.cells #[.int .i64 a2] 3)).alloc (.cells #[.slice none 0 0, .slice none 0 0] 25)) := ⟨_, rfl⟩
  have hb0 : Below w.heap.size w W0 := by rw [hW0]; exact below_alloc (below_alloc (below_alloc (below_alloc (Below.refl _ _) _) _) _) _
  have hx0 : W0.heap[w.heap.size]? = some (.cells #[.slice A0 l0_0.length c0, .slice A1 l0_1.length c1] 25) := by
    rw [hW0]
    have h := blk_new w (.cells #[.slice A0 l0_0.length c0, .slice A1 l0_1.length c1] 25)
    exact ((below_alloc (below_alloc (below_alloc (Below.refl _ (w.alloc (.cells #[.slice A0 l0_0.length c0, .slice A1 l0_1.length c1] 25))) _) _) _).block _ (by simp only [World.size_alloc]; omega)).trans h
  have hx1 : W0.heap[w.heap.size + 1]? = some (.cells #[.int .i64 a1] 3) := by
    rw [hW0]
    have h := blk_new (w.alloc (.cells #[.slice A0 l0_0.length c0, .slice A1 l0_1.length c1] 25)) (.cells #[.int .i64 a1] 3)
    rw [World.size_alloc] at h
    exact ((below_alloc (below_alloc (Below.refl _ ((w.alloc (.cells #[.slice A0 l0_0.length c0, .slice A1 l0_1.length c1] 25)).alloc (.cells #[.int .i64 a1] 3))) _) _).block _ (by simp only [World.size_alloc]; omega)).trans h
  have hx2 : W0.heap[w.heap.size + 1 + 1]? = some (.cells #[.int .i64 a2] 3) := by
    rw [hW0]
    have h := blk_new ((w.alloc (.cells #[.slice A0 l0_0.length c0, .slice A1 l0_1.length c1] 25)).alloc (.cells #[.int .i64 a1] 3)) (.cells #[.int .i64 a2] 3)
    rw [World.size_alloc, World.size_alloc] at h
    exact ((below_alloc (Below.refl _ (((w.alloc (.cells #[.slice A0 l0_0.length c0, .slice A1 l0_1.length c1] 25)).alloc (.cells #[.int .i64 a1] 3)).alloc (.cells #[.int .i64 a2] 3))) _).block _ (by simp only [World.size_alloc]; omega)).trans h
  have hx3 : W0.heap[w.heap.size + 1 + 1 + 1]? = some (.cells #[.slice none 0 0, .slice none 0 0] 25) := by
    rw [hW0]
    have h := blk_new (((w.alloc (.cells #[.slice A0 l0_0.length c0, .slice A1 l0_1.length c1] 25)).alloc (.cells #[.int .i64 a1] 3)).alloc (.cells #[.int .i64 a2] 3)) (.cells #[.slice none 0 0, .slice none 0 0] 25)
    rw [World.size_alloc, World.size_alloc, World.size_alloc] at h
    exact h
  have hM0 := made_calls 46 #[.pointer (some ⟨w.heap.size + 1, 0, none⟩), .pointer (some ⟨w.heap.size, 0, none⟩), .pointer (some ⟨w.heap.size + 1 + 1, 0, none⟩)] A0 c0 l0_0 A1 c1 l0_1 (xIn2 a1 l0_0.length a2 l0_0.length) (putL (dropL l0_0 a1.toNat) a2.toNat (l0_0.getD a1.toNat ByteArray.empty)) (l0_1.map fun l => putL (dropL l a1.toNat) a2.toNat (l.getD a1.toNat ByteArray.empty)) W0 (Kd.C_below hr0 hb0) hc0 (Kd.C_below hr1 hb0) hc1 hT0 (edit_MoveCol.ok l0_0 l0_1 a1 a2 hok) (fun args W => enters_ Try.func46 (by kernel_rfl) rfl args W) (fun hck => how46 W0 _ _ _ A0 c0 l0_0 A1 c1 l0_1 ⟨hx0, Kd.C_below hr0 hb0, hc0, Kd.C_below hr1 hb0, by omega, by omega, rows_of_check hck⟩ a1 a2 hx1 hx2)
  rw [h1] at hM0
  have HM := Aside0.mk hM0
  have HB0 := Aside0.mk hb0
  have HZ0 := Aside0.mk hx3
  have HW0 := Aside0.mk hW0
  clear hM0 hb0 hW0 h h1 hok hT0 hh0 hl0 hr0 hr1 hx0 hx1 hx2 hx3
  go_enter Try.func20, Try.ntmps20
  go_wp2_with (go_at_call 35; rw [← HW0.out]; refine HM.out.mono ?_; rintro e w1 ⟨v0, v1, rfl, hM, hb1⟩; obtain ⟨Av, cv, rfl, hcv, hCv⟩ := Kd.R_reads hM.1; obtain ⟨Ar, cr, rfl, hcr, hCr⟩ := Kd.S_reads hM.2; have HN := Aside0.mk hM; have HB1 := Aside0.mk hb1; have HZ1 := Aside0.mk ((hb1.block _ (lt_of_block HZ0.out)).trans HZ0.out); have hy0 := blk_cell HZ1.out 0; have hy1 := blk_cell HZ1.out 1; have hu0 := blk_frozen HZ1.out 0; have hu1 := blk_frozen HZ1.out 1; clear hM hb1 hCv hCr HM)
  have hf0 : ((w1.setCell ⟨w.heap.size + 1 + 1 + 1, 0, none⟩ (.slice Av r1.length cv)).setCell ⟨w.heap.size + 1 + 1 + 1, 1, none⟩ (.slice Ar r2.length cr)).heap[w.heap.size + 1 + 1 + 1]? = some (.cells #[.slice Av r1.length cv, .slice Ar r2.length cr] 25 (0, 0)) := heap_setCell_same _ _ 1 _ _ _ (heap_setCell_same _ _ 0 _ _ _ HZ1.out)
  have hc0 := blk_cell hf0 0
  have hc1 := blk_cell hf0 1
  refine bodyPost_ret (v := .tuple #[.agg #[.slice Av r1.length cv, .slice Ar r2.length cr], .int .i64 r3]) (by simp [results, Try.results20, go_sem, hc0, hc1]) rfl ?_
  have hlt := lt_of_block HZ0.out
  have hZ := ((HN.out.far (p := ⟨w.heap.size + 1 + 1 + 1, 0, none⟩) hlt (.slice Av r1.length cv)).far (p := ⟨w.heap.size + 1 + 1 + 1, 1, none⟩) hlt (.slice Ar r2.length cr)).lower HB0.out.size
  exact ⟨_, _, rfl, hZ.1, hZ.2, ((HB0.out.trans (HB1.out.mono HB0.out.size)).setCell (by show w.heap.size ≤ w.heap.size + 1 + 1 + 1; omega) _).setCell (by show w.heap.size ≤ w.heap.size + 1 + 1 + 1; omega) _⟩
def edit_MoveRow.f (l0_0 : List ByteArray) (l0_1 : List (List ByteArray)) (a1 : Int) (a2 : Int) : Option (List ByteArray × List (List ByteArray) × Int) := if (okE l0_0 l0_1 && true) = true then some (madeT l0_0 l0_1 (xIn2 a1 l0_1.length a2 l0_1.length) l0_0 (putL (dropL l0_1 a1.toNat) a2.toNat (l0_1.getD a1.toNat []))) else none
theorem edit_MoveRow.ok (l0_0 : List ByteArray) (l0_1 : List (List ByteArray)) (a1 : Int) (a2 : Int) (hok : (okE l0_0 l0_1 && true) = true) (hck : checkT l0_0 l0_1 = 0) (hx : (xIn2 a1 l0_1.length a2 l0_1.length) = 0) : okT l0_0 (putL (dropL l0_1 a1.toNat) a2.toNat (l0_1.getD a1.toNat [])) = true := by
  rw [Bool.and_eq_true] at hok
  obtain ⟨hT, h1, h2⟩ := okE_parts hok.1
  have hs := okT_size hT
  have h3 := len_dropL l0_1 a1.toNat
  exact okT_mk (by omega) (by rw [len_putL]; omega) hs
set_option maxRecDepth 100000 in
set_option maxHeartbeats 4000000 in
theorem edit_MoveRow.calls (A0 : Option Addr) (c0 : Nat) (l0_0 : List ByteArray) (A1 : Option Addr) (c1 : Nat) (l0_1 : List (List ByteArray)) (a1 : Int) (a2 : Int) (r1 : List ByteArray) (r2 : List (List ByteArray)) (r3 : Int) (w : World) (hr0 : Kd.C Kd.string w A0 l0_0.length l0_0) (hc0 : l0_0.length ≤ c0) (hr1 : Kd.C (Kd.slice 9 Kd.string) w A1 l0_1.length l0_1) (hc1 : l0_1.length ≤ c1) (h : edit_MoveRow.f l0_0 l0_1 a1 a2 = some (r1, r2, r3)) :
    Calls Try.prog 21 #[.agg #[.slice A0 l0_0.length c0, .slice A1 l0_1.length c1], .int .i64 a1, .int .i64 a2] w fun e w' => ∃ v0_ v1_ : Value, e = .returned (.tuple #[.agg #[v0_, v1_], .int .i64 r3]) ∧ Kd.R Kd.string 9 w' w.heap.size (fun _ => True) v0_ r1 ∧ Kd.S (Kd.slice 9 Kd.string) 22 w' w.heap.size (fun k_ => some k_ ≠ (v0_ : Value).ownBlock) v1_ r2 ∧ Below w.heap.size w w' := by
  have hmf : ∀ (fn : Fn) (first cap : Array Value) (w : World), (Instr.makeFunc fn first cap).run Try.prog w = .ok (.func fn first cap) w := fun _ _ _ _ => rfl
  unfold edit_MoveRow.f at h
  split at h
  case isFalse => exact nomatch h
  rename_i hok
  have h1 := Option.some.inj h
  obtain ⟨hT0, hh0, hl0⟩ := okE_parts (Bool.and_eq_true_iff.1 hok).1
  obtain ⟨W0, hW0⟩ : ∃ W0, W0 = ((((w.alloc (.cells #[.slice A0 l0_0.length c0, .slice A1 l0_1.length c1] 25)).alloc (.cells #[.int .i64 a1] 3)).alloc (.cells #[.int .i64 a2] 3)).alloc (.cells #[.slice none 0 0, .slice none 0 0] 25)) := ⟨_, rfl⟩
  have hb0 : Below w.heap.size w W0 := by rw [hW0]; exact below_alloc (below_alloc (below_alloc (below_alloc (Below.refl _ _) _) _) _) _
  have hx0 : W0.heap[w.heap.size]? = some (.cells #[.slice A0 l0_0.length c0, .slice A1 l0_1.length c1] 25) := by
    rw [hW0]
    have h := blk_new w (.cells #[.slice A0 l0_0.length c0, .slice A1 l0_1.length c1] 25)
    exact ((below_alloc (below_alloc (below_alloc (Below.refl _ (w.alloc (.cells #[.slice A0 l0_0.length c0, .slice A1 l0_1.length c1] 25))) _) _) _).block _ (by simp only [World.size_alloc]; omega)).trans h
  have hx1 : W0.heap[w.heap.size + 1]? = some (.cells #[.int .i64 a1] 3) := by
    rw [hW0]
    have h := blk_new (w.alloc (.cells #[.slice A0 l0_0.length c0, .slice A1 l0_1.length c1] 25)) (.cells #[.int .i64 a1] 3)
    rw [World.size_alloc] at h
    exact ((below_alloc (below_alloc (Below.refl _ ((w.alloc (.cells #[.slice A0 l0_0.length c0, .slice A1 l0_1.length c1] 25)).alloc (.cells #[.int .i64 a1] 3))) _) _).block _ (by simp only [World.size_alloc]; omega)).trans h
  have hx2 : W0.heap[w.heap.size + 1 + 1]? = some (.cells #[.int .i64 a2] 3) := by
    rw [hW0]
    have h := blk_new ((w.alloc (.cells #[.slice A0 l0_0.length c0, .slice A1 l0_1.length c1] 25)).alloc (.cells #[.int .i64 a1] 3)) (.cells #[.int .i64 a2] 3)
    rw [World.size_alloc, World.size_alloc] at h
    exact ((below_alloc (Below.refl _ (((w.alloc (.cells #[.slice A0 l0_0.length c0, .slice A1 l0_1.length c1] 25)).alloc (.cells #[.int .i64 a1] 3)).alloc (.cells #[.int .i64 a2] 3))) _).block _ (by simp only [World.size_alloc]; omega)).trans h
  have hx3 : W0.heap[w.heap.size + 1 + 1 + 1]? = some (.cells #[.slice none 0 0, .slice none 0 0] 25) := by
    rw [hW0]
    have h := blk_new (((w.alloc (.cells #[.slice A0 l0_0.length c0, .slice A1 l0_1.length c1] 25)).alloc (.cells #[.int .i64 a1] 3)).alloc (.cells #[.int .i64 a2] 3)) (.cells #[.slice none 0 0, .slice none 0 0] 25)
    rw [World.size_alloc, World.size_alloc, World.size_alloc] at h
    exact h
  have hM0 := made_calls 49 #[.pointer (some ⟨w.heap.size + 1, 0, none⟩), .pointer (some ⟨w.heap.size, 0, none⟩), .pointer (some ⟨w.heap.size + 1 + 1, 0, none⟩)] A0 c0 l0_0 A1 c1 l0_1 (xIn2 a1 l0_1.length a2 l0_1.length) l0_0 (putL (dropL l0_1 a1.toNat) a2.toNat (l0_1.getD a1.toNat [])) W0 (Kd.C_below hr0 hb0) hc0 (Kd.C_below hr1 hb0) hc1 hT0 (edit_MoveRow.ok l0_0 l0_1 a1 a2 hok) (fun args W => enters_ Try.func49 (by kernel_rfl) rfl args W) (fun hck => how49 W0 _ _ _ A0 c0 l0_0 A1 c1 l0_1 ⟨hx0, Kd.C_below hr0 hb0, hc0, Kd.C_below hr1 hb0, by omega, by omega, rows_of_check hck⟩ a1 a2 hx1 hx2)
  rw [h1] at hM0
  have HM := Aside0.mk hM0
  have HB0 := Aside0.mk hb0
  have HZ0 := Aside0.mk hx3
  have HW0 := Aside0.mk hW0
  clear hM0 hb0 hW0 h h1 hok hT0 hh0 hl0 hr0 hr1 hx0 hx1 hx2 hx3
  go_enter Try.func21, Try.ntmps21
  go_wp2_with (go_at_call 35; rw [← HW0.out]; refine HM.out.mono ?_; rintro e w1 ⟨v0, v1, rfl, hM, hb1⟩; obtain ⟨Av, cv, rfl, hcv, hCv⟩ := Kd.R_reads hM.1; obtain ⟨Ar, cr, rfl, hcr, hCr⟩ := Kd.S_reads hM.2; have HN := Aside0.mk hM; have HB1 := Aside0.mk hb1; have HZ1 := Aside0.mk ((hb1.block _ (lt_of_block HZ0.out)).trans HZ0.out); have hy0 := blk_cell HZ1.out 0; have hy1 := blk_cell HZ1.out 1; have hu0 := blk_frozen HZ1.out 0; have hu1 := blk_frozen HZ1.out 1; clear hM hb1 hCv hCr HM)
  have hf0 : ((w1.setCell ⟨w.heap.size + 1 + 1 + 1, 0, none⟩ (.slice Av r1.length cv)).setCell ⟨w.heap.size + 1 + 1 + 1, 1, none⟩ (.slice Ar r2.length cr)).heap[w.heap.size + 1 + 1 + 1]? = some (.cells #[.slice Av r1.length cv, .slice Ar r2.length cr] 25 (0, 0)) := heap_setCell_same _ _ 1 _ _ _ (heap_setCell_same _ _ 0 _ _ _ HZ1.out)
  have hc0 := blk_cell hf0 0
  have hc1 := blk_cell hf0 1
  refine bodyPost_ret (v := .tuple #[.agg #[.slice Av r1.length cv, .slice Ar r2.length cr], .int .i64 r3]) (by simp [results, Try.results21, go_sem, hc0, hc1]) rfl ?_
  have hlt := lt_of_block HZ0.out
  have hZ := ((HN.out.far (p := ⟨w.heap.size + 1 + 1 + 1, 0, none⟩) hlt (.slice Av r1.length cv)).far (p := ⟨w.heap.size + 1 + 1 + 1, 1, none⟩) hlt (.slice Ar r2.length cr)).lower HB0.out.size
  exact ⟨_, _, rfl, hZ.1, hZ.2, ((HB0.out.trans (HB1.out.mono HB0.out.size)).setCell (by show w.heap.size ≤ w.heap.size + 1 + 1 + 1; omega) _).setCell (by show w.heap.size ≤ w.heap.size + 1 + 1 + 1; omega) _⟩
def edit_Set.f (l0_0 : List ByteArray) (l0_1 : List (List ByteArray)) (a1 : Int) (a2 : Int) (a3 : ByteArray) : Option (List ByteArray × List (List ByteArray) × Int) := if (okE l0_0 l0_1 && true) = true then some (madeT l0_0 l0_1 (xIn2 a1 l0_1.length a2 l0_0.length) l0_0 (l0_1.set a1.toNat ((l0_1.getD a1.toNat []).set a2.toNat a3))) else none
theorem edit_Set.ok (l0_0 : List ByteArray) (l0_1 : List (List ByteArray)) (a1 : Int) (a2 : Int) (a3 : ByteArray) (hok : (okE l0_0 l0_1 && true) = true) (hck : checkT l0_0 l0_1 = 0) (hx : (xIn2 a1 l0_1.length a2 l0_0.length) = 0) : okT l0_0 (l0_1.set a1.toNat ((l0_1.getD a1.toNat []).set a2.toNat a3)) = true := by
  rw [Bool.and_eq_true] at hok
  obtain ⟨hT, h1, h2⟩ := okE_parts hok.1
  have hs := okT_size hT
  exact okT_mk (by omega) (by rw [List.length_set]; omega) hs
set_option maxRecDepth 100000 in
set_option maxHeartbeats 4000000 in
theorem edit_Set.calls (A0 : Option Addr) (c0 : Nat) (l0_0 : List ByteArray) (A1 : Option Addr) (c1 : Nat) (l0_1 : List (List ByteArray)) (a1 : Int) (a2 : Int) (a3 : ByteArray) (r1 : List ByteArray) (r2 : List (List ByteArray)) (r3 : Int) (w : World) (hr0 : Kd.C Kd.string w A0 l0_0.length l0_0) (hc0 : l0_0.length ≤ c0) (hr1 : Kd.C (Kd.slice 9 Kd.string) w A1 l0_1.length l0_1) (hc1 : l0_1.length ≤ c1) (h : edit_Set.f l0_0 l0_1 a1 a2 a3 = some (r1, r2, r3)) :
    Calls Try.prog 16 #[.agg #[.slice A0 l0_0.length c0, .slice A1 l0_1.length c1], .int .i64 a1, .int .i64 a2, .string a3] w fun e w' => ∃ v0_ v1_ : Value, e = .returned (.tuple #[.agg #[v0_, v1_], .int .i64 r3]) ∧ Kd.R Kd.string 9 w' w.heap.size (fun _ => True) v0_ r1 ∧ Kd.S (Kd.slice 9 Kd.string) 22 w' w.heap.size (fun k_ => some k_ ≠ (v0_ : Value).ownBlock) v1_ r2 ∧ Below w.heap.size w w' := by
  have hmf : ∀ (fn : Fn) (first cap : Array Value) (w : World), (Instr.makeFunc fn first cap).run Try.prog w = .ok (.func fn first cap) w := fun _ _ _ _ => rfl
  unfold edit_Set.f at h
  split at h
  case isFalse => exact nomatch h
  rename_i hok
  have h1 := Option.some.inj h
  obtain ⟨hT0, hh0, hl0⟩ := okE_parts (Bool.and_eq_true_iff.1 hok).1
  obtain ⟨W0, hW0⟩ : ∃ W0, W0 = (((((w.alloc (.cells #[.slice A0 l0_0.length c0, .slice A1 l0_1.length c1] 25)).alloc (.cells #[.int .i64 a1] 3)).alloc (.cells #[.int .i64 a2] 3)).alloc (.cells #[.string a3] 9)).alloc (.cells #[.slice none 0 0, .slice none 0 0] 25)) := ⟨_, rfl⟩
  have hb0 : Below w.heap.size w W0 := by rw [hW0]; exact below_alloc (below_alloc (below_alloc (below_alloc (below_alloc (Below.refl _ _) _) _) _) _) _
  have hx0 : W0.heap[w.heap.size]? = some (.cells #[.slice A0 l0_0.length c0, .slice A1 l0_1.length c1] 25) := by
    rw [hW0]
    have h := blk_new w (.cells #[.slice A0 l0_0.length c0, .slice A1 l0_1.length c1] 25)
    exact ((below_alloc (below_alloc (below_alloc (below_alloc (Below.refl _ (w.alloc (.cells #[.slice A0 l0_0.length c0, .slice A1 l0_1.length c1] 25))) _) _) _) _).block _ (by simp only [World.size_alloc]; omega)).trans h
  have hx1 : W0.heap[w.heap.size + 1]? = some (.cells #[.int .i64 a1] 3) := by
    rw [hW0]
    have h := blk_new (w.alloc (.cells #[.slice A0 l0_0.length c0, .slice A1 l0_1.length c1] 25)) (.cells #[.int .i64 a1] 3)
    rw [World.size_alloc] at h
    exact ((below_alloc (below_alloc (below_alloc (Below.refl _ ((w.alloc (.cells #[.slice A0 l0_0.length c0, .slice A1 l0_1.length c1] 25)).alloc (.cells #[.int .i64 a1] 3))) _) _) _).block _ (by simp only [World.size_alloc]; omega)).trans h
  have hx2 : W0.heap[w.heap.size + 1 + 1]? = some (.cells #[.int .i64 a2] 3) := by
    rw [hW0]
    have h := blk_new ((w.alloc (.cells #[.slice A0 l0_0.length c0, .slice A1 l0_1.length c1] 25)).alloc (.cells #[.int .i64 a1] 3)) (.cells #[.int .i64 a2] 3)
    rw [World.size_alloc, World.size_alloc] at h
    exact ((below_alloc (below_alloc (Below.refl _ (((w.alloc (.cells #[.slice A0 l0_0.length c0, .slice A1 l0_1.length c1] 25)).alloc (.cells #[.int .i64 a1] 3)).alloc (.cells #[.int .i64 a2] 3))) _) _).block _ (by simp only [World.size_alloc]; omega)).trans h
  have hx3 : W0.heap[w.heap.size + 1 + 1 + 1]? = some (.cells #[.string a3] 9) := by
    rw [hW0]
    have h := blk_new (((w.alloc (.cells #[.slice A0 l0_0.length c0, .slice A1 l0_1.length c1] 25)).alloc (.cells #[.int .i64 a1] 3)).alloc (.cells #[.int .i64 a2] 3)) (.cells #[.string a3] 9)
    rw [World.size_alloc, World.size_alloc, World.size_alloc] at h
    exact ((below_alloc (Below.refl _ ((((w.alloc (.cells #[.slice A0 l0_0.length c0, .slice A1 l0_1.length c1] 25)).alloc (.cells #[.int .i64 a1] 3)).alloc (.cells #[.int .i64 a2] 3)).alloc (.cells #[.string a3] 9))) _).block _ (by simp only [World.size_alloc]; omega)).trans h
  have hx4 : W0.heap[w.heap.size + 1 + 1 + 1 + 1]? = some (.cells #[.slice none 0 0, .slice none 0 0] 25) := by
    rw [hW0]
    have h := blk_new ((((w.alloc (.cells #[.slice A0 l0_0.length c0, .slice A1 l0_1.length c1] 25)).alloc (.cells #[.int .i64 a1] 3)).alloc (.cells #[.int .i64 a2] 3)).alloc (.cells #[.string a3] 9)) (.cells #[.slice none 0 0, .slice none 0 0] 25)
    rw [World.size_alloc, World.size_alloc, World.size_alloc, World.size_alloc] at h
    exact h
  have hM0 := made_calls 36 #[.pointer (some ⟨w.heap.size + 1, 0, none⟩), .pointer (some ⟨w.heap.size, 0, none⟩), .pointer (some ⟨w.heap.size + 1 + 1, 0, none⟩), .pointer (some ⟨w.heap.size + 1 + 1 + 1, 0, none⟩)] A0 c0 l0_0 A1 c1 l0_1 (xIn2 a1 l0_1.length a2 l0_0.length) l0_0 (l0_1.set a1.toNat ((l0_1.getD a1.toNat []).set a2.toNat a3)) W0 (Kd.C_below hr0 hb0) hc0 (Kd.C_below hr1 hb0) hc1 hT0 (edit_Set.ok l0_0 l0_1 a1 a2 a3 hok) (fun args W => enters_ Try.func36 (by kernel_rfl) rfl args W) (fun hck => how36 W0 _ _ _ _ A0 c0 l0_0 A1 c1 l0_1 ⟨hx0, Kd.C_below hr0 hb0, hc0, Kd.C_below hr1 hb0, by omega, by omega, rows_of_check hck⟩ a1 a2 a3 hx1 hx2 hx3)
  rw [h1] at hM0
  have HM := Aside0.mk hM0
  have HB0 := Aside0.mk hb0
  have HZ0 := Aside0.mk hx4
  have HW0 := Aside0.mk hW0
  clear hM0 hb0 hW0 h h1 hok hT0 hh0 hl0 hr0 hr1 hx0 hx1 hx2 hx3 hx4
  go_enter Try.func16, Try.ntmps16
  go_wp2_with (go_at_call 35; rw [← HW0.out]; refine HM.out.mono ?_; rintro e w1 ⟨v0, v1, rfl, hM, hb1⟩; obtain ⟨Av, cv, rfl, hcv, hCv⟩ := Kd.R_reads hM.1; obtain ⟨Ar, cr, rfl, hcr, hCr⟩ := Kd.S_reads hM.2; have HN := Aside0.mk hM; have HB1 := Aside0.mk hb1; have HZ1 := Aside0.mk ((hb1.block _ (lt_of_block HZ0.out)).trans HZ0.out); have hy0 := blk_cell HZ1.out 0; have hy1 := blk_cell HZ1.out 1; have hu0 := blk_frozen HZ1.out 0; have hu1 := blk_frozen HZ1.out 1; clear hM hb1 hCv hCr HM)
  have hf0 : ((w1.setCell ⟨w.heap.size + 1 + 1 + 1 + 1, 0, none⟩ (.slice Av r1.length cv)).setCell ⟨w.heap.size + 1 + 1 + 1 + 1, 1, none⟩ (.slice Ar r2.length cr)).heap[w.heap.size + 1 + 1 + 1 + 1]? = some (.cells #[.slice Av r1.length cv, .slice Ar r2.length cr] 25 (0, 0)) := heap_setCell_same _ _ 1 _ _ _ (heap_setCell_same _ _ 0 _ _ _ HZ1.out)
  have hc0 := blk_cell hf0 0
  have hc1 := blk_cell hf0 1
  refine bodyPost_ret (v := .tuple #[.agg #[.slice Av r1.length cv, .slice Ar r2.length cr], .int .i64 r3]) (by simp [results, Try.results16, go_sem, hc0, hc1]) rfl ?_
  have hlt := lt_of_block HZ0.out
  have hZ := ((HN.out.far (p := ⟨w.heap.size + 1 + 1 + 1 + 1, 0, none⟩) hlt (.slice Av r1.length cv)).far (p := ⟨w.heap.size + 1 + 1 + 1 + 1, 1, none⟩) hlt (.slice Ar r2.length cr)).lower HB0.out.size
  exact ⟨_, _, rfl, hZ.1, hZ.2, ((HB0.out.trans (HB1.out.mono HB0.out.size)).setCell (by show w.heap.size ≤ w.heap.size + 1 + 1 + 1 + 1; omega) _).setCell (by show w.heap.size ≤ w.heap.size + 1 + 1 + 1 + 1; omega) _⟩
def edit_InsertRow.f (l0_0 : List ByteArray) (l0_1 : List (List ByteArray)) (a1 : Int) (l2 : List ByteArray) : Option (List ByteArray × List (List ByteArray) × Int) := if (okE l0_0 l0_1 && decide (l2.length ≤ 90000)) = true then some (madeT l0_0 l0_1 (xIn a1 (l0_1.length + 1)) l0_0 (putL l0_1 a1.toNat l2)) else none
theorem edit_InsertRow.ok (l0_0 : List ByteArray) (l0_1 : List (List ByteArray)) (a1 : Int) (l2 : List ByteArray) (hok : (okE l0_0 l0_1 && decide (l2.length ≤ 90000)) = true) (hck : checkT l0_0 l0_1 = 0) (hx : (xIn a1 (l0_1.length + 1)) = 0) : okT l0_0 (putL l0_1 a1.toNat l2) = true := by
  rw [Bool.and_eq_true] at hok
  obtain ⟨hT, h1, h2⟩ := okE_parts hok.1
  have hs := okT_size hT
  exact okT_mk (by omega) (by rw [len_putL]; omega) hs
set_option maxRecDepth 100000 in
set_option maxHeartbeats 4000000 in
theorem edit_InsertRow.calls (A0 : Option Addr) (c0 : Nat) (l0_0 : List ByteArray) (A1 : Option Addr) (c1 : Nat) (l0_1 : List (List ByteArray)) (a1 : Int) (Al2 : Option Addr) (cl2 : Nat) (l2 : List ByteArray) (r1 : List ByteArray) (r2 : List (List ByteArray)) (r3 : Int) (w : World) (hr0 : Kd.C Kd.string w A0 l0_0.length l0_0) (hc0 : l0_0.length ≤ c0) (hr1 : Kd.C (Kd.slice 9 Kd.string) w A1 l0_1.length l0_1) (hc1 : l0_1.length ≤ c1) (hrl2 : Kd.C Kd.string w Al2 l2.length l2) (hcl2 : l2.length ≤ cl2) (h : edit_InsertRow.f l0_0 l0_1 a1 l2 = some (r1, r2, r3)) :
    Calls Try.prog 25 #[.agg #[.slice A0 l0_0.length c0, .slice A1 l0_1.length c1], .int .i64 a1, .slice Al2 l2.length cl2] w fun e w' => ∃ v0_ v1_ : Value, e = .returned (.tuple #[.agg #[v0_, v1_], .int .i64 r3]) ∧ Kd.R Kd.string 9 w' w.heap.size (fun _ => True) v0_ r1 ∧ Kd.S (Kd.slice 9 Kd.string) 22 w' w.heap.size (fun k_ => some k_ ≠ (v0_ : Value).ownBlock) v1_ r2 ∧ Below w.heap.size w w' := by
  have hmf : ∀ (fn : Fn) (first cap : Array Value) (w : World), (Instr.makeFunc fn first cap).run Try.prog w = .ok (.func fn first cap) w := fun _ _ _ _ => rfl
  unfold edit_InsertRow.f at h
  split at h
  case isFalse => exact nomatch h
  rename_i hok
  have h1 := Option.some.inj h
  obtain ⟨hT0, hh0, hl0⟩ := okE_parts (Bool.and_eq_true_iff.1 hok).1
  obtain ⟨W0, hW0⟩ : ∃ W0, W0 = ((((w.alloc (.cells #[.slice A0 l0_0.length c0, .slice A1 l0_1.length c1] 25)).alloc (.cells #[.int .i64 a1] 3)).alloc (.cells #[.slice Al2 l2.length cl2] 22)).alloc (.cells #[.slice none 0 0, .slice none 0 0] 25)) := ⟨_, rfl⟩
  have hb0 : Below w.heap.size w W0 := by rw [hW0]; exact below_alloc (below_alloc (below_alloc (below_alloc (Below.refl _ _) _) _) _) _
  have hx0 : W0.heap[w.heap.size]? = some (.cells #[.slice A0 l0_0.length c0, .slice A1 l0_1.length c1] 25) := by
    rw [hW0]
    have h := blk_new w (.cells #[.slice A0 l0_0.length c0, .slice A1 l0_1.length c1] 25)
    exact ((below_alloc (below_alloc (below_alloc (Below.refl _ (w.alloc (.cells #[.slice A0 l0_0.length c0, .slice A1 l0_1.length c1] 25))) _) _) _).block _ (by simp only [World.size_alloc]; omega)).trans h
  have hx1 : W0.heap[w.heap.size + 1]? = some (.cells #[.int .i64 a1] 3) := by
    rw [hW0]
    have h := blk_new (w.alloc (.cells #[.slice A0 l0_0.length c0, .slice A1 l0_1.length c1] 25)) (.cells #[.int .i64 a1] 3)
    rw [World.size_alloc] at h
    exact ((below_alloc (below_alloc (Below.refl _ ((w.alloc (.cells #[.slice A0 l0_0.length c0, .slice A1 l0_1.length c1] 25)).alloc (.cells #[.int .i64 a1] 3))) _) _).block _ (by simp only [World.size_alloc]; omega)).trans h
  have hx2 : W0.heap[w.heap.size + 1 + 1]? = some (.cells #[.slice Al2 l2.length cl2] 22) := by
    rw [hW0]
    have h := blk_new ((w.alloc (.cells #[.slice A0 l0_0.length c0, .slice A1 l0_1.length c1] 25)).alloc (.cells #[.int .i64 a1] 3)) (.cells #[.slice Al2 l2.length cl2] 22)
    rw [World.size_alloc, World.size_alloc] at h
    exact ((below_alloc (Below.refl _ (((w.alloc (.cells #[.slice A0 l0_0.length c0, .slice A1 l0_1.length c1] 25)).alloc (.cells #[.int .i64 a1] 3)).alloc (.cells #[.slice Al2 l2.length cl2] 22))) _).block _ (by simp only [World.size_alloc]; omega)).trans h
  have hx3 : W0.heap[w.heap.size + 1 + 1 + 1]? = some (.cells #[.slice none 0 0, .slice none 0 0] 25) := by
    rw [hW0]
    have h := blk_new (((w.alloc (.cells #[.slice A0 l0_0.length c0, .slice A1 l0_1.length c1] 25)).alloc (.cells #[.int .i64 a1] 3)).alloc (.cells #[.slice Al2 l2.length cl2] 22)) (.cells #[.slice none 0 0, .slice none 0 0] 25)
    rw [World.size_alloc, World.size_alloc, World.size_alloc] at h
    exact h
  have hM0 := made_calls 61 #[.pointer (some ⟨w.heap.size + 1, 0, none⟩), .pointer (some ⟨w.heap.size, 0, none⟩), .pointer (some ⟨w.heap.size + 1 + 1, 0, none⟩)] A0 c0 l0_0 A1 c1 l0_1 (xIn a1 (l0_1.length + 1)) l0_0 (putL l0_1 a1.toNat l2) W0 (Kd.C_below hr0 hb0) hc0 (Kd.C_below hr1 hb0) hc1 hT0 (edit_InsertRow.ok l0_0 l0_1 a1 l2 hok) (fun args W => enters_ Try.func61 (by kernel_rfl) rfl args W) (fun hck => how61 W0 _ _ _ A0 c0 l0_0 A1 c1 l0_1 ⟨hx0, Kd.C_below hr0 hb0, hc0, Kd.C_below hr1 hb0, by omega, by omega, rows_of_check hck⟩ a1 Al2 cl2 l2 hx1 hx2 (Kd.C_below hrl2 hb0) hcl2 (by have := of_decide_eq_true (Bool.and_eq_true_iff.1 hok).2; omega))
  rw [h1] at hM0
  have HM := Aside0.mk hM0
  have HB0 := Aside0.mk hb0
  have HZ0 := Aside0.mk hx3
  have HW0 := Aside0.mk hW0
  clear hM0 hb0 hW0 h h1 hok hT0 hh0 hl0 hr0 hr1 hx0 hx1 hx2 hx3 hrl2
  go_enter Try.func25, Try.ntmps25
  go_wp2_with (go_at_call 35; rw [← HW0.out]; refine HM.out.mono ?_; rintro e w1 ⟨v0, v1, rfl, hM, hb1⟩; obtain ⟨Av, cv, rfl, hcv, hCv⟩ := Kd.R_reads hM.1; obtain ⟨Ar, cr, rfl, hcr, hCr⟩ := Kd.S_reads hM.2; have HN := Aside0.mk hM; have HB1 := Aside0.mk hb1; have HZ1 := Aside0.mk ((hb1.block _ (lt_of_block HZ0.out)).trans HZ0.out); have hy0 := blk_cell HZ1.out 0; have hy1 := blk_cell HZ1.out 1; have hu0 := blk_frozen HZ1.out 0; have hu1 := blk_frozen HZ1.out 1; clear hM hb1 hCv hCr HM)
  have hf0 : ((w1.setCell ⟨w.heap.size + 1 + 1 + 1, 0, none⟩ (.slice Av r1.length cv)).setCell ⟨w.heap.size + 1 + 1 + 1, 1, none⟩ (.slice Ar r2.length cr)).heap[w.heap.size + 1 + 1 + 1]? = some (.cells #[.slice Av r1.length cv, .slice Ar r2.length cr] 25 (0, 0)) := heap_setCell_same _ _ 1 _ _ _ (heap_setCell_same _ _ 0 _ _ _ HZ1.out)
  have hc0 := blk_cell hf0 0
  have hc1 := blk_cell hf0 1
  refine bodyPost_ret (v := .tuple #[.agg #[.slice Av r1.length cv, .slice Ar r2.length cr], .int .i64 r3]) (by simp [results, Try.results25, go_sem, hc0, hc1]) rfl ?_
  have hlt := lt_of_block HZ0.out
  have hZ := ((HN.out.far (p := ⟨w.heap.size + 1 + 1 + 1, 0, none⟩) hlt (.slice Av r1.length cv)).far (p := ⟨w.heap.size + 1 + 1 + 1, 1, none⟩) hlt (.slice Ar r2.length cr)).lower HB0.out.size
  exact ⟨_, _, rfl, hZ.1, hZ.2, ((HB0.out.trans (HB1.out.mono HB0.out.size)).setCell (by show w.heap.size ≤ w.heap.size + 1 + 1 + 1; omega) _).setCell (by show w.heap.size ≤ w.heap.size + 1 + 1 + 1; omega) _⟩
def edit_InsertCol.f (l0_0 : List ByteArray) (l0_1 : List (List ByteArray)) (a1 : Int) (a2 : ByteArray) (l3 : List ByteArray) : Option (List ByteArray × List (List ByteArray) × Int) := if (okE l0_0 l0_1 && (decide (l3.length ≤ 90000) && decide (a2.size ≤ maxLen))) = true then some (madeT l0_0 l0_1 (xInsCol a1 l0_0.length l3.length l0_1.length) (putL l0_0 a1.toNat a2) (outI (fun i l => putL l a1.toNat (l3.getD i ByteArray.empty)) l0_1 l0_1.length)) else none
theorem edit_InsertCol.ok (l0_0 : List ByteArray) (l0_1 : List (List ByteArray)) (a1 : Int) (a2 : ByteArray) (l3 : List ByteArray) (hok : (okE l0_0 l0_1 && (decide (l3.length ≤ 90000) && decide (a2.size ≤ maxLen))) = true) (hck : checkT l0_0 l0_1 = 0) (hx : (xInsCol a1 l0_0.length l3.length l0_1.length) = 0) : okT (putL l0_0 a1.toNat a2) (outI (fun i l => putL l a1.toNat (l3.getD i ByteArray.empty)) l0_1 l0_1.length) = true := by
  rw [Bool.and_eq_true] at hok
  obtain ⟨hT, h1, h2⟩ := okE_parts hok.1
  have hs := okT_size hT
  rw [Bool.and_eq_true] at hok
  have hz := of_decide_eq_true hok.2.2
  refine okT_mk (by rw [len_putL]; omega) (by rw [outI_length]; omega) (fun s h => ?_)
  rcases mem_putL h with h | h
  · rw [h]; exact hz
  · exact hs s h
set_option maxRecDepth 100000 in
set_option maxHeartbeats 4000000 in
theorem edit_InsertCol.calls (A0 : Option Addr) (c0 : Nat) (l0_0 : List ByteArray) (A1 : Option Addr) (c1 : Nat) (l0_1 : List (List ByteArray)) (a1 : Int) (a2 : ByteArray) (Al3 : Option Addr) (cl3 : Nat) (l3 : List ByteArray) (r1 : List ByteArray) (r2 : List (List ByteArray)) (r3 : Int) (w : World) (hr0 : Kd.C Kd.string w A0 l0_0.length l0_0) (hc0 : l0_0.length ≤ c0) (hr1 : Kd.C (Kd.slice 9 Kd.string) w A1 l0_1.length l0_1) (hc1 : l0_1.length ≤ c1) (hrl3 : Kd.C Kd.string w Al3 l3.length l3) (hcl3 : l3.length ≤ cl3) (h : edit_InsertCol.f l0_0 l0_1 a1 a2 l3 = some (r1, r2, r3)) :
    Calls Try.prog 22 #[.agg #[.slice A0 l0_0.length c0, .slice A1 l0_1.length c1], .int .i64 a1, .string a2, .slice Al3 l3.length cl3] w fun e w' => ∃ v0_ v1_ : Value, e = .returned (.tuple #[.agg #[v0_, v1_], .int .i64 r3]) ∧ Kd.R Kd.string 9 w' w.heap.size (fun _ => True) v0_ r1 ∧ Kd.S (Kd.slice 9 Kd.string) 22 w' w.heap.size (fun k_ => some k_ ≠ (v0_ : Value).ownBlock) v1_ r2 ∧ Below w.heap.size w w' := by
  have hmf : ∀ (fn : Fn) (first cap : Array Value) (w : World), (Instr.makeFunc fn first cap).run Try.prog w = .ok (.func fn first cap) w := fun _ _ _ _ => rfl
  unfold edit_InsertCol.f at h
  split at h
  case isFalse => exact nomatch h
  rename_i hok
  have h1 := Option.some.inj h
  obtain ⟨hT0, hh0, hl0⟩ := okE_parts (Bool.and_eq_true_iff.1 hok).1
  obtain ⟨W0, hW0⟩ : ∃ W0, W0 = (((((w.alloc (.cells #[.slice A0 l0_0.length c0, .slice A1 l0_1.length c1] 25)).alloc (.cells #[.int .i64 a1] 3)).alloc (.cells #[.string a2] 9)).alloc (.cells #[.slice Al3 l3.length cl3] 22)).alloc (.cells #[.slice none 0 0, .slice none 0 0] 25)) := ⟨_, rfl⟩
  have hb0 : Below w.heap.size w W0 := by rw [hW0]; exact below_alloc (below_alloc (below_alloc (below_alloc (below_alloc (Below.refl _ _) _) _) _) _) _
  have hx0 : W0.heap[w.heap.size]? = some (.cells #[.slice A0 l0_0.length c0, .slice A1 l0_1.length c1] 25) := by
    rw [hW0]
    have h := blk_new w (.cells #[.slice A0 l0_0.length c0, .slice A1 l0_1.length c1] 25)
    exact ((below_alloc (below_alloc (below_alloc (below_alloc (Below.refl _ (w.alloc (.cells #[.slice A0 l0_0.length c0, .slice A1 l0_1.length c1] 25))) _) _) _) _).block _ (by simp only [World.size_alloc]; omega)).trans h
  have hx1 : W0.heap[w.heap.size + 1]? = some (.cells #[.int .i64 a1] 3) := by
    rw [hW0]
    have h := blk_new (w.alloc (.cells #[.slice A0 l0_0.length c0, .slice A1 l0_1.length c1] 25)) (.cells #[.int .i64 a1] 3)
    rw [World.size_alloc] at h
    exact ((below_alloc (below_alloc (below_alloc (Below.refl _ ((w.alloc (.cells #[.slice A0 l0_0.length c0, .slice A1 l0_1.length c1] 25)).alloc (.cells #[.int .i64 a1] 3))) _) _) _).block _ (by simp only [World.size_alloc]; omega)).trans h
  have hx2 : W0.heap[w.heap.size + 1 + 1]? = some (.cells #[.string a2] 9) := by
    rw [hW0]
    have h := blk_new ((w.alloc (.cells #[.slice A0 l0_0.length c0, .slice A1 l0_1.length c1] 25)).alloc (.cells #[.int .i64 a1] 3)) (.cells #[.string a2] 9)
    rw [World.size_alloc, World.size_alloc] at h
    exact ((below_alloc (below_alloc (Below.refl _ (((w.alloc (.cells #[.slice A0 l0_0.length c0, .slice A1 l0_1.length c1] 25)).alloc (.cells #[.int .i64 a1] 3)).alloc (.cells #[.string a2] 9))) _) _).block _ (by simp only [World.size_alloc]; omega)).trans h
  have hx3 : W0.heap[w.heap.size + 1 + 1 + 1]? = some (.cells #[.slice Al3 l3.length cl3] 22) := by
    rw [hW0]
    have h := blk_new (((w.alloc (.cells #[.slice A0 l0_0.length c0, .slice A1 l0_1.length c1] 25)).alloc (.cells #[.int .i64 a1] 3)).alloc (.cells #[.string a2] 9)) (.cells #[.slice Al3 l3.length cl3] 22)
    rw [World.size_alloc, World.size_alloc, World.size_alloc] at h
    exact ((below_alloc (Below.refl _ ((((w.alloc (.cells #[.slice A0 l0_0.length c0, .slice A1 l0_1.length c1] 25)).alloc (.cells #[.int .i64 a1] 3)).alloc (.cells #[.string a2] 9)).alloc (.cells #[.slice Al3 l3.length cl3] 22))) _).block _ (by simp only [World.size_alloc]; omega)).trans h
  have hx4 : W0.heap[w.heap.size + 1 + 1 + 1 + 1]? = some (.cells #[.slice none 0 0, .slice none 0 0] 25) := by
    rw [hW0]
    have h := blk_new ((((w.alloc (.cells #[.slice A0 l0_0.length c0, .slice A1 l0_1.length c1] 25)).alloc (.cells #[.int .i64 a1] 3)).alloc (.cells #[.string a2] 9)).alloc (.cells #[.slice Al3 l3.length cl3] 22)) (.cells #[.slice none 0 0, .slice none 0 0] 25)
    rw [World.size_alloc, World.size_alloc, World.size_alloc, World.size_alloc] at h
    exact h
  have hM0 := made_calls 52 #[.pointer (some ⟨w.heap.size + 1, 0, none⟩), .pointer (some ⟨w.heap.size, 0, none⟩), .pointer (some ⟨w.heap.size + 1 + 1 + 1, 0, none⟩), .pointer (some ⟨w.heap.size + 1 + 1, 0, none⟩)] A0 c0 l0_0 A1 c1 l0_1 (xInsCol a1 l0_0.length l3.length l0_1.length) (putL l0_0 a1.toNat a2) (outI (fun i l => putL l a1.toNat (l3.getD i ByteArray.empty)) l0_1 l0_1.length) W0 (Kd.C_below hr0 hb0) hc0 (Kd.C_below hr1 hb0) hc1 hT0 (edit_InsertCol.ok l0_0 l0_1 a1 a2 l3 hok) (fun args W => enters_ Try.func52 (by kernel_rfl) rfl args W) (fun hck => how52 W0 _ _ _ _ A0 c0 l0_0 A1 c1 l0_1 ⟨hx0, Kd.C_below hr0 hb0, hc0, Kd.C_below hr1 hb0, by omega, by omega, rows_of_check hck⟩ a1 a2 Al3 cl3 l3 hx1 hx3 hx2 (Kd.C_below hrl3 hb0) hcl3 (by have := of_decide_eq_true (Bool.and_eq_true_iff.1 (Bool.and_eq_true_iff.1 hok).2).1; omega))
  rw [h1] at hM0
  have HM := Aside0.mk hM0
  have HB0 := Aside0.mk hb0
  have HZ0 := Aside0.mk hx4
  have HW0 := Aside0.mk hW0
  clear hM0 hb0 hW0 h h1 hok hT0 hh0 hl0 hr0 hr1 hx0 hx1 hx2 hx3 hx4 hrl3
  go_enter Try.func22, Try.ntmps22
  go_wp2_with (go_at_call 35; rw [← HW0.out]; refine HM.out.mono ?_; rintro e w1 ⟨v0, v1, rfl, hM, hb1⟩; obtain ⟨Av, cv, rfl, hcv, hCv⟩ := Kd.R_reads hM.1; obtain ⟨Ar, cr, rfl, hcr, hCr⟩ := Kd.S_reads hM.2; have HN := Aside0.mk hM; have HB1 := Aside0.mk hb1; have HZ1 := Aside0.mk ((hb1.block _ (lt_of_block HZ0.out)).trans HZ0.out); have hy0 := blk_cell HZ1.out 0; have hy1 := blk_cell HZ1.out 1; have hu0 := blk_frozen HZ1.out 0; have hu1 := blk_frozen HZ1.out 1; clear hM hb1 hCv hCr HM)
  have hf0 : ((w1.setCell ⟨w.heap.size + 1 + 1 + 1 + 1, 0, none⟩ (.slice Av r1.length cv)).setCell ⟨w.heap.size + 1 + 1 + 1 + 1, 1, none⟩ (.slice Ar r2.length cr)).heap[w.heap.size + 1 + 1 + 1 + 1]? = some (.cells #[.slice Av r1.length cv, .slice Ar r2.length cr] 25 (0, 0)) := heap_setCell_same _ _ 1 _ _ _ (heap_setCell_same _ _ 0 _ _ _ HZ1.out)
  have hc0 := blk_cell hf0 0
  have hc1 := blk_cell hf0 1
  refine bodyPost_ret (v := .tuple #[.agg #[.slice Av r1.length cv, .slice Ar r2.length cr], .int .i64 r3]) (by simp [results, Try.results22, go_sem, hc0, hc1]) rfl ?_
  have hlt := lt_of_block HZ0.out
  have hZ := ((HN.out.far (p := ⟨w.heap.size + 1 + 1 + 1 + 1, 0, none⟩) hlt (.slice Av r1.length cv)).far (p := ⟨w.heap.size + 1 + 1 + 1 + 1, 1, none⟩) hlt (.slice Ar r2.length cr)).lower HB0.out.size
  exact ⟨_, _, rfl, hZ.1, hZ.2, ((HB0.out.trans (HB1.out.mono HB0.out.size)).setCell (by show w.heap.size ≤ w.heap.size + 1 + 1 + 1 + 1; omega) _).setCell (by show w.heap.size ≤ w.heap.size + 1 + 1 + 1 + 1; omega) _⟩
def edit_Project.f (l0_0 : List ByteArray) (l0_1 : List (List ByteArray)) (l1 : List Int) : Option (List ByteArray × List (List ByteArray) × Int) := if (okE l0_0 l0_1 && decide (l1.length ≤ 90000)) = true then some (madeT l0_0 l0_1 (xProj l1 l0_0.length) (projL l1 l0_0) (l0_1.map fun l => projL l1 l)) else none
theorem edit_Project.ok (l0_0 : List ByteArray) (l0_1 : List (List ByteArray)) (l1 : List Int) (hok : (okE l0_0 l0_1 && decide (l1.length ≤ 90000)) = true) (hck : checkT l0_0 l0_1 = 0) (hx : (xProj l1 l0_0.length) = 0) : okT (projL l1 l0_0) (l0_1.map fun l => projL l1 l) = true := by
  rw [Bool.and_eq_true] at hok
  obtain ⟨hT, h1, h2⟩ := okE_parts hok.1
  have hs := okT_size hT
  have hz := of_decide_eq_true hok.2
  refine okT_mk (by rw [projL_length]; omega) (by rw [List.length_map]; omega) (fun s h => ?_)
  obtain ⟨c, hc, rfl⟩ := List.mem_map.1 h
  have hin : ∀ c ∈ l1, 0 ≤ c ∧ c < (l0_0.length : Int) := by
    unfold xProj at hx
    split at hx
    · assumption
    · simp at hx
  have := hin c hc
  exact hs _ (getD_mem (by omega))
set_option maxRecDepth 100000 in
set_option maxHeartbeats 4000000 in
theorem edit_Project.calls (A0 : Option Addr) (c0 : Nat) (l0_0 : List ByteArray) (A1 : Option Addr) (c1 : Nat) (l0_1 : List (List ByteArray)) (Al1 : Option Addr) (cl1 : Nat) (l1 : List Int) (r1 : List ByteArray) (r2 : List (List ByteArray)) (r3 : Int) (w : World) (hr0 : Kd.C Kd.string w A0 l0_0.length l0_0) (hc0 : l0_0.length ≤ c0) (hr1 : Kd.C (Kd.slice 9 Kd.string) w A1 l0_1.length l0_1) (hc1 : l0_1.length ≤ c1) (hrl1 : Kd.C (Kd.int .i64) w Al1 l1.length l1) (hcl1 : l1.length ≤ cl1) (h : edit_Project.f l0_0 l0_1 l1 = some (r1, r2, r3)) :
    Calls Try.prog 19 #[.agg #[.slice A0 l0_0.length c0, .slice A1 l0_1.length c1], .slice Al1 l1.length cl1] w fun e w' => ∃ v0_ v1_ : Value, e = .returned (.tuple #[.agg #[v0_, v1_], .int .i64 r3]) ∧ Kd.R Kd.string 9 w' w.heap.size (fun _ => True) v0_ r1 ∧ Kd.S (Kd.slice 9 Kd.string) 22 w' w.heap.size (fun k_ => some k_ ≠ (v0_ : Value).ownBlock) v1_ r2 ∧ Below w.heap.size w w' := by
  have hmf : ∀ (fn : Fn) (first cap : Array Value) (w : World), (Instr.makeFunc fn first cap).run Try.prog w = .ok (.func fn first cap) w := fun _ _ _ _ => rfl
  unfold edit_Project.f at h
  split at h
  case isFalse => exact nomatch h
  rename_i hok
  have h1 := Option.some.inj h
  obtain ⟨hT0, hh0, hl0⟩ := okE_parts (Bool.and_eq_true_iff.1 hok).1
  obtain ⟨W0, hW0⟩ : ∃ W0, W0 = (((w.alloc (.cells #[.slice A0 l0_0.length c0, .slice A1 l0_1.length c1] 25)).alloc (.cells #[.slice Al1 l1.length cl1] 26)).alloc (.cells #[.slice none 0 0, .slice none 0 0] 25)) := ⟨_, rfl⟩
  have hb0 : Below w.heap.size w W0 := by rw [hW0]; exact below_alloc (below_alloc (below_alloc (Below.refl _ _) _) _) _
  have hx0 : W0.heap[w.heap.size]? = some (.cells #[.slice A0 l0_0.length c0, .slice A1 l0_1.length c1] 25) := by
    rw [hW0]
    have h := blk_new w (.cells #[.slice A0 l0_0.length c0, .slice A1 l0_1.length c1] 25)
    exact ((below_alloc (below_alloc (Below.refl _ (w.alloc (.cells #[.slice A0 l0_0.length c0, .slice A1 l0_1.length c1] 25))) _) _).block _ (by simp only [World.size_alloc]; omega)).trans h
  have hx1 : W0.heap[w.heap.size + 1]? = some (.cells #[.slice Al1 l1.length cl1] 26) := by
    rw [hW0]
    have h := blk_new (w.alloc (.cells #[.slice A0 l0_0.length c0, .slice A1 l0_1.length c1] 25)) (.cells #[.slice Al1 l1.length cl1] 26)
    rw [World.size_alloc] at h
    exact ((below_alloc (Below.refl _ ((w.alloc (.cells #[.slice A0 l0_0.length c0, .slice A1 l0_1.length c1] 25)).alloc (.cells #[.slice Al1 l1.length cl1] 26))) _).block _ (by simp only [World.size_alloc]; omega)).trans h
  have hx2 : W0.heap[w.heap.size + 1 + 1]? = some (.cells #[.slice none 0 0, .slice none 0 0] 25) := by
    rw [hW0]
    have h := blk_new ((w.alloc (.cells #[.slice A0 l0_0.length c0, .slice A1 l0_1.length c1] 25)).alloc (.cells #[.slice Al1 l1.length cl1] 26)) (.cells #[.slice none 0 0, .slice none 0 0] 25)
    rw [World.size_alloc, World.size_alloc] at h
    exact h
  have hM0 := made_calls 43 #[.pointer (some ⟨w.heap.size + 1, 0, none⟩), .pointer (some ⟨w.heap.size, 0, none⟩)] A0 c0 l0_0 A1 c1 l0_1 (xProj l1 l0_0.length) (projL l1 l0_0) (l0_1.map fun l => projL l1 l) W0 (Kd.C_below hr0 hb0) hc0 (Kd.C_below hr1 hb0) hc1 hT0 (edit_Project.ok l0_0 l0_1 l1 hok) (fun args W => enters_ Try.func43 (by kernel_rfl) rfl args W) (fun hck => how43 W0 _ _ A0 c0 l0_0 A1 c1 l0_1 ⟨hx0, Kd.C_below hr0 hb0, hc0, Kd.C_below hr1 hb0, by omega, by omega, rows_of_check hck⟩ Al1 cl1 l1 hx1 (Kd.C_below hrl1 hb0) (by have := of_decide_eq_true (Bool.and_eq_true_iff.1 hok).2; omega))
  rw [h1] at hM0
  have HM := Aside0.mk hM0
  have HB0 := Aside0.mk hb0
  have HZ0 := Aside0.mk hx2
  have HW0 := Aside0.mk hW0
  clear hM0 hb0 hW0 h h1 hok hT0 hh0 hl0 hr0 hr1 hx0 hx1 hx2 hrl1
  go_enter Try.func19, Try.ntmps19
  go_wp2_with (go_at_call 35; rw [← HW0.out]; refine HM.out.mono ?_; rintro e w1 ⟨v0, v1, rfl, hM, hb1⟩; obtain ⟨Av, cv, rfl, hcv, hCv⟩ := Kd.R_reads hM.1; obtain ⟨Ar, cr, rfl, hcr, hCr⟩ := Kd.S_reads hM.2; have HN := Aside0.mk hM; have HB1 := Aside0.mk hb1; have HZ1 := Aside0.mk ((hb1.block _ (lt_of_block HZ0.out)).trans HZ0.out); have hy0 := blk_cell HZ1.out 0; have hy1 := blk_cell HZ1.out 1; have hu0 := blk_frozen HZ1.out 0; have hu1 := blk_frozen HZ1.out 1; clear hM hb1 hCv hCr HM)
  have hf0 : ((w1.setCell ⟨w.heap.size + 1 + 1, 0, none⟩ (.slice Av r1.length cv)).setCell ⟨w.heap.size + 1 + 1, 1, none⟩ (.slice Ar r2.length cr)).heap[w.heap.size + 1 + 1]? = some (.cells #[.slice Av r1.length cv, .slice Ar r2.length cr] 25 (0, 0)) := heap_setCell_same _ _ 1 _ _ _ (heap_setCell_same _ _ 0 _ _ _ HZ1.out)
  have hc0 := blk_cell hf0 0
  have hc1 := blk_cell hf0 1
  refine bodyPost_ret (v := .tuple #[.agg #[.slice Av r1.length cv, .slice Ar r2.length cr], .int .i64 r3]) (by simp [results, Try.results19, go_sem, hc0, hc1]) rfl ?_
  have hlt := lt_of_block HZ0.out
  have hZ := ((HN.out.far (p := ⟨w.heap.size + 1 + 1, 0, none⟩) hlt (.slice Av r1.length cv)).far (p := ⟨w.heap.size + 1 + 1, 1, none⟩) hlt (.slice Ar r2.length cr)).lower HB0.out.size
  exact ⟨_, _, rfl, hZ.1, hZ.2, ((HB0.out.trans (HB1.out.mono HB0.out.size)).setCell (by show w.heap.size ≤ w.heap.size + 1 + 1; omega) _).setCell (by show w.heap.size ≤ w.heap.size + 1 + 1; omega) _⟩
end Go.Proofs.Ytaolakknkhggnaa.X
end
section
namespace Go.Proofs.Ytaolakknkhggnaa.X
open Go.RowKit Go.Proofs.YtaolakknkhggnaaW.PrintWords Go.Proofs.YtaolakknkhggnaaW.PrintLast Go.Proofs.YtaolakknkhggnaaW.PrintMore
attribute [local go_sem] max2_int min2_int max_two min_two max_three min_three max_four min_four   -- for this text's walks alone
set_option linter.unusedVariables false
set_option linter.unusedSimpArgs false
def tartanlaw05_do.f (l0_0 : List ByteArray) (l0_1 : List (List ByteArray)) (a1_0 : Int) (a1_1 : Int) (a1_2 : Int) (a1_3 : ByteArray) (l1_4 : List ByteArray) (l1_5 : List Int) : Option (List ByteArray × (List (List ByteArray)) × Int) := if a1_0 = 0 then ((edit_InsertCol.f l0_0 l0_1 a1_1 a1_3 l1_4).bind fun bt340 => (some (bt340.1, bt340.2.1, bt340.2.2))) else (if a1_0 = 1 then ((edit_DeleteCol.f l0_0 l0_1 a1_1).bind fun bt347 => (some (bt347.1, bt347.2.1, bt347.2.2))) else (if a1_0 = 2 then ((edit_RenameCol.f l0_0 l0_1 a1_1 a1_3).bind fun bt354 => (some (bt354.1, bt354.2.1, bt354.2.2))) else (if a1_0 = 3 then ((edit_MoveCol.f l0_0 l0_1 a1_1 a1_2).bind fun bt361 => (some (bt361.1, bt361.2.1, bt361.2.2))) else (if a1_0 = 4 then ((edit_InsertRow.f l0_0 l0_1 a1_1 l1_4).bind fun bt368 => (some (bt368.1, bt368.2.1, bt368.2.2))) else (if a1_0 = 5 then ((edit_DeleteRow.f l0_0 l0_1 a1_1).bind fun bt375 => (some (bt375.1, bt375.2.1, bt375.2.2))) else (if a1_0 = 6 then ((edit_MoveRow.f l0_0 l0_1 a1_1 a1_2).bind fun bt382 => (some (bt382.1, bt382.2.1, bt382.2.2))) else (if a1_0 = 7 then ((edit_Set.f l0_0 l0_1 a1_1 a1_2 a1_3).bind fun bt389 => (some (bt389.1, bt389.2.1, bt389.2.2))) else ((edit_Project.f l0_0 l0_1 l1_5).bind fun bt396 => (some (bt396.1, bt396.2.1, bt396.2.2))))))))))
set_option maxHeartbeats 8000000 in
set_option maxRecDepth 100000 in
theorem tartanlaw05_do.calls (A0_0 : Option Addr) (c0_0 : Nat) (l0_0 : List ByteArray) (A0_1 : Option Addr) (c0_1 : Nat) (l0_1 : List (List ByteArray)) (a1_0 : Int) (a1_1 : Int) (a1_2 : Int) (a1_3 : ByteArray) (A1_4 : Option Addr) (c1_4 : Nat) (l1_4 : List ByteArray) (A1_5 : Option Addr) (c1_5 : Nat) (l1_5 : List Int) (r1 : List ByteArray) (r2 : List (List ByteArray)) (r3 : Int) (w : World) (hr0_0 : Kd.C Kd.string w A0_0 l0_0.length l0_0) (hc0_0 : l0_0.length ≤ c0_0) (hr0_1 : Kd.C (Kd.slice 9 Kd.string) w A0_1 l0_1.length l0_1) (hc0_1 : l0_1.length ≤ c0_1) (hr1_4 : Kd.C Kd.string w A1_4 l1_4.length l1_4) (hc1_4 : l1_4.length ≤ c1_4) (hr1_5 : Kd.C (Kd.int .i64) w A1_5 l1_5.length l1_5) (hc1_5 : l1_5.length ≤ c1_5) (h : tartanlaw05_do.f l0_0 l0_1 a1_0 a1_1 a1_2 a1_3 l1_4 l1_5 = some (r1, r2, r3)) :
  Calls Try.prog 13 #[.agg #[.slice A0_0 l0_0.length c0_0, .slice A0_1 l0_1.length c0_1], .agg #[.int .i64 a1_0, .int .i64 a1_1, .int .i64 a1_2, .string a1_3, .slice A1_4 l1_4.length c1_4, .slice A1_5 l1_5.length c1_5]] w fun e w' => ∃ v0_ v1_ : Value, e = .returned (.tuple #[.agg #[v0_, v1_], .int .i64 r3]) ∧ Kd.R Kd.string 9 w' w.heap.size (fun _ => True) v0_ r1 ∧ Kd.S (Kd.slice 9 Kd.string) 22 w' w.heap.size (fun k_ => some k_ ≠ (v0_ : Value).ownBlock) v1_ r2 ∧ Below w.heap.size w w' := by
 have hu25 := Try.underlying25
 have hu28 := Try.underlying28
 have HR0_0 := Aside0.mk hr0_0
 have HC0_0 := Aside0.mk hc0_0
 clear hr0_0 hc0_0
 have HR0_1 := Aside0.mk hr0_1
 have HC0_1 := Aside0.mk hc0_1
 clear hr0_1 hc0_1
 have HR1_4 := Aside0.mk hr1_4
 have HC1_4 := Aside0.mk hc1_4
 clear hr1_4 hc1_4
 have HR1_5 := Aside0.mk hr1_5
 have HC1_5 := Aside0.mk hc1_5
 clear hr1_5 hc1_5
 have HB := Aside0.mk (Below.refl w.heap.size w)
 have H : (if a1_0 = 0 then ((edit_InsertCol.f l0_0 l0_1 a1_1 a1_3 l1_4).bind fun bt340 => (some (bt340.1, bt340.2.1, bt340.2.2))) else (if a1_0 = 1 then ((edit_DeleteCol.f l0_0 l0_1 a1_1).bind fun bt347 => (some (bt347.1, bt347.2.1, bt347.2.2))) else (if a1_0 = 2 then ((edit_RenameCol.f l0_0 l0_1 a1_1 a1_3).bind fun bt354 => (some (bt354.1, bt354.2.1, bt354.2.2))) else (if a1_0 = 3 then ((edit_MoveCol.f l0_0 l0_1 a1_1 a1_2).bind fun bt361 => (some (bt361.1, bt361.2.1, bt361.2.2))) else (if a1_0 = 4 then ((edit_InsertRow.f l0_0 l0_1 a1_1 l1_4).bind fun bt368 => (some (bt368.1, bt368.2.1, bt368.2.2))) else (if a1_0 = 5 then ((edit_DeleteRow.f l0_0 l0_1 a1_1).bind fun bt375 => (some (bt375.1, bt375.2.1, bt375.2.2))) else (if a1_0 = 6 then ((edit_MoveRow.f l0_0 l0_1 a1_1 a1_2).bind fun bt382 => (some (bt382.1, bt382.2.1, bt382.2.2))) else (if a1_0 = 7 then ((edit_Set.f l0_0 l0_1 a1_1 a1_2 a1_3).bind fun bt389 => (some (bt389.1, bt389.2.1, bt389.2.2))) else ((edit_Project.f l0_0 l0_1 l1_5).bind fun bt396 => (some (bt396.1, bt396.2.1, bt396.2.2))))))))))) = some (r1, r2, r3) := h
 clear h
 by_cases c3 : a1_0 = 0
 ·rw [if_pos c3] at H
  have c3b0 : (a1_0 == 0) = true := beq_iff_eq.mpr c3
  have c3b1 : (a1_0 != 0) = false := bne_eq_false_iff_eq.mpr c3
  clear c3
  replace H := Option.bind_eq_some_iff.mp H
  obtain ⟨⟨t340, t343, t346⟩, A40, H⟩ := H
  replace H : (some (t340, t343, t346)) = some (r1, r2, r3) := H
  have A4 := Aside0.mk A40
  clear A40
  simp only [Option.some.injEq, Prod.mk.injEq] at H
  obtain ⟨rfl, rfl, rfl⟩ := H
  go_enter Try.func13, Try.ntmps13
  go_wp2_with (first | ((with_reducible refine gate_dst (N := 2) rfl ?_); refine box_event ?hg (N := 2) ?hd (cs := #[.slice A0_0 l0_0.length c0_0, .slice A0_1 l0_1.length c0_1]) (t := 25) ?hr ?_; (case hd => rfl); (case hg => rfl); (case hr => first | (go_simp; done) | (go_simp; rfl)); intro gb337 hg w5 hbox hb; have n0_ := Aside0.mk (below_step (by repeat (first | (with_reducible first | exact HB.out | apply below_alloc | apply pw_below_drewN | apply below_drew1) | exact HB.out)) hb); have n1_ := Aside0.mk (hbox); have n2_ := Aside0.mk ((by rw [hg]; exact (below_size (by repeat (first | (with_reducible first | exact HB.out | apply below_alloc | apply pw_below_drewN | apply below_drew1) | exact HB.out))) : w.heap.size ≤ gb337)); have n3_ := Aside0.mk ((by rw [hg]; exact (below_size (by repeat (first | (with_reducible first | exact HB.out | apply below_alloc | apply pw_below_drewN | apply below_drew1) | exact HB.out))) : w.heap.size ≤ gb337)); clear HB; have HB := n0_; have BK337 := n1_; have GW337 := n2_; have GE337 := n3_; clear n0_ n1_ n2_ n3_; clear hb hbox hg) | ((with_reducible refine gate_dst (N := 3) rfl ?_); refine box_event ?hg (N := 3) ?hd (cs := #[.int .i64 a1_0, .int .i64 a1_1, .int .i64 a1_2, .string a1_3, .slice A1_4 l1_4.length c1_4, .slice A1_5 l1_5.length c1_5]) (t := 28) ?hr ?_; (case hd => rfl); (case hg => rfl); (case hr => first | (go_simp; done) | (go_simp; rfl)); intro gb338 hg w6 hbox hb; have n0_ := Aside0.mk (blk_below (g := gb337) (o := .cells #[.slice A0_0 l0_0.length c0_0, .slice A0_1 l0_1.length c0_1] 25 (0, 0)) (by (with_reducible repeat (first | refine blk_drewN ?_ _ | refine blk_drew ?_ | refine blk_alloc ?_ _)); exact BK337.out) hb); have n1_ := Aside0.mk (below_step (by repeat (first | (with_reducible first | exact HB.out | apply below_alloc | apply pw_below_drewN | apply below_drew1 | refine below_set ?_ GE337.out) | exact HB.out)) hb); have n2_ := Aside0.mk (hbox); have n3_ := Aside0.mk ((by rw [hg]; exact (below_size (by repeat (first | (with_reducible first | exact HB.out | apply below_alloc | apply pw_below_drewN | apply below_drew1 | refine below_set ?_ GE337.out) | exact HB.out))) : w.heap.size ≤ gb338)); have n4_ := Aside0.mk ((by rw [hg]; exact (below_size (by repeat (first | (with_reducible first | exact HB.out | apply below_alloc | apply pw_below_drewN | apply below_drew1 | refine below_set ?_ GE337.out) | exact HB.out))) : w.heap.size ≤ gb338)); have n5_ := Aside0.mk ((by rw [hg]; exact Nat.ne_of_lt (blk_lt (g := gb337) (o := .cells #[.slice A0_0 l0_0.length c0_0, .slice A0_1 l0_1.length c0_1] 25 (0, 0)) (by (with_reducible repeat (first | refine blk_drewN ?_ _ | refine blk_drew ?_ | refine blk_alloc ?_ _)); exact BK337.out)) : gb337 ≠ gb338)); have n6_ := Aside0.mk ((by rw [hg]; exact Nat.ne_of_gt (blk_lt (g := gb337) (o := .cells #[.slice A0_0 l0_0.length c0_0, .slice A0_1 l0_1.length c0_1] 25 (0, 0)) (by (with_reducible repeat (first | refine blk_drewN ?_ _ | refine blk_drew ?_ | refine blk_alloc ?_ _)); exact BK337.out)) : gb338 ≠ gb337)); clear BK337; clear HB; have BK337 := n0_; have HB := n1_; have BK338 := n2_; have GW338 := n3_; have GE338 := n4_; have NB337_338 := n5_; have NB338_337 := n6_; clear n0_ n1_ n2_ n3_ n4_ n5_ n6_; clear hb hbox hg) | ((with_reducible refine gate_dst (N := 4) rfl ?_); refine box_event ?hg (N := 4) ?hd (cs := #[.slice none 0 0, .slice none 0 0]) (t := 25) ?hr ?_; (case hd => rfl); (case hg => rfl); (case hr => first | (go_simp; done) | (go_simp; rfl)); intro gb339 hg w7 hbox hb; have n0_ := Aside0.mk (blk_below (g := gb337) (o := .cells #[.slice A0_0 l0_0.length c0_0, .slice A0_1 l0_1.length c0_1] 25 (0, 0)) (by (with_reducible repeat (first | refine blk_drewN ?_ _ | refine blk_drew ?_ | refine blk_alloc ?_ _)); exact BK337.out) hb); have n1_ := Aside0.mk (blk_below (g := gb338) (o := .cells #[.int .i64 a1_0, .int .i64 a1_1, .int .i64 a1_2, .string a1_3, .slice A1_4 l1_4.length c1_4, .slice A1_5 l1_5.length c1_5] 28 (0, 0)) (by (with_reducible repeat (first | refine blk_drewN ?_ _ | refine blk_drew ?_ | refine blk_alloc ?_ _)); exact BK338.out) hb); have n2_ := Aside0.mk (below_step (by repeat (first | (with_reducible first | exact HB.out | apply below_alloc | apply pw_below_drewN | apply below_drew1 | refine below_set ?_ GE337.out | refine below_set ?_ GE338.out) | exact HB.out)) hb); have n3_ := Aside0.mk (hbox); have n4_ := Aside0.mk ((by rw [hg]; exact (below_size (by repeat (first | (with_reducible first | exact HB.out | apply below_alloc | apply pw_below_drewN | apply below_drew1 | refine below_set ?_ GE337.out | refine below_set ?_ GE338.out) | exact HB.out))) : w.heap.size ≤ gb339)); have n5_ := Aside0.mk ((by rw [hg]; exact (below_size (by repeat (first | (with_reducible first | exact HB.out | apply below_alloc | apply pw_below_drewN | apply below_drew1 | refine below_set ?_ GE337.out | refine below_set ?_ GE338.out) | exact HB.out))) : w.heap.size ≤ gb339)); have n6_ := Aside0.mk ((by rw [hg]; exact Nat.ne_of_lt (blk_lt (g := gb337) (o := .cells #[.slice A0_0 l0_0.length c0_0, .slice A0_1 l0_1.length c0_1] 25 (0, 0)) (by (with_reducible repeat (first | refine blk_drewN ?_ _ | refine blk_drew ?_ | refine blk_alloc ?_ _)); exact BK337.out)) : gb337 ≠ gb339)); have n7_ := Aside0.mk ((by rw [hg]; exact Nat.ne_of_gt (blk_lt (g := gb337) (o := .cells #[.slice A0_0 l0_0.length c0_0, .slice A0_1 l0_1.length c0_1] 25 (0, 0)) (by (with_reducible repeat (first | refine blk_drewN ?_ _ | refine blk_drew ?_ | refine blk_alloc ?_ _)); exact BK337.out)) : gb339 ≠ gb337)); have n8_ := Aside0.mk ((by rw [hg]; exact Nat.ne_of_lt (blk_lt (g := gb338) (o := .cells #[.int .i64 a1_0, .int .i64 a1_1, .int .i64 a1_2, .string a1_3, .slice A1_4 l1_4.length c1_4, .slice A1_5 l1_5.length c1_5] 28 (0, 0)) (by (with_reducible repeat (first | refine blk_drewN ?_ _ | refine blk_drew ?_ | refine blk_alloc ?_ _)); exact BK338.out)) : gb338 ≠ gb339)); have n9_ := Aside0.mk ((by rw [hg]; exact Nat.ne_of_gt (blk_lt (g := gb338) (o := .cells #[.int .i64 a1_0, .int .i64 a1_1, .int .i64 a1_2, .string a1_3, .slice A1_4 l1_4.length c1_4, .slice A1_5 l1_5.length c1_5] 28 (0, 0)) (by (with_reducible repeat (first | refine blk_drewN ?_ _ | refine blk_drew ?_ | refine blk_alloc ?_ _)); exact BK338.out)) : gb339 ≠ gb338)); clear BK337; clear BK338; clear HB; have BK337 := n0_; have BK338 := n1_; have HB := n2_; have BK339 := n3_; have GW339 := n4_; have GE339 := n5_; have NB337_339 := n6_; have NB339_337 := n7_; have NB338_339 := n8_; have NB339_338 := n9_; clear n0_ n1_ n2_ n3_ n4_ n5_ n6_ n7_ n8_ n9_; clear hb hbox hg; have hnb8 := NB338_337.out; have hnc8 := NB337_338.out; have hnb9 := NB338_339.out; have hnc9 := NB339_338.out; have hcz10_0 : w7.cell? ⟨gb338, 0, none⟩ = some (.int .i64 a1_0) := (blk_cell BK338.out 0).trans rfl; have hcz10_1 : w7.cell? ⟨gb338, 1, none⟩ = some (.int .i64 a1_1) := (blk_cell BK338.out 1).trans rfl; have hcz10_2 : w7.cell? ⟨gb338, 2, none⟩ = some (.int .i64 a1_2) := (blk_cell BK338.out 2).trans rfl; have hcz10_3 : w7.cell? ⟨gb338, 3, none⟩ = some (.string a1_3) := (blk_cell BK338.out 3).trans rfl; have hcz10_4 : w7.cell? ⟨gb338, 4, none⟩ = some (.slice A1_4 l1_4.length c1_4) := (blk_cell BK338.out 4).trans rfl; have hcz10_5 : w7.cell? ⟨gb338, 5, none⟩ = some (.slice A1_5 l1_5.length c1_5) := (blk_cell BK338.out 5).trans rfl; have hfz10_0 := blk_frozen BK338.out 0; have hfz10_1 := blk_frozen BK338.out 1; have hfz10_2 := blk_frozen BK338.out 2; have hfz10_3 := blk_frozen BK338.out 3; have hfz10_4 := blk_frozen BK338.out 4; have hfz10_5 := blk_frozen BK338.out 5; have hnb11 := NB337_339.out; have hnc11 := NB339_337.out; have hcz12_0 : w7.cell? ⟨gb337, 0, none⟩ = some (.slice A0_0 l0_0.length c0_0) := (blk_cell BK337.out 0).trans rfl; have hcz12_1 : w7.cell? ⟨gb337, 1, none⟩ = some (.slice A0_1 l0_1.length c0_1) := (blk_cell BK337.out 1).trans rfl; have hfz12_0 := blk_frozen BK337.out 0; have hfz12_1 := blk_frozen BK337.out 1) | ((with_reducible refine gate_callee (f := 22) rfl ?_); refine goesL_ (some 17) rfl rfl Try.func22 (by kernel_rfl) rfl #[.agg #[.slice A0_0 l0_0.length c0_0, .slice A0_1 l0_1.length c0_1], .int .i64 a1_1, .string a1_3, .slice A1_4 l1_4.length c1_4] rfl (by (try simp only [List.map_toArray, List.map_cons, List.map_nil]); first | done | rfl | (simp only [List.length_drop, List.length_take]; rfl)) ?_; (with_reducible refine (edit_InsertCol.calls _ _ l0_0 _ _ l0_1 a1_1 a1_3 _ _ l1_4 t340 t343 t346 _ ?side1 ?side2 ?side3 ?side4 ?side5 ?side6 A4.out).mono ?_); (case side1 => repeat (first | exact (Kd.C_below HR0_0.out HB.out) | (with_reducible refine Kd.C_alloc ?_ _) | (with_reducible refine Kd.C_drewN ?_ _) | (with_reducible refine Kd.C_drew ?_))); (case side2 => exact HC0_0.out); (case side3 => repeat (first | exact (Kd.C_below HR0_1.out HB.out) | (with_reducible refine Kd.C_alloc ?_ _) | (with_reducible refine Kd.C_drewN ?_ _) | (with_reducible refine Kd.C_drew ?_))); (case side4 => exact HC0_1.out); (case side5 => repeat (first | exact (Kd.C_below HR1_4.out HB.out) | (with_reducible refine Kd.C_alloc ?_ _) | (with_reducible refine Kd.C_drewN ?_ _) | (with_reducible refine Kd.C_drew ?_))); (case side6 => exact HC1_4.out); rintro e w13 ⟨v341, v344, rfl, ho0, ho1, hb⟩; refine ⟨_, rfl, ?_⟩; have n0_ := Aside0.mk (Kd.R_lower ho0 (below_size (by repeat (first | (with_reducible first | exact HB.out | apply below_alloc | apply pw_below_drewN | apply below_drew1 | refine below_set ?_ GE337.out | refine below_set ?_ GE338.out | refine below_set ?_ GE339.out) | exact HB.out)))); have n1_ := Aside0.mk (Kd.S_lower ho1 (below_size (by repeat (first | (with_reducible first | exact HB.out | apply below_alloc | apply pw_below_drewN | apply below_drew1 | refine below_set ?_ GE337.out | refine below_set ?_ GE338.out | refine below_set ?_ GE339.out) | exact HB.out)))); have n2_ := Aside0.mk (blk_below (g := gb337) (o := .cells #[.slice A0_0 l0_0.length c0_0, .slice A0_1 l0_1.length c0_1] 25 (0, 0)) (by (with_reducible repeat (first | refine blk_drewN ?_ _ | refine blk_drew ?_ | refine blk_alloc ?_ _)); exact BK337.out) hb); have n3_ := Aside0.mk (blk_below (g := gb338) (o := .cells #[.int .i64 a1_0, .int .i64 a1_1, .int .i64 a1_2, .string a1_3, .slice A1_4 l1_4.length c1_4, .slice A1_5 l1_5.length c1_5] 28 (0, 0)) (by (with_reducible repeat (first | refine blk_drewN ?_ _ | refine blk_drew ?_ | refine blk_alloc ?_ _)); exact BK338.out) hb); have n4_ := Aside0.mk (blk_below (g := gb339) (o := .cells #[.slice none 0 0, .slice none 0 0] 25 (0, 0)) (by (with_reducible repeat (first | refine blk_drewN ?_ _ | refine blk_drew ?_ | refine blk_alloc ?_ _)); exact BK339.out) hb); have n5_ := Aside0.mk (below_step (by repeat (first | (with_reducible first | exact HB.out | apply below_alloc | apply pw_below_drewN | apply below_drew1 | refine below_set ?_ GE337.out | refine below_set ?_ GE338.out | refine below_set ?_ GE339.out) | exact HB.out)) hb); clear BK337; clear BK338; clear BK339; clear HB; have HO342 := n0_; have HO345 := n1_; have BK337 := n2_; have BK338 := n3_; have BK339 := n4_; have HB := n5_; clear n0_ n1_ n2_ n3_ n4_ n5_; (try clear hb); (try clear hb2); (try clear hk); (try clear hi); (try clear ho0); (try clear ho1); obtain ⟨Ao14, co14, eo14⟩ := Kd.R_slice HO342.out; subst eo14; have hcz15_0 : w13.cell? ⟨gb339, 0, none⟩ = some (.slice none 0 0) := (blk_cell BK339.out 0).trans rfl; have hcz15_1 : w13.cell? ⟨gb339, 1, none⟩ = some (.slice none 0 0) := (blk_cell BK339.out 1).trans rfl; have hfz15_0 := blk_frozen BK339.out 0; have hfz15_1 := blk_frozen BK339.out 1; obtain ⟨Ao16, co16, eo16⟩ := Kd.S_slice HO345.out; subst eo16))
  refine bodyPost_ret (results_ct rfl _ _ gb339 25 #[.slice Ao14 t340.length co14, .slice Ao16 t343.length co16] (0, 0) _ rfl (by (with_reducible repeat (first | refine blk_drewN ?_ _ | refine blk_drew ?_ | refine blk_alloc ?_ _)); refine blk_put (cs := #[.slice Ao14 t340.length co14, .slice none 0 0]) ?_ 1 _ rfl; (with_reducible repeat (first | refine blk_drewN ?_ _ | refine blk_drew ?_ | refine blk_alloc ?_ _)); refine blk_put (cs := #[.slice none 0 0, .slice none 0 0]) ?_ 0 _ rfl; (with_reducible repeat (first | refine blk_drewN ?_ _ | refine blk_drew ?_ | refine blk_alloc ?_ _)); exact BK339.out) Try.underlying25 rfl (by kernel_rfl)) rfl ?_
  exact ⟨_, _, by first | rfl | (simp [errW_none, errW_some] <;> rfl) | (simp [*, errW_none, errW_some] <;> rfl), by (with_reducible repeat (first | apply Kd.R_alloc | apply Kd.R_drewN | apply Kd.R_drew)); exact Kd.R_mono (Kd.R_far (p := ⟨gb339, 1, none⟩) (Kd.R_far (p := ⟨gb339, 0, none⟩) (Kd.R_types HO342.out BK339.out (by decide)) (fun _ hk => hk.2) (.slice Ao14 t340.length co14)) (fun _ hk => hk.2) (.slice Ao16 t343.length co16)) (fun _ hk => trivial), by (with_reducible repeat (first | apply Kd.S_alloc | apply Kd.S_drewN | apply Kd.S_drew)); exact Kd.S_mono (Kd.S_far (p := ⟨gb339, 1, none⟩) (Kd.S_far (p := ⟨gb339, 0, none⟩) (Kd.S_types HO345.out BK339.out (by decide)) (fun _ hk => hk.2) (.slice Ao14 t340.length co14)) (fun _ hk => hk.2) (.slice Ao16 t343.length co16)) (fun _ hk => hk.1), by repeat (first | (with_reducible first | exact HB.out | apply below_alloc | apply pw_below_drewN | apply below_drew1 | refine below_set ?_ GE337.out | refine below_set ?_ GE338.out | refine below_set ?_ GE339.out) | exact HB.out)⟩
 ·rw [if_neg c3] at H
  have c3b0 : (a1_0 == 0) = false := beq_eq_false_iff_ne.mpr c3
  have c3b1 : (a1_0 != 0) = true := bne_iff_ne.mpr c3
  by_cases c17 : a1_0 = 1
  ·rw [if_pos c17] at H
   have c17b0 : (a1_0 == 1) = true := beq_iff_eq.mpr c17
   have c17b1 : (a1_0 != 1) = false := bne_eq_false_iff_eq.mpr c17
   clear c17
   replace H := Option.bind_eq_some_iff.mp H
   obtain ⟨⟨t347, t350, t353⟩, A180, H⟩ := H
   replace H : (some (t347, t350, t353)) = some (r1, r2, r3) := H
   have A18 := Aside0.mk A180
   clear A180
   simp only [Option.some.injEq, Prod.mk.injEq] at H
   obtain ⟨rfl, rfl, rfl⟩ := H
   go_enter Try.func13, Try.ntmps13
   go_wp2_with (first | ((with_reducible refine gate_dst (N := 2) rfl ?_); refine box_event ?hg (N := 2) ?hd (cs := #[.slice A0_0 l0_0.length c0_0, .slice A0_1 l0_1.length c0_1]) (t := 25) ?hr ?_; (case hd => rfl); (case hg => rfl); (case hr => first | (go_simp; done) | (go_simp; rfl)); intro gb337 hg w19 hbox hb; have n0_ := Aside0.mk (below_step (by repeat (first | (with_reducible first | exact HB.out | apply below_alloc | apply pw_below_drewN | apply below_drew1) | exact HB.out)) hb); have n1_ := Aside0.mk (hbox); have n2_ := Aside0.mk ((by rw [hg]; exact (below_size (by repeat (first | (with_reducible first | exact HB.out | apply below_alloc | apply pw_below_drewN | apply below_drew1) | exact HB.out))) : w.heap.size ≤ gb337)); have n3_ := Aside0.mk ((by rw [hg]; exact (below_size (by repeat (first | (with_reducible first | exact HB.out | apply below_alloc | apply pw_below_drewN | apply below_drew1) | exact HB.out))) : w.heap.size ≤ gb337)); clear HB; have HB := n0_; have BK337 := n1_; have GW337 := n2_; have GE337 := n3_; clear n0_ n1_ n2_ n3_; clear hb hbox hg) | ((with_reducible refine gate_dst (N := 3) rfl ?_); refine box_event ?hg (N := 3) ?hd (cs := #[.int .i64 a1_0, .int .i64 a1_1, .int .i64 a1_2, .string a1_3, .slice A1_4 l1_4.length c1_4, .slice A1_5 l1_5.length c1_5]) (t := 28) ?hr ?_; (case hd => rfl); (case hg => rfl); (case hr => first | (go_simp; done) | (go_simp; rfl)); intro gb338 hg w20 hbox hb; have n0_ := Aside0.mk (blk_below (g := gb337) (o := .cells #[.slice A0_0 l0_0.length c0_0, .slice A0_1 l0_1.length c0_1] 25 (0, 0)) (by (with_reducible repeat (first | refine blk_drewN ?_ _ | refine blk_drew ?_ | refine blk_alloc ?_ _)); exact BK337.out) hb); have n1_ := Aside0.mk (below_step (by repeat (first | (with_reducible first | exact HB.out | apply below_alloc | apply pw_below_drewN | apply below_drew1 | refine below_set ?_ GE337.out) | exact HB.out)) hb); have n2_ := Aside0.mk (hbox); have n3_ := Aside0.mk ((by rw [hg]; exact (below_size (by repeat (first | (with_reducible first | exact HB.out | apply below_alloc | apply pw_below_drewN | apply below_drew1 | refine below_set ?_ GE337.out) | exact HB.out))) : w.heap.size ≤ gb338)); have n4_ := Aside0.mk ((by rw [hg]; exact (below_size (by repeat (first | (with_reducible first | exact HB.out | apply below_alloc | apply pw_below_drewN | apply below_drew1 | refine below_set ?_ GE337.out) | exact HB.out))) : w.heap.size ≤ gb338)); have n5_ := Aside0.mk ((by rw [hg]; exact Nat.ne_of_lt (blk_lt (g := gb337) (o := .cells #[.slice A0_0 l0_0.length c0_0, .slice A0_1 l0_1.length c0_1] 25 (0, 0)) (by (with_reducible repeat (first | refine blk_drewN ?_ _ | refine blk_drew ?_ | refine blk_alloc ?_ _)); exact BK337.out)) : gb337 ≠ gb338)); have n6_ := Aside0.mk ((by rw [hg]; exact Nat.ne_of_gt (blk_lt (g := gb337) (o := .cells #[.slice A0_0 l0_0.length c0_0, .slice A0_1 l0_1.length c0_1] 25 (0, 0)) (by (with_reducible repeat (first | refine blk_drewN ?_ _ | refine blk_drew ?_ | refine blk_alloc ?_ _)); exact BK337.out)) : gb338 ≠ gb337)); clear BK337; clear HB; have BK337 := n0_; have HB := n1_; have BK338 := n2_; have GW338 := n3_; have GE338 := n4_; have NB337_338 := n5_; have NB338_337 := n6_; clear n0_ n1_ n2_ n3_ n4_ n5_ n6_; clear hb hbox hg) | ((with_reducible refine gate_dst (N := 4) rfl ?_); refine box_event ?hg (N := 4) ?hd (cs := #[.slice none 0 0, .slice none 0 0]) (t := 25) ?hr ?_; (case hd => rfl); (case hg => rfl); (case hr => first | (go_simp; done) | (go_simp; rfl)); intro gb339 hg w21 hbox hb; have n0_ := Aside0.mk (blk_below (g := gb337) (o := .cells #[.slice A0_0 l0_0.length c0_0, .slice A0_1 l0_1.length c0_1] 25 (0, 0)) (by (with_reducible repeat (first | refine blk_drewN ?_ _ | refine blk_drew ?_ | refine blk_alloc ?_ _)); exact BK337.out) hb); have n1_ := Aside0.mk (blk_below (g := gb338) (o := .cells #[.int .i64 a1_0, .int .i64 a1_1, .int .i64 a1_2, .string a1_3, .slice A1_4 l1_4.length c1_4, .slice A1_5 l1_5.length c1_5] 28 (0, 0)) (by (with_reducible repeat (first | refine blk_drewN ?_ _ | refine blk_drew ?_ | refine blk_alloc ?_ _)); exact BK338.out) hb); have n2_ := Aside0.mk (below_step (by repeat (first | (with_reducible first | exact HB.out | apply below_alloc | apply pw_below_drewN | apply below_drew1 | refine below_set ?_ GE337.out | refine below_set ?_ GE338.out) | exact HB.out)) hb); have n3_ := Aside0.mk (hbox); have n4_ := Aside0.mk ((by rw [hg]; exact (below_size (by repeat (first | (with_reducible first | exact HB.out | apply below_alloc | apply pw_below_drewN | apply below_drew1 | refine below_set ?_ GE337.out | refine below_set ?_ GE338.out) | exact HB.out))) : w.heap.size ≤ gb339)); have n5_ := Aside0.mk ((by rw [hg]; exact (below_size (by repeat (first | (with_reducible first | exact HB.out | apply below_alloc | apply pw_below_drewN | apply below_drew1 | refine below_set ?_ GE337.out | refine below_set ?_ GE338.out) | exact HB.out))) : w.heap.size ≤ gb339)); have n6_ := Aside0.mk ((by rw [hg]; exact Nat.ne_of_lt (blk_lt (g := gb337) (o := .cells #[.slice A0_0 l0_0.length c0_0, .slice A0_1 l0_1.length c0_1] 25 (0, 0)) (by (with_reducible repeat (first | refine blk_drewN ?_ _ | refine blk_drew ?_ | refine blk_alloc ?_ _)); exact BK337.out)) : gb337 ≠ gb339)); have n7_ := Aside0.mk ((by rw [hg]; exact Nat.ne_of_gt (blk_lt (g := gb337) (o := .cells #[.slice A0_0 l0_0.length c0_0, .slice A0_1 l0_1.length c0_1] 25 (0, 0)) (by (with_reducible repeat (first | refine blk_drewN ?_ _ | refine blk_drew ?_ | refine blk_alloc ?_ _)); exact BK337.out)) : gb339 ≠ gb337)); have n8_ := Aside0.mk ((by rw [hg]; exact Nat.ne_of_lt (blk_lt (g := gb338) (o := .cells #[.int .i64 a1_0, .int .i64 a1_1, .int .i64 a1_2, .string a1_3, .slice A1_4 l1_4.length c1_4, .slice A1_5 l1_5.length c1_5] 28 (0, 0)) (by (with_reducible repeat (first | refine blk_drewN ?_ _ | refine blk_drew ?_ | refine blk_alloc ?_ _)); exact BK338.out)) : gb338 ≠ gb339)); have n9_ := Aside0.mk ((by rw [hg]; exact Nat.ne_of_gt (blk_lt (g := gb338) (o := .cells #[.int .i64 a1_0, .int .i64 a1_1, .int .i64 a1_2, .string a1_3, .slice A1_4 l1_4.length c1_4, .slice A1_5 l1_5.length c1_5] 28 (0, 0)) (by (with_reducible repeat (first | refine blk_drewN ?_ _ | refine blk_drew ?_ | refine blk_alloc ?_ _)); exact BK338.out)) : gb339 ≠ gb338)); clear BK337; clear BK338; clear HB; have BK337 := n0_; have BK338 := n1_; have HB := n2_; have BK339 := n3_; have GW339 := n4_; have GE339 := n5_; have NB337_339 := n6_; have NB339_337 := n7_; have NB338_339 := n8_; have NB339_338 := n9_; clear n0_ n1_ n2_ n3_ n4_ n5_ n6_ n7_ n8_ n9_; clear hb hbox hg; have hnb22 := NB338_337.out; have hnc22 := NB337_338.out; have hnb23 := NB338_339.out; have hnc23 := NB339_338.out; have hcz24_0 : w21.cell? ⟨gb338, 0, none⟩ = some (.int .i64 a1_0) := (blk_cell BK338.out 0).trans rfl; have hcz24_1 : w21.cell? ⟨gb338, 1, none⟩ = some (.int .i64 a1_1) := (blk_cell BK338.out 1).trans rfl; have hcz24_2 : w21.cell? ⟨gb338, 2, none⟩ = some (.int .i64 a1_2) := (blk_cell BK338.out 2).trans rfl; have hcz24_3 : w21.cell? ⟨gb338, 3, none⟩ = some (.string a1_3) := (blk_cell BK338.out 3).trans rfl; have hcz24_4 : w21.cell? ⟨gb338, 4, none⟩ = some (.slice A1_4 l1_4.length c1_4) := (blk_cell BK338.out 4).trans rfl; have hcz24_5 : w21.cell? ⟨gb338, 5, none⟩ = some (.slice A1_5 l1_5.length c1_5) := (blk_cell BK338.out 5).trans rfl; have hfz24_0 := blk_frozen BK338.out 0; have hfz24_1 := blk_frozen BK338.out 1; have hfz24_2 := blk_frozen BK338.out 2; have hfz24_3 := blk_frozen BK338.out 3; have hfz24_4 := blk_frozen BK338.out 4; have hfz24_5 := blk_frozen BK338.out 5; have hnb25 := NB337_339.out; have hnc25 := NB339_337.out; have hcz26_0 : w21.cell? ⟨gb337, 0, none⟩ = some (.slice A0_0 l0_0.length c0_0) := (blk_cell BK337.out 0).trans rfl; have hcz26_1 : w21.cell? ⟨gb337, 1, none⟩ = some (.slice A0_1 l0_1.length c0_1) := (blk_cell BK337.out 1).trans rfl; have hfz26_0 := blk_frozen BK337.out 0; have hfz26_1 := blk_frozen BK337.out 1) | ((with_reducible refine gate_callee (f := 23) rfl ?_); refine goesL_ (some 25) rfl rfl Try.func23 (by kernel_rfl) rfl #[.agg #[.slice A0_0 l0_0.length c0_0, .slice A0_1 l0_1.length c0_1], .int .i64 a1_1] rfl (by (try simp only [List.map_toArray, List.map_cons, List.map_nil]); first | done | rfl | (simp only [List.length_drop, List.length_take]; rfl)) ?_; (with_reducible refine (edit_DeleteCol.calls _ _ l0_0 _ _ l0_1 a1_1 t347 t350 t353 _ ?side1 ?side2 ?side3 ?side4 A18.out).mono ?_); (case side1 => repeat (first | exact (Kd.C_below HR0_0.out HB.out) | (with_reducible refine Kd.C_alloc ?_ _) | (with_reducible refine Kd.C_drewN ?_ _) | (with_reducible refine Kd.C_drew ?_))); (case side2 => exact HC0_0.out); (case side3 => repeat (first | exact (Kd.C_below HR0_1.out HB.out) | (with_reducible refine Kd.C_alloc ?_ _) | (with_reducible refine Kd.C_drewN ?_ _) | (with_reducible refine Kd.C_drew ?_))); (case side4 => exact HC0_1.out); rintro e w27 ⟨v348, v351, rfl, ho0, ho1, hb⟩; refine ⟨_, rfl, ?_⟩; have n0_ := Aside0.mk (Kd.R_lower ho0 (below_size (by repeat (first | (with_reducible first | exact HB.out | apply below_alloc | apply pw_below_drewN | apply below_drew1 | refine below_set ?_ GE337.out | refine below_set ?_ GE338.out | refine below_set ?_ GE339.out) | exact HB.out)))); have n1_ := Aside0.mk (Kd.S_lower ho1 (below_size (by repeat (first | (with_reducible first | exact HB.out | apply below_alloc | apply pw_below_drewN | apply below_drew1 | refine below_set ?_ GE337.out | refine below_set ?_ GE338.out | refine below_set ?_ GE339.out) | exact HB.out)))); have n2_ := Aside0.mk (blk_below (g := gb337) (o := .cells #[.slice A0_0 l0_0.length c0_0, .slice A0_1 l0_1.length c0_1] 25 (0, 0)) (by (with_reducible repeat (first | refine blk_drewN ?_ _ | refine blk_drew ?_ | refine blk_alloc ?_ _)); exact BK337.out) hb); have n3_ := Aside0.mk (blk_below (g := gb338) (o := .cells #[.int .i64 a1_0, .int .i64 a1_1, .int .i64 a1_2, .string a1_3, .slice A1_4 l1_4.length c1_4, .slice A1_5 l1_5.length c1_5] 28 (0, 0)) (by (with_reducible repeat (first | refine blk_drewN ?_ _ | refine blk_drew ?_ | refine blk_alloc ?_ _)); exact BK338.out) hb); have n4_ := Aside0.mk (blk_below (g := gb339) (o := .cells #[.slice none 0 0, .slice none 0 0] 25 (0, 0)) (by (with_reducible repeat (first | refine blk_drewN ?_ _ | refine blk_drew ?_ | refine blk_alloc ?_ _)); exact BK339.out) hb); have n5_ := Aside0.mk (below_step (by repeat (first | (with_reducible first | exact HB.out | apply below_alloc | apply pw_below_drewN | apply below_drew1 | refine below_set ?_ GE337.out | refine below_set ?_ GE338.out | refine below_set ?_ GE339.out) | exact HB.out)) hb); clear BK337; clear BK338; clear BK339; clear HB; have HO349 := n0_; have HO352 := n1_; have BK337 := n2_; have BK338 := n3_; have BK339 := n4_; have HB := n5_; clear n0_ n1_ n2_ n3_ n4_ n5_; (try clear hb); (try clear hb2); (try clear hk); (try clear hi); (try clear ho0); (try clear ho1); obtain ⟨Ao28, co28, eo28⟩ := Kd.R_slice HO349.out; subst eo28; have hcz29_0 : w27.cell? ⟨gb339, 0, none⟩ = some (.slice none 0 0) := (blk_cell BK339.out 0).trans rfl; have hcz29_1 : w27.cell? ⟨gb339, 1, none⟩ = some (.slice none 0 0) := (blk_cell BK339.out 1).trans rfl; have hfz29_0 := blk_frozen BK339.out 0; have hfz29_1 := blk_frozen BK339.out 1; obtain ⟨Ao30, co30, eo30⟩ := Kd.S_slice HO352.out; subst eo30))
   refine bodyPost_ret (results_ct rfl _ _ gb339 25 #[.slice Ao28 t347.length co28, .slice Ao30 t350.length co30] (0, 0) _ rfl (by (with_reducible repeat (first | refine blk_drewN ?_ _ | refine blk_drew ?_ | refine blk_alloc ?_ _)); refine blk_put (cs := #[.slice Ao28 t347.length co28, .slice none 0 0]) ?_ 1 _ rfl; (with_reducible repeat (first | refine blk_drewN ?_ _ | refine blk_drew ?_ | refine blk_alloc ?_ _)); refine blk_put (cs := #[.slice none 0 0, .slice none 0 0]) ?_ 0 _ rfl; (with_reducible repeat (first | refine blk_drewN ?_ _ | refine blk_drew ?_ | refine blk_alloc ?_ _)); exact BK339.out) Try.underlying25 rfl (by kernel_rfl)) rfl ?_
   exact ⟨_, _, by first | rfl | (simp [errW_none, errW_some] <;> rfl) | (simp [*, errW_none, errW_some] <;> rfl), by (with_reducible repeat (first | apply Kd.R_alloc | apply Kd.R_drewN | apply Kd.R_drew)); exact Kd.R_mono (Kd.R_far (p := ⟨gb339, 1, none⟩) (Kd.R_far (p := ⟨gb339, 0, none⟩) (Kd.R_types HO349.out BK339.out (by decide)) (fun _ hk => hk.2) (.slice Ao28 t347.length co28)) (fun _ hk => hk.2) (.slice Ao30 t350.length co30)) (fun _ hk => trivial), by (with_reducible repeat (first | apply Kd.S_alloc | apply Kd.S_drewN | apply Kd.S_drew)); exact Kd.S_mono (Kd.S_far (p := ⟨gb339, 1, none⟩) (Kd.S_far (p := ⟨gb339, 0, none⟩) (Kd.S_types HO352.out BK339.out (by decide)) (fun _ hk => hk.2) (.slice Ao28 t347.length co28)) (fun _ hk => hk.2) (.slice Ao30 t350.length co30)) (fun _ hk => hk.1), by repeat (first | (with_reducible first | exact HB.out | apply below_alloc | apply pw_below_drewN | apply below_drew1 | refine below_set ?_ GE337.out | refine below_set ?_ GE338.out | refine below_set ?_ GE339.out) | exact HB.out)⟩
  ·rw [if_neg c17] at H
   have c17b0 : (a1_0 == 1) = false := beq_eq_false_iff_ne.mpr c17
   have c17b1 : (a1_0 != 1) = true := bne_iff_ne.mpr c17
   by_cases c31 : a1_0 = 2
   ·rw [if_pos c31] at H
    have c31b0 : (a1_0 == 2) = true := beq_iff_eq.mpr c31
    have c31b1 : (a1_0 != 2) = false := bne_eq_false_iff_eq.mpr c31
    clear c31
    replace H := Option.bind_eq_some_iff.mp H
    obtain ⟨⟨t354, t357, t360⟩, A320, H⟩ := H
    replace H : (some (t354, t357, t360)) = some (r1, r2, r3) := H
    have A32 := Aside0.mk A320
    clear A320
    simp only [Option.some.injEq, Prod.mk.injEq] at H
    obtain ⟨rfl, rfl, rfl⟩ := H
    go_enter Try.func13, Try.ntmps13
    go_wp2_with (first | ((with_reducible refine gate_dst (N := 2) rfl ?_); refine box_event ?hg (N := 2) ?hd (cs := #[.slice A0_0 l0_0.length c0_0, .slice A0_1 l0_1.length c0_1]) (t := 25) ?hr ?_; (case hd => rfl); (case hg => rfl); (case hr => first | (go_simp; done) | (go_simp; rfl)); intro gb337 hg w33 hbox hb; have n0_ := Aside0.mk (below_step (by repeat (first | (with_reducible first | exact HB.out | apply below_alloc | apply pw_below_drewN | apply below_drew1) | exact HB.out)) hb); have n1_ := Aside0.mk (hbox); have n2_ := Aside0.mk ((by rw [hg]; exact (below_size (by repeat (first | (with_reducible first | exact HB.out | apply below_alloc | apply pw_below_drewN | apply below_drew1) | exact HB.out))) : w.heap.size ≤ gb337)); have n3_ := Aside0.mk ((by rw [hg]; exact (below_size (by repeat (first | (with_reducible first | exact HB.out | apply below_alloc | apply pw_below_drewN | apply below_drew1) | exact HB.out))) : w.heap.size ≤ gb337)); clear HB; have HB := n0_; have BK337 := n1_; have GW337 := n2_; have GE337 := n3_; clear n0_ n1_ n2_ n3_; clear hb hbox hg) | ((with_reducible refine gate_dst (N := 3) rfl ?_); refine box_event ?hg (N := 3) ?hd (cs := #[.int .i64 a1_0, .int .i64 a1_1, .int .i64 a1_2, .string a1_3, .slice A1_4 l1_4.length c1_4, .slice A1_5 l1_5.length c1_5]) (t := 28) ?hr ?_; (case hd => rfl); (case hg => rfl); (case hr => first | (go_simp; done) | (go_simp; rfl)); intro gb338 hg w34 hbox hb; have n0_ := Aside0.mk (blk_below (g := gb337) (o := .cells #[.slice A0_0 l0_0.length c0_0, .slice A0_1 l0_1.length c0_1] 25 (0, 0)) (by (with_reducible repeat (first | refine blk_drewN ?_ _ | refine blk_drew ?_ | refine blk_alloc ?_ _)); exact BK337.out) hb); have n1_ := Aside0.mk (below_step (by repeat (first | (with_reducible first | exact HB.out | apply below_alloc | apply pw_below_drewN | apply below_drew1 | refine below_set ?_ GE337.out) | exact HB.out)) hb); have n2_ := Aside0.mk (hbox); have n3_ := Aside0.mk ((by rw [hg]; exact (below_size (by repeat (first | (with_reducible first | exact HB.out | apply below_alloc | apply pw_below_drewN | apply below_drew1 | refine below_set ?_ GE337.out) | exact HB.out))) : w.heap.size ≤ gb338)); have n4_ := Aside0.mk ((by rw [hg]; exact (below_size (by repeat (first | (with_reducible first | exact HB.out | apply below_alloc | apply pw_below_drewN | apply below_drew1 | refine below_set ?_ GE337.out) | exact HB.out))) : w.heap.size ≤ gb338)); have n5_ := Aside0.mk ((by rw [hg]; exact Nat.ne_of_lt (blk_lt (g := gb337) (o := .cells #[.slice A0_0 l0_0.length c0_0, .slice A0_1 l0_1.length c0_1] 25 (0, 0)) (by (with_reducible repeat (first | refine blk_drewN ?_ _ | refine blk_drew ?_ | refine blk_alloc ?_ _)); exact BK337.out)) : gb337 ≠ gb338)); have n6_ := Aside0.mk ((by rw [hg]; exact Nat.ne_of_gt (blk_lt (g := gb337) (o := .cells #[.slice A0_0 l0_0.length c0_0, .slice A0_1 l0_1.length c0_1] 25 (0, 0)) (by (with_reducible repeat (first | refine blk_drewN ?_ _ | refine blk_drew ?_ | refine blk_alloc ?_ _)); exact BK337.out)) : gb338 ≠ gb337)); clear BK337; clear HB; have BK337 := n0_; have HB := n1_; have BK338 := n2_; have GW338 := n3_; have GE338 := n4_; have NB337_338 := n5_; have NB338_337 := n6_; clear n0_ n1_ n2_ n3_ n4_ n5_ n6_; clear hb hbox hg) | ((with_reducible refine gate_dst (N := 4) rfl ?_); refine box_event ?hg (N := 4) ?hd (cs := #[.slice none 0 0, .slice none 0 0]) (t := 25) ?hr ?_; (case hd => rfl); (case hg => rfl); (case hr => first | (go_simp; done) | (go_simp; rfl)); intro gb339 hg w35 hbox hb; have n0_ := Aside0.mk (blk_below (g := gb337) (o := .cells #[.slice A0_0 l0_0.length c0_0, .slice A0_1 l0_1.length c0_1] 25 (0, 0)) (by (with_reducible repeat (first | refine blk_drewN ?_ _ | refine blk_drew ?_ | refine blk_alloc ?_ _)); exact BK337.out) hb); have n1_ := Aside0.mk (blk_below (g := gb338) (o := .cells #[.int .i64 a1_0, .int .i64 a1_1, .int .i64 a1_2, .string a1_3, .slice A1_4 l1_4.length c1_4, .slice A1_5 l1_5.length c1_5] 28 (0, 0)) (by (with_reducible repeat (first | refine blk_drewN ?_ _ | refine blk_drew ?_ | refine blk_alloc ?_ _)); exact BK338.out) hb); have n2_ := Aside0.mk (below_step (by repeat (first | (with_reducible first | exact HB.out | apply below_alloc | apply pw_below_drewN | apply below_drew1 | refine below_set ?_ GE337.out | refine below_set ?_ GE338.out) | exact HB.out)) hb); have n3_ := Aside0.mk (hbox); have n4_ := Aside0.mk ((by rw [hg]; exact (below_size (by repeat (first | (with_reducible first | exact HB.out | apply below_alloc | apply pw_below_drewN | apply below_drew1 | refine below_set ?_ GE337.out | refine below_set ?_ GE338.out) | exact HB.out))) : w.heap.size ≤ gb339)); have n5_ := Aside0.mk ((by rw [hg]; exact (below_size (by repeat (first | (with_reducible first | exact HB.out | apply below_alloc | apply pw_below_drewN | apply below_drew1 | refine below_set ?_ GE337.out | refine below_set ?_ GE338.out) | exact HB.out))) : w.heap.size ≤ gb339)); have n6_ := Aside0.mk ((by rw [hg]; exact Nat.ne_of_lt (blk_lt (g := gb337) (o := .cells #[.slice A0_0 l0_0.length c0_0, .slice A0_1 l0_1.length c0_1] 25 (0, 0)) (by (with_reducible repeat (first | refine blk_drewN ?_ _ | refine blk_drew ?_ | refine blk_alloc ?_ _)); exact BK337.out)) : gb337 ≠ gb339)); have n7_ := Aside0.mk ((by rw [hg]; exact Nat.ne_of_gt (blk_lt (g := gb337) (o := .cells #[.slice A0_0 l0_0.length c0_0, .slice A0_1 l0_1.length c0_1] 25 (0, 0)) (by (with_reducible repeat (first | refine blk_drewN ?_ _ | refine blk_drew ?_ | refine blk_alloc ?_ _)); exact BK337.out)) : gb339 ≠ gb337)); have n8_ := Aside0.mk ((by rw [hg]; exact Nat.ne_of_lt (blk_lt (g := gb338) (o := .cells #[.int .i64 a1_0, .int .i64 a1_1, .int .i64 a1_2, .string a1_3, .slice A1_4 l1_4.length c1_4, .slice A1_5 l1_5.length c1_5] 28 (0, 0)) (by (with_reducible repeat (first | refine blk_drewN ?_ _ | refine blk_drew ?_ | refine blk_alloc ?_ _)); exact BK338.out)) : gb338 ≠ gb339)); have n9_ := Aside0.mk ((by rw [hg]; exact Nat.ne_of_gt (blk_lt (g := gb338) (o := .cells #[.int .i64 a1_0, .int .i64 a1_1, .int .i64 a1_2, .string a1_3, .slice A1_4 l1_4.length c1_4, .slice A1_5 l1_5.length c1_5] 28 (0, 0)) (by (with_reducible repeat (first | refine blk_drewN ?_ _ | refine blk_drew ?_ | refine blk_alloc ?_ _)); exact BK338.out)) : gb339 ≠ gb338)); clear BK337; clear BK338; clear HB; have BK337 := n0_; have BK338 := n1_; have HB := n2_; have BK339 := n3_; have GW339 := n4_; have GE339 := n5_; have NB337_339 := n6_; have NB339_337 := n7_; have NB338_339 := n8_; have NB339_338 := n9_; clear n0_ n1_ n2_ n3_ n4_ n5_ n6_ n7_ n8_ n9_; clear hb hbox hg; have hnb36 := NB338_337.out; have hnc36 := NB337_338.out; have hnb37 := NB338_339.out; have hnc37 := NB339_338.out; have hcz38_0 : w35.cell? ⟨gb338, 0, none⟩ = some (.int .i64 a1_0) := (blk_cell BK338.out 0).trans rfl; have hcz38_1 : w35.cell? ⟨gb338, 1, none⟩ = some (.int .i64 a1_1) := (blk_cell BK338.out 1).trans rfl; have hcz38_2 : w35.cell? ⟨gb338, 2, none⟩ = some (.int .i64 a1_2) := (blk_cell BK338.out 2).trans rfl; have hcz38_3 : w35.cell? ⟨gb338, 3, none⟩ = some (.string a1_3) := (blk_cell BK338.out 3).trans rfl; have hcz38_4 : w35.cell? ⟨gb338, 4, none⟩ = some (.slice A1_4 l1_4.length c1_4) := (blk_cell BK338.out 4).trans rfl; have hcz38_5 : w35.cell? ⟨gb338, 5, none⟩ = some (.slice A1_5 l1_5.length c1_5) := (blk_cell BK338.out 5).trans rfl; have hfz38_0 := blk_frozen BK338.out 0; have hfz38_1 := blk_frozen BK338.out 1; have hfz38_2 := blk_frozen BK338.out 2; have hfz38_3 := blk_frozen BK338.out 3; have hfz38_4 := blk_frozen BK338.out 4; have hfz38_5 := blk_frozen BK338.out 5; have hnb39 := NB337_339.out; have hnc39 := NB339_337.out; have hcz40_0 : w35.cell? ⟨gb337, 0, none⟩ = some (.slice A0_0 l0_0.length c0_0) := (blk_cell BK337.out 0).trans rfl; have hcz40_1 : w35.cell? ⟨gb337, 1, none⟩ = some (.slice A0_1 l0_1.length c0_1) := (blk_cell BK337.out 1).trans rfl; have hfz40_0 := blk_frozen BK337.out 0; have hfz40_1 := blk_frozen BK337.out 1) | ((with_reducible refine gate_callee (f := 27) rfl ?_); refine goesL_ (some 35) rfl rfl Try.func27 (by kernel_rfl) rfl #[.agg #[.slice A0_0 l0_0.length c0_0, .slice A0_1 l0_1.length c0_1], .int .i64 a1_1, .string a1_3] rfl (by (try simp only [List.map_toArray, List.map_cons, List.map_nil]); first | done | rfl | (simp only [List.length_drop, List.length_take]; rfl)) ?_; (with_reducible refine (edit_RenameCol.calls _ _ l0_0 _ _ l0_1 a1_1 a1_3 t354 t357 t360 _ ?side1 ?side2 ?side3 ?side4 A32.out).mono ?_); (case side1 => repeat (first | exact (Kd.C_below HR0_0.out HB.out) | (with_reducible refine Kd.C_alloc ?_ _) | (with_reducible refine Kd.C_drewN ?_ _) | (with_reducible refine Kd.C_drew ?_))); (case side2 => exact HC0_0.out); (case side3 => repeat (first | exact (Kd.C_below HR0_1.out HB.out) | (with_reducible refine Kd.C_alloc ?_ _) | (with_reducible refine Kd.C_drewN ?_ _) | (with_reducible refine Kd.C_drew ?_))); (case side4 => exact HC0_1.out); rintro e w41 ⟨v355, v358, rfl, ho0, ho1, hb⟩; refine ⟨_, rfl, ?_⟩; have n0_ := Aside0.mk (Kd.R_lower ho0 (below_size (by repeat (first | (with_reducible first | exact HB.out | apply below_alloc | apply pw_below_drewN | apply below_drew1 | refine below_set ?_ GE337.out | refine below_set ?_ GE338.out | refine below_set ?_ GE339.out) | exact HB.out)))); have n1_ := Aside0.mk (Kd.S_lower ho1 (below_size (by repeat (first | (with_reducible first | exact HB.out | apply below_alloc | apply pw_below_drewN | apply below_drew1 | refine below_set ?_ GE337.out | refine below_set ?_ GE338.out | refine below_set ?_ GE339.out) | exact HB.out)))); have n2_ := Aside0.mk (blk_below (g := gb337) (o := .cells #[.slice A0_0 l0_0.length c0_0, .slice A0_1 l0_1.length c0_1] 25 (0, 0)) (by (with_reducible repeat (first | refine blk_drewN ?_ _ | refine blk_drew ?_ | refine blk_alloc ?_ _)); exact BK337.out) hb); have n3_ := Aside0.mk (blk_below (g := gb338) (o := .cells #[.int .i64 a1_0, .int .i64 a1_1, .int .i64 a1_2, .string a1_3, .slice A1_4 l1_4.length c1_4, .slice A1_5 l1_5.length c1_5] 28 (0, 0)) (by (with_reducible repeat (first | refine blk_drewN ?_ _ | refine blk_drew ?_ | refine blk_alloc ?_ _)); exact BK338.out) hb); have n4_ := Aside0.mk (blk_below (g := gb339) (o := .cells #[.slice none 0 0, .slice none 0 0] 25 (0, 0)) (by (with_reducible repeat (first | refine blk_drewN ?_ _ | refine blk_drew ?_ | refine blk_alloc ?_ _)); exact BK339.out) hb); have n5_ := Aside0.mk (below_step (by repeat (first | (with_reducible first | exact HB.out | apply below_alloc | apply pw_below_drewN | apply below_drew1 | refine below_set ?_ GE337.out | refine below_set ?_ GE338.out | refine below_set ?_ GE339.out) | exact HB.out)) hb); clear BK337; clear BK338; clear BK339; clear HB; have HO356 := n0_; have HO359 := n1_; have BK337 := n2_; have BK338 := n3_; have BK339 := n4_; have HB := n5_; clear n0_ n1_ n2_ n3_ n4_ n5_; (try clear hb); (try clear hb2); (try clear hk); (try clear hi); (try clear ho0); (try clear ho1); obtain ⟨Ao42, co42, eo42⟩ := Kd.R_slice HO356.out; subst eo42; have hcz43_0 : w41.cell? ⟨gb339, 0, none⟩ = some (.slice none 0 0) := (blk_cell BK339.out 0).trans rfl; have hcz43_1 : w41.cell? ⟨gb339, 1, none⟩ = some (.slice none 0 0) := (blk_cell BK339.out 1).trans rfl; have hfz43_0 := blk_frozen BK339.out 0; have hfz43_1 := blk_frozen BK339.out 1; obtain ⟨Ao44, co44, eo44⟩ := Kd.S_slice HO359.out; subst eo44))
    refine bodyPost_ret (results_ct rfl _ _ gb339 25 #[.slice Ao42 t354.length co42, .slice Ao44 t357.length co44] (0, 0) _ rfl (by (with_reducible repeat (first | refine blk_drewN ?_ _ | refine blk_drew ?_ | refine blk_alloc ?_ _)); refine blk_put (cs := #[.slice Ao42 t354.length co42, .slice none 0 0]) ?_ 1 _ rfl; (with_reducible repeat (first | refine blk_drewN ?_ _ | refine blk_drew ?_ | refine blk_alloc ?_ _)); refine blk_put (cs := #[.slice none 0 0, .slice none 0 0]) ?_ 0 _ rfl; (with_reducible repeat (first | refine blk_drewN ?_ _ | refine blk_drew ?_ | refine blk_alloc ?_ _)); exact BK339.out) Try.underlying25 rfl (by kernel_rfl)) rfl ?_
    exact ⟨_, _, by first | rfl | (simp [errW_none, errW_some] <;> rfl) | (simp [*, errW_none, errW_some] <;> rfl), by (with_reducible repeat (first | apply Kd.R_alloc | apply Kd.R_drewN | apply Kd.R_drew)); exact Kd.R_mono (Kd.R_far (p := ⟨gb339, 1, none⟩) (Kd.R_far (p := ⟨gb339, 0, none⟩) (Kd.R_types HO356.out BK339.out (by decide)) (fun _ hk => hk.2) (.slice Ao42 t354.length co42)) (fun _ hk => hk.2) (.slice Ao44 t357.length co44)) (fun _ hk => trivial), by (with_reducible repeat (first | apply Kd.S_alloc | apply Kd.S_drewN | apply Kd.S_drew)); exact Kd.S_mono (Kd.S_far (p := ⟨gb339, 1, none⟩) (Kd.S_far (p := ⟨gb339, 0, none⟩) (Kd.S_types HO359.out BK339.out (by decide)) (fun _ hk => hk.2) (.slice Ao42 t354.length co42)) (fun _ hk => hk.2) (.slice Ao44 t357.length co44)) (fun _ hk => hk.1), by repeat (first | (with_reducible first | exact HB.out | apply below_alloc | apply pw_below_drewN | apply below_drew1 | refine below_set ?_ GE337.out | refine below_set ?_ GE338.out | refine below_set ?_ GE339.out) | exact HB.out)⟩
   ·rw [if_neg c31] at H
    have c31b0 : (a1_0 == 2) = false := beq_eq_false_iff_ne.mpr c31
    have c31b1 : (a1_0 != 2) = true := bne_iff_ne.mpr c31
    by_cases c45 : a1_0 = 3
    ·rw [if_pos c45] at H
     have c45b0 : (a1_0 == 3) = true := beq_iff_eq.mpr c45
     have c45b1 : (a1_0 != 3) = false := bne_eq_false_iff_eq.mpr c45
     clear c45
     replace H := Option.bind_eq_some_iff.mp H
     obtain ⟨⟨t361, t364, t367⟩, A460, H⟩ := H
     replace H : (some (t361, t364, t367)) = some (r1, r2, r3) := H
     have A46 := Aside0.mk A460
     clear A460
     simp only [Option.some.injEq, Prod.mk.injEq] at H
     obtain ⟨rfl, rfl, rfl⟩ := H
     go_enter Try.func13, Try.ntmps13
     go_wp2_with (first | ((with_reducible refine gate_dst (N := 2) rfl ?_); refine box_event ?hg (N := 2) ?hd (cs := #[.slice A0_0 l0_0.length c0_0, .slice A0_1 l0_1.length c0_1]) (t := 25) ?hr ?_; (case hd => rfl); (case hg => rfl); (case hr => first | (go_simp; done) | (go_simp; rfl)); intro gb337 hg w47 hbox hb; have n0_ := Aside0.mk (below_step (by repeat (first | (with_reducible first | exact HB.out | apply below_alloc | apply pw_below_drewN | apply below_drew1) | exact HB.out)) hb); have n1_ := Aside0.mk (hbox); have n2_ := Aside0.mk ((by rw [hg]; exact (below_size (by repeat (first | (with_reducible first | exact HB.out | apply below_alloc | apply pw_below_drewN | apply below_drew1) | exact HB.out))) : w.heap.size ≤ gb337)); have n3_ := Aside0.mk ((by rw [hg]; exact (below_size (by repeat (first | (with_reducible first | exact HB.out | apply below_alloc | apply pw_below_drewN | apply below_drew1) | exact HB.out))) : w.heap.size ≤ gb337)); clear HB; have HB := n0_; have BK337 := n1_; have GW337 := n2_; have GE337 := n3_; clear n0_ n1_ n2_ n3_; clear hb hbox hg) | ((with_reducible refine gate_dst (N := 3) rfl ?_); refine box_event ?hg (N := 3) ?hd (cs := #[.int .i64 a1_0, .int .i64 a1_1, .int .i64 a1_2, .string a1_3, .slice A1_4 l1_4.length c1_4, .slice A1_5 l1_5.length c1_5]) (t := 28) ?hr ?_; (case hd => rfl); (case hg => rfl); (case hr => first | (go_simp; done) | (go_simp; rfl)); intro gb338 hg w48 hbox hb; have n0_ := Aside0.mk (blk_below (g := gb337) (o := .cells #[.slice A0_0 l0_0.length c0_0, .slice A0_1 l0_1.length c0_1] 25 (0, 0)) (by (with_reducible repeat (first | refine blk_drewN ?_ _ | refine blk_drew ?_ | refine blk_alloc ?_ _)); exact BK337.out) hb); have n1_ := Aside0.mk (below_step (by repeat (first | (with_reducible first | exact HB.out | apply below_alloc | apply pw_below_drewN | apply below_drew1 | refine below_set ?_ GE337.out) | exact HB.out)) hb); have n2_ := Aside0.mk (hbox); have n3_ := Aside0.mk ((by rw [hg]; exact (below_size (by repeat (first | (with_reducible first | exact HB.out | apply below_alloc | apply pw_below_drewN | apply below_drew1 | refine below_set ?_ GE337.out) | exact HB.out))) : w.heap.size ≤ gb338)); have n4_ := Aside0.mk ((by rw [hg]; exact (below_size (by repeat (first | (with_reducible first | exact HB.out | apply below_alloc | apply pw_below_drewN | apply below_drew1 | refine below_set ?_ GE337.out) | exact HB.out))) : w.heap.size ≤ gb338)); have n5_ := Aside0.mk ((by rw [hg]; exact Nat.ne_of_lt (blk_lt (g := gb337) (o := .cells #[.slice A0_0 l0_0.length c0_0, .slice A0_1 l0_1.length c0_1] 25 (0, 0)) (by (with_reducible repeat (first | refine blk_drewN ?_ _ | refine blk_drew ?_ | refine blk_alloc ?_ _)); exact BK337.out)) : gb337 ≠ gb338)); have n6_ := Aside0.mk ((by rw [hg]; exact Nat.ne_of_gt (blk_lt (g := gb337) (o := .cells #[.slice A0_0 l0_0.length c0_0, .slice A0_1 l0_1.length c0_1] 25 (0, 0)) (by (with_reducible repeat (first | refine blk_drewN ?_ _ | refine blk_drew ?_ | refine blk_alloc ?_ _)); exact BK337.out)) : gb338 ≠ gb337)); clear BK337; clear HB; have BK337 := n0_; have HB := n1_; have BK338 := n2_; have GW338 := n3_; have GE338 := n4_; have NB337_338 := n5_; have NB338_337 := n6_; clear n0_ n1_ n2_ n3_ n4_ n5_ n6_; clear hb hbox hg) | ((with_reducible refine gate_dst (N := 4) rfl ?_); refine box_event ?hg (N := 4) ?hd (cs := #[.slice none 0 0, .slice none 0 0]) (t := 25) ?hr ?_; (case hd => rfl); (case hg => rfl); (case hr => first | (go_simp; done) | (go_simp; rfl)); intro gb339 hg w49 hbox hb; have n0_ := Aside0.mk (blk_below (g := gb337) (o := .cells #[.slice A0_0 l0_0.length c0_0, .slice A0_1 l0_1.length c0_1] 25 (0, 0)) (by (with_reducible repeat (first | refine blk_drewN ?_ _ | refine blk_drew ?_ | refine blk_alloc ?_ _)); exact BK337.out) hb); have n1_ := Aside0.mk (blk_below (g := gb338) (o := .cells #[.int .i64 a1_0, .int .i64 a1_1, .int .i64 a1_2, .string a1_3, .slice A1_4 l1_4.length c1_4, .slice A1_5 l1_5.length c1_5] 28 (0, 0)) (by (with_reducible repeat (first | refine blk_drewN ?_ _ | refine blk_drew ?_ | refine blk_alloc ?_ _)); exact BK338.out) hb); have n2_ := Aside0.mk (below_step (by repeat (first | (with_reducible first | exact HB.out | apply below_alloc | apply pw_below_drewN | apply below_drew1 | refine below_set ?_ GE337.out | refine below_set ?_ GE338.out) | exact HB.out)) hb); have n3_ := Aside0.mk (hbox); have n4_ := Aside0.mk ((by rw [hg]; exact (below_size (by repeat (first | (with_reducible first | exact HB.out | apply below_alloc | apply pw_below_drewN | apply below_drew1 | refine below_set ?_ GE337.out | refine below_set ?_ GE338.out) | exact HB.out))) : w.heap.size ≤ gb339)); have n5_ := Aside0.mk ((by rw [hg]; exact (below_size (by repeat (first | (with_reducible first | exact HB.out | apply below_alloc | apply pw_below_drewN | apply below_drew1 | refine below_set ?_ GE337.out | refine below_set ?_ GE338.out) | exact HB.out))) : w.heap.size ≤ gb339)); have n6_ := Aside0.mk ((by rw [hg]; exact Nat.ne_of_lt (blk_lt (g := gb337) (o := .cells #[.slice A0_0 l0_0.length c0_0, .slice A0_1 l0_1.length c0_1] 25 (0, 0)) (by (with_reducible repeat (first | refine blk_drewN ?_ _ | refine blk_drew ?_ | refine blk_alloc ?_ _)); exact BK337.out)) : gb337 ≠ gb339)); have n7_ := Aside0.mk ((by rw [hg]; exact Nat.ne_of_gt (blk_lt (g := gb337) (o := .cells #[.slice A0_0 l0_0.length c0_0, .slice A0_1 l0_1.length c0_1] 25 (0, 0)) (by (with_reducible repeat (first | refine blk_drewN ?_ _ | refine blk_drew ?_ | refine blk_alloc ?_ _)); exact BK337.out)) : gb339 ≠ gb337)); have n8_ := Aside0.mk ((by rw [hg]; exact Nat.ne_of_lt (blk_lt (g := gb338) (o := .cells #[.int .i64 a1_0, .int .i64 a1_1, .int .i64 a1_2, .string a1_3, .slice A1_4 l1_4.length c1_4, .slice A1_5 l1_5.length c1_5] 28 (0, 0)) (by (with_reducible repeat (first | refine blk_drewN ?_ _ | refine blk_drew ?_ | refine blk_alloc ?_ _)); exact BK338.out)) : gb338 ≠ gb339)); have n9_ := Aside0.mk ((by rw [hg]; exact Nat.ne_of_gt (blk_lt (g := gb338) (o := .cells #[.int .i64 a1_0, .int .i64 a1_1, .int .i64 a1_2, .string a1_3, .slice A1_4 l1_4.length c1_4, .slice A1_5 l1_5.length c1_5] 28 (0, 0)) (by (with_reducible repeat (first | refine blk_drewN ?_ _ | refine blk_drew ?_ | refine blk_alloc ?_ _)); exact BK338.out)) : gb339 ≠ gb338)); clear BK337; clear BK338; clear HB; have BK337 := n0_; have BK338 := n1_; have HB := n2_; have BK339 := n3_; have GW339 := n4_; have GE339 := n5_; have NB337_339 := n6_; have NB339_337 := n7_; have NB338_339 := n8_; have NB339_338 := n9_; clear n0_ n1_ n2_ n3_ n4_ n5_ n6_ n7_ n8_ n9_; clear hb hbox hg; have hnb50 := NB338_337.out; have hnc50 := NB337_338.out; have hnb51 := NB338_339.out; have hnc51 := NB339_338.out; have hcz52_0 : w49.cell? ⟨gb338, 0, none⟩ = some (.int .i64 a1_0) := (blk_cell BK338.out 0).trans rfl; have hcz52_1 : w49.cell? ⟨gb338, 1, none⟩ = some (.int .i64 a1_1) := (blk_cell BK338.out 1).trans rfl; have hcz52_2 : w49.cell? ⟨gb338, 2, none⟩ = some (.int .i64 a1_2) := (blk_cell BK338.out 2).trans rfl; have hcz52_3 : w49.cell? ⟨gb338, 3, none⟩ = some (.string a1_3) := (blk_cell BK338.out 3).trans rfl; have hcz52_4 : w49.cell? ⟨gb338, 4, none⟩ = some (.slice A1_4 l1_4.length c1_4) := (blk_cell BK338.out 4).trans rfl; have hcz52_5 : w49.cell? ⟨gb338, 5, none⟩ = some (.slice A1_5 l1_5.length c1_5) := (blk_cell BK338.out 5).trans rfl; have hfz52_0 := blk_frozen BK338.out 0; have hfz52_1 := blk_frozen BK338.out 1; have hfz52_2 := blk_frozen BK338.out 2; have hfz52_3 := blk_frozen BK338.out 3; have hfz52_4 := blk_frozen BK338.out 4; have hfz52_5 := blk_frozen BK338.out 5; have hnb53 := NB337_339.out; have hnc53 := NB339_337.out; have hcz54_0 : w49.cell? ⟨gb337, 0, none⟩ = some (.slice A0_0 l0_0.length c0_0) := (blk_cell BK337.out 0).trans rfl; have hcz54_1 : w49.cell? ⟨gb337, 1, none⟩ = some (.slice A0_1 l0_1.length c0_1) := (blk_cell BK337.out 1).trans rfl; have hfz54_0 := blk_frozen BK337.out 0; have hfz54_1 := blk_frozen BK337.out 1) | ((with_reducible refine gate_callee (f := 20) rfl ?_); refine goesL_ (some 45) rfl rfl Try.func20 (by kernel_rfl) rfl #[.agg #[.slice A0_0 l0_0.length c0_0, .slice A0_1 l0_1.length c0_1], .int .i64 a1_1, .int .i64 a1_2] rfl (by (try simp only [List.map_toArray, List.map_cons, List.map_nil]); first | done | rfl | (simp only [List.length_drop, List.length_take]; rfl)) ?_; (with_reducible refine (edit_MoveCol.calls _ _ l0_0 _ _ l0_1 a1_1 a1_2 t361 t364 t367 _ ?side1 ?side2 ?side3 ?side4 A46.out).mono ?_); (case side1 => repeat (first | exact (Kd.C_below HR0_0.out HB.out) | (with_reducible refine Kd.C_alloc ?_ _) | (with_reducible refine Kd.C_drewN ?_ _) | (with_reducible refine Kd.C_drew ?_))); (case side2 => exact HC0_0.out); (case side3 => repeat (first | exact (Kd.C_below HR0_1.out HB.out) | (with_reducible refine Kd.C_alloc ?_ _) | (with_reducible refine Kd.C_drewN ?_ _) | (with_reducible refine Kd.C_drew ?_))); (case side4 => exact HC0_1.out); rintro e w55 ⟨v362, v365, rfl, ho0, ho1, hb⟩; refine ⟨_, rfl, ?_⟩; have n0_ := Aside0.mk (Kd.R_lower ho0 (below_size (by repeat (first | (with_reducible first | exact HB.out | apply below_alloc | apply pw_below_drewN | apply below_drew1 | refine below_set ?_ GE337.out | refine below_set ?_ GE338.out | refine below_set ?_ GE339.out) | exact HB.out)))); have n1_ := Aside0.mk (Kd.S_lower ho1 (below_size (by repeat (first | (with_reducible first | exact HB.out | apply below_alloc | apply pw_below_drewN | apply below_drew1 | refine below_set ?_ GE337.out | refine below_set ?_ GE338.out | refine below_set ?_ GE339.out) | exact HB.out)))); have n2_ := Aside0.mk (blk_below (g := gb337) (o := .cells #[.slice A0_0 l0_0.length c0_0, .slice A0_1 l0_1.length c0_1] 25 (0, 0)) (by (with_reducible repeat (first | refine blk_drewN ?_ _ | refine blk_drew ?_ | refine blk_alloc ?_ _)); exact BK337.out) hb); have n3_ := Aside0.mk (blk_below (g := gb338) (o := .cells #[.int .i64 a1_0, .int .i64 a1_1, .int .i64 a1_2, .string a1_3, .slice A1_4 l1_4.length c1_4, .slice A1_5 l1_5.length c1_5] 28 (0, 0)) (by (with_reducible repeat (first | refine blk_drewN ?_ _ | refine blk_drew ?_ | refine blk_alloc ?_ _)); exact BK338.out) hb); have n4_ := Aside0.mk (blk_below (g := gb339) (o := .cells #[.slice none 0 0, .slice none 0 0] 25 (0, 0)) (by (with_reducible repeat (first | refine blk_drewN ?_ _ | refine blk_drew ?_ | refine blk_alloc ?_ _)); exact BK339.out) hb); have n5_ := Aside0.mk (below_step (by repeat (first | (with_reducible first | exact HB.out | apply below_alloc | apply pw_below_drewN | apply below_drew1 | refine below_set ?_ GE337.out | refine below_set ?_ GE338.out | refine below_set ?_ GE339.out) | exact HB.out)) hb); clear BK337; clear BK338; clear BK339; clear HB; have HO363 := n0_; have HO366 := n1_; have BK337 := n2_; have BK338 := n3_; have BK339 := n4_; have HB := n5_; clear n0_ n1_ n2_ n3_ n4_ n5_; (try clear hb); (try clear hb2); (try clear hk); (try clear hi); (try clear ho0); (try clear ho1); obtain ⟨Ao56, co56, eo56⟩ := Kd.R_slice HO363.out; subst eo56; have hcz57_0 : w55.cell? ⟨gb339, 0, none⟩ = some (.slice none 0 0) := (blk_cell BK339.out 0).trans rfl; have hcz57_1 : w55.cell? ⟨gb339, 1, none⟩ = some (.slice none 0 0) := (blk_cell BK339.out 1).trans rfl; have hfz57_0 := blk_frozen BK339.out 0; have hfz57_1 := blk_frozen BK339.out 1; obtain ⟨Ao58, co58, eo58⟩ := Kd.S_slice HO366.out; subst eo58))
     refine bodyPost_ret (results_ct rfl _ _ gb339 25 #[.slice Ao56 t361.length co56, .slice Ao58 t364.length co58] (0, 0) _ rfl (by (with_reducible repeat (first | refine blk_drewN ?_ _ | refine blk_drew ?_ | refine blk_alloc ?_ _)); refine blk_put (cs := #[.slice Ao56 t361.length co56, .slice none 0 0]) ?_ 1 _ rfl; (with_reducible repeat (first | refine blk_drewN ?_ _ | refine blk_drew ?_ | refine blk_alloc ?_ _)); refine blk_put (cs := #[.slice none 0 0, .slice none 0 0]) ?_ 0 _ rfl; (with_reducible repeat (first | refine blk_drewN ?_ _ | refine blk_drew ?_ | refine blk_alloc ?_ _)); exact BK339.out) Try.underlying25 rfl (by kernel_rfl)) rfl ?_
     exact ⟨_, _, by first | rfl | (simp [errW_none, errW_some] <;> rfl) | (simp [*, errW_none, errW_some] <;> rfl), by (with_reducible repeat (first | apply Kd.R_alloc | apply Kd.R_drewN | apply Kd.R_drew)); exact Kd.R_mono (Kd.R_far (p := ⟨gb339, 1, none⟩) (Kd.R_far (p := ⟨gb339, 0, none⟩) (Kd.R_types HO363.out BK339.out (by decide)) (fun _ hk => hk.2) (.slice Ao56 t361.length co56)) (fun _ hk => hk.2) (.slice Ao58 t364.length co58)) (fun _ hk => trivial), by (with_reducible repeat (first | apply Kd.S_alloc | apply Kd.S_drewN | apply Kd.S_drew)); exact Kd.S_mono (Kd.S_far (p := ⟨gb339, 1, none⟩) (Kd.S_far (p := ⟨gb339, 0, none⟩) (Kd.S_types HO366.out BK339.out (by decide)) (fun _ hk => hk.2) (.slice Ao56 t361.length co56)) (fun _ hk => hk.2) (.slice Ao58 t364.length co58)) (fun _ hk => hk.1), by repeat (first | (with_reducible first | exact HB.out | apply below_alloc | apply pw_below_drewN | apply below_drew1 | refine below_set ?_ GE337.out | refine below_set ?_ GE338.out | refine below_set ?_ GE339.out) | exact HB.out)⟩
    ·rw [if_neg c45] at H
     have c45b0 : (a1_0 == 3) = false := beq_eq_false_iff_ne.mpr c45
     have c45b1 : (a1_0 != 3) = true := bne_iff_ne.mpr c45
     by_cases c59 : a1_0 = 4
     ·rw [if_pos c59] at H
      have c59b0 : (a1_0 == 4) = true := beq_iff_eq.mpr c59
      have c59b1 : (a1_0 != 4) = false := bne_eq_false_iff_eq.mpr c59
      clear c59
      replace H := Option.bind_eq_some_iff.mp H
      obtain ⟨⟨t368, t371, t374⟩, A600, H⟩ := H
      replace H : (some (t368, t371, t374)) = some (r1, r2, r3) := H
      have A60 := Aside0.mk A600
      clear A600
      simp only [Option.some.injEq, Prod.mk.injEq] at H
      obtain ⟨rfl, rfl, rfl⟩ := H
      go_enter Try.func13, Try.ntmps13
      go_wp2_with (first | ((with_reducible refine gate_dst (N := 2) rfl ?_); refine box_event ?hg (N := 2) ?hd (cs := #[.slice A0_0 l0_0.length c0_0, .slice A0_1 l0_1.length c0_1]) (t := 25) ?hr ?_; (case hd => rfl); (case hg => rfl); (case hr => first | (go_simp; done) | (go_simp; rfl)); intro gb337 hg w61 hbox hb; have n0_ := Aside0.mk (below_step (by repeat (first | (with_reducible first | exact HB.out | apply below_alloc | apply pw_below_drewN | apply below_drew1) | exact HB.out)) hb); have n1_ := Aside0.mk (hbox); have n2_ := Aside0.mk ((by rw [hg]; exact (below_size (by repeat (first | (with_reducible first | exact HB.out | apply below_alloc | apply pw_below_drewN | apply below_drew1) | exact HB.out))) : w.heap.size ≤ gb337)); have n3_ := Aside0.mk ((by rw [hg]; exact (below_size (by repeat (first | (with_reducible first | exact HB.out | apply below_alloc | apply pw_below_drewN | apply below_drew1) | exact HB.out))) : w.heap.size ≤ gb337)); clear HB; have HB := n0_; have BK337 := n1_; have GW337 := n2_; have GE337 := n3_; clear n0_ n1_ n2_ n3_; clear hb hbox hg) | ((with_reducible refine gate_dst (N := 3) rfl ?_); refine box_event ?hg (N := 3) ?hd (cs := #[.int .i64 a1_0, .int .i64 a1_1, .int .i64 a1_2, .string a1_3, .slice A1_4 l1_4.length c1_4, .slice A1_5 l1_5.length c1_5]) (t := 28) ?hr ?_; (case hd => rfl); (case hg => rfl); (case hr => first | (go_simp; done) | (go_simp; rfl)); intro gb338 hg w62 hbox hb; have n0_ := Aside0.mk (blk_below (g := gb337) (o := .cells #[.slice A0_0 l0_0.length c0_0, .slice A0_1 l0_1.length c0_1] 25 (0, 0)) (by (with_reducible repeat (first | refine blk_drewN ?_ _ | refine blk_drew ?_ | refine blk_alloc ?_ _)); exact BK337.out) hb); have n1_ := Aside0.mk (below_step (by repeat (first | (with_reducible first | exact HB.out | apply below_alloc | apply pw_below_drewN | apply below_drew1 | refine below_set ?_ GE337.out) | exact HB.out)) hb); have n2_ := Aside0.mk (hbox); have n3_ := Aside0.mk ((by rw [hg]; exact (below_size (by repeat (first | (with_reducible first | exact HB.out | apply below_alloc | apply pw_below_drewN | apply below_drew1 | refine below_set ?_ GE337.out) | exact HB.out))) : w.heap.size ≤ gb338)); have n4_ := Aside0.mk ((by rw [hg]; exact (below_size (by repeat (first | (with_reducible first | exact HB.out | apply below_alloc | apply pw_below_drewN | apply below_drew1 | refine below_set ?_ GE337.out) | exact HB.out))) : w.heap.size ≤ gb338)); have n5_ := Aside0.mk ((by rw [hg]; exact Nat.ne_of_lt (blk_lt (g := gb337) (o := .cells #[.slice A0_0 l0_0.length c0_0, .slice A0_1 l0_1.length c0_1] 25 (0, 0)) (by (with_reducible repeat (first | refine blk_drewN ?_ _ | refine blk_drew ?_ | refine blk_alloc ?_ _)); exact BK337.out)) : gb337 ≠ gb338)); have n6_ := Aside0.mk ((by rw [hg]; exact Nat.ne_of_gt (blk_lt (g := gb337) (o := .cells #[.slice A0_0 l0_0.length c0_0, .slice A0_1 l0_1.length c0_1] 25 (0, 0)) (by (with_reducible repeat (first | refine blk_drewN ?_ _ | refine blk_drew ?_ | refine blk_alloc ?_ _)); exact BK337.out)) : gb338 ≠ gb337)); clear BK337; clear HB; have BK337 := n0_; have HB := n1_; have BK338 := n2_; have GW338 := n3_; have GE338 := n4_; have NB337_338 := n5_; have NB338_337 := n6_; clear n0_ n1_ n2_ n3_ n4_ n5_ n6_; clear hb hbox hg) | ((with_reducible refine gate_dst (N := 4) rfl ?_); refine box_event ?hg (N := 4) ?hd (cs := #[.slice none 0 0, .slice none 0 0]) (t := 25) ?hr ?_; (case hd => rfl); (case hg => rfl); (case hr => first | (go_simp; done) | (go_simp; rfl)); intro gb339 hg w63 hbox hb; have n0_ := Aside0.mk (blk_below (g := gb337) (o := .cells #[.slice A0_0 l0_0.length c0_0, .slice A0_1 l0_1.length c0_1] 25 (0, 0)) (by (with_reducible repeat (first | refine blk_drewN ?_ _ | refine blk_drew ?_ | refine blk_alloc ?_ _)); exact BK337.out) hb); have n1_ := Aside0.mk (blk_below (g := gb338) (o := .cells #[.int .i64 a1_0, .int .i64 a1_1, .int .i64 a1_2, .string a1_3, .slice A1_4 l1_4.length c1_4, .slice A1_5 l1_5.length c1_5] 28 (0, 0)) (by (with_reducible repeat (first | refine blk_drewN ?_ _ | refine blk_drew ?_ | refine blk_alloc ?_ _)); exact BK338.out) hb); have n2_ := Aside0.mk (below_step (by repeat (first | (with_reducible first | exact HB.out | apply below_alloc | apply pw_below_drewN | apply below_drew1 | refine below_set ?_ GE337.out | refine below_set ?_ GE338.out) | exact HB.out)) hb); have n3_ := Aside0.mk (hbox); have n4_ := Aside0.mk ((by rw [hg]; exact (below_size (by repeat (first | (with_reducible first | exact HB.out | apply below_alloc | apply pw_below_drewN | apply below_drew1 | refine below_set ?_ GE337.out | refine below_set ?_ GE338.out) | exact HB.out))) : w.heap.size ≤ gb339)); have n5_ := Aside0.mk ((by rw [hg]; exact (below_size (by repeat (first | (with_reducible first | exact HB.out | apply below_alloc | apply pw_below_drewN | apply below_drew1 | refine below_set ?_ GE337.out | refine below_set ?_ GE338.out) | exact HB.out))) : w.heap.size ≤ gb339)); have n6_ := Aside0.mk ((by rw [hg]; exact Nat.ne_of_lt (blk_lt (g := gb337) (o := .cells #[.slice A0_0 l0_0.length c0_0, .slice A0_1 l0_1.length c0_1] 25 (0, 0)) (by (with_reducible repeat (first | refine blk_drewN ?_ _ | refine blk_drew ?_ | refine blk_alloc ?_ _)); exact BK337.out)) : gb337 ≠ gb339)); have n7_ := Aside0.mk ((by rw [hg]; exact Nat.ne_of_gt (blk_lt (g := gb337) (o := .cells #[.slice A0_0 l0_0.length c0_0, .slice A0_1 l0_1.length c0_1] 25 (0, 0)) (by (with_reducible repeat (first | refine blk_drewN ?_ _ | refine blk_drew ?_ | refine blk_alloc ?_ _)); exact BK337.out)) : gb339 ≠ gb337)); have n8_ := Aside0.mk ((by rw [hg]; exact Nat.ne_of_lt (blk_lt (g := gb338) (o := .cells #[.int .i64 a1_0, .int .i64 a1_1, .int .i64 a1_2, .string a1_3, .slice A1_4 l1_4.length c1_4, .slice A1_5 l1_5.length c1_5] 28 (0, 0)) (by (with_reducible repeat (first | refine blk_drewN ?_ _ | refine blk_drew ?_ | refine blk_alloc ?_ _)); exact BK338.out)) : gb338 ≠ gb339)); have n9_ := Aside0.mk ((by rw [hg]; exact Nat.ne_of_gt (blk_lt (g := gb338) (o := .cells #[.int .i64 a1_0, .int .i64 a1_1, .int .i64 a1_2, .string a1_3, .slice A1_4 l1_4.length c1_4, .slice A1_5 l1_5.length c1_5] 28 (0, 0)) (by (with_reducible repeat (first | refine blk_drewN ?_ _ | refine blk_drew ?_ | refine blk_alloc ?_ _)); exact BK338.out)) : gb339 ≠ gb338)); clear BK337; clear BK338; clear HB; have BK337 := n0_; have BK338 := n1_; have HB := n2_; have BK339 := n3_; have GW339 := n4_; have GE339 := n5_; have NB337_339 := n6_; have NB339_337 := n7_; have NB338_339 := n8_; have NB339_338 := n9_; clear n0_ n1_ n2_ n3_ n4_ n5_ n6_ n7_ n8_ n9_; clear hb hbox hg; have hnb64 := NB338_337.out; have hnc64 := NB337_338.out; have hnb65 := NB338_339.out; have hnc65 := NB339_338.out; have hcz66_0 : w63.cell? ⟨gb338, 0, none⟩ = some (.int .i64 a1_0) := (blk_cell BK338.out 0).trans rfl; have hcz66_1 : w63.cell? ⟨gb338, 1, none⟩ = some (.int .i64 a1_1) := (blk_cell BK338.out 1).trans rfl; have hcz66_2 : w63.cell? ⟨gb338, 2, none⟩ = some (.int .i64 a1_2) := (blk_cell BK338.out 2).trans rfl; have hcz66_3 : w63.cell? ⟨gb338, 3, none⟩ = some (.string a1_3) := (blk_cell BK338.out 3).trans rfl; have hcz66_4 : w63.cell? ⟨gb338, 4, none⟩ = some (.slice A1_4 l1_4.length c1_4) := (blk_cell BK338.out 4).trans rfl; have hcz66_5 : w63.cell? ⟨gb338, 5, none⟩ = some (.slice A1_5 l1_5.length c1_5) := (blk_cell BK338.out 5).trans rfl; have hfz66_0 := blk_frozen BK338.out 0; have hfz66_1 := blk_frozen BK338.out 1; have hfz66_2 := blk_frozen BK338.out 2; have hfz66_3 := blk_frozen BK338.out 3; have hfz66_4 := blk_frozen BK338.out 4; have hfz66_5 := blk_frozen BK338.out 5; have hnb67 := NB337_339.out; have hnc67 := NB339_337.out; have hcz68_0 : w63.cell? ⟨gb337, 0, none⟩ = some (.slice A0_0 l0_0.length c0_0) := (blk_cell BK337.out 0).trans rfl; have hcz68_1 : w63.cell? ⟨gb337, 1, none⟩ = some (.slice A0_1 l0_1.length c0_1) := (blk_cell BK337.out 1).trans rfl; have hfz68_0 := blk_frozen BK337.out 0; have hfz68_1 := blk_frozen BK337.out 1) | ((with_reducible refine gate_callee (f := 25) rfl ?_); refine goesL_ (some 55) rfl rfl Try.func25 (by kernel_rfl) rfl #[.agg #[.slice A0_0 l0_0.length c0_0, .slice A0_1 l0_1.length c0_1], .int .i64 a1_1, .slice A1_4 l1_4.length c1_4] rfl (by (try simp only [List.map_toArray, List.map_cons, List.map_nil]); first | done | rfl | (simp only [List.length_drop, List.length_take]; rfl)) ?_; (with_reducible refine (edit_InsertRow.calls _ _ l0_0 _ _ l0_1 a1_1 _ _ l1_4 t368 t371 t374 _ ?side1 ?side2 ?side3 ?side4 ?side5 ?side6 A60.out).mono ?_); (case side1 => repeat (first | exact (Kd.C_below HR0_0.out HB.out) | (with_reducible refine Kd.C_alloc ?_ _) | (with_reducible refine Kd.C_drewN ?_ _) | (with_reducible refine Kd.C_drew ?_))); (case side2 => exact HC0_0.out); (case side3 => repeat (first | exact (Kd.C_below HR0_1.out HB.out) | (with_reducible refine Kd.C_alloc ?_ _) | (with_reducible refine Kd.C_drewN ?_ _) | (with_reducible refine Kd.C_drew ?_))); (case side4 => exact HC0_1.out); (case side5 => repeat (first | exact (Kd.C_below HR1_4.out HB.out) | (with_reducible refine Kd.C_alloc ?_ _) | (with_reducible refine Kd.C_drewN ?_ _) | (with_reducible refine Kd.C_drew ?_))); (case side6 => exact HC1_4.out); rintro e w69 ⟨v369, v372, rfl, ho0, ho1, hb⟩; refine ⟨_, rfl, ?_⟩; have n0_ := Aside0.mk (Kd.R_lower ho0 (below_size (by repeat (first | (with_reducible first | exact HB.out | apply below_alloc | apply pw_below_drewN | apply below_drew1 | refine below_set ?_ GE337.out | refine below_set ?_ GE338.out | refine below_set ?_ GE339.out) | exact HB.out)))); have n1_ := Aside0.mk (Kd.S_lower ho1 (below_size (by repeat (first | (with_reducible first | exact HB.out | apply below_alloc | apply pw_below_drewN | apply below_drew1 | refine below_set ?_ GE337.out | refine below_set ?_ GE338.out | refine below_set ?_ GE339.out) | exact HB.out)))); have n2_ := Aside0.mk (blk_below (g := gb337) (o := .cells #[.slice A0_0 l0_0.length c0_0, .slice A0_1 l0_1.length c0_1] 25 (0, 0)) (by (with_reducible repeat (first | refine blk_drewN ?_ _ | refine blk_drew ?_ | refine blk_alloc ?_ _)); exact BK337.out) hb); have n3_ := Aside0.mk (blk_below (g := gb338) (o := .cells #[.int .i64 a1_0, .int .i64 a1_1, .int .i64 a1_2, .string a1_3, .slice A1_4 l1_4.length c1_4, .slice A1_5 l1_5.length c1_5] 28 (0, 0)) (by (with_reducible repeat (first | refine blk_drewN ?_ _ | refine blk_drew ?_ | refine blk_alloc ?_ _)); exact BK338.out) hb); have n4_ := Aside0.mk (blk_below (g := gb339) (o := .cells #[.slice none 0 0, .slice none 0 0] 25 (0, 0)) (by (with_reducible repeat (first | refine blk_drewN ?_ _ | refine blk_drew ?_ | refine blk_alloc ?_ _)); exact BK339.out) hb); have n5_ := Aside0.mk (below_step (by repeat (first | (with_reducible first | exact HB.out | apply below_alloc | apply pw_below_drewN | apply below_drew1 | refine below_set ?_ GE337.out | refine below_set ?_ GE338.out | refine below_set ?_ GE339.out) | exact HB.out)) hb); clear BK337; clear BK338; clear BK339; clear HB; have HO370 := n0_; have HO373 := n1_; have BK337 := n2_; have BK338 := n3_; have BK339 := n4_; have HB := n5_; clear n0_ n1_ n2_ n3_ n4_ n5_; (try clear hb); (try clear hb2); (try clear hk); (try clear hi); (try clear ho0); (try clear ho1); obtain ⟨Ao70, co70, eo70⟩ := Kd.R_slice HO370.out; subst eo70; have hcz71_0 : w69.cell? ⟨gb339, 0, none⟩ = some (.slice none 0 0) := (blk_cell BK339.out 0).trans rfl; have hcz71_1 : w69.cell? ⟨gb339, 1, none⟩ = some (.slice none 0 0) := (blk_cell BK339.out 1).trans rfl; have hfz71_0 := blk_frozen BK339.out 0; have hfz71_1 := blk_frozen BK339.out 1; obtain ⟨Ao72, co72, eo72⟩ := Kd.S_slice HO373.out; subst eo72))
      refine bodyPost_ret (results_ct rfl _ _ gb339 25 #[.slice Ao70 t368.length co70, .slice Ao72 t371.length co72] (0, 0) _ rfl (by (with_reducible repeat (first | refine blk_drewN ?_ _ | refine blk_drew ?_ | refine blk_alloc ?_ _)); refine blk_put (cs := #[.slice Ao70 t368.length co70, .slice none 0 0]) ?_ 1 _ rfl; (with_reducible repeat (first | refine blk_drewN ?_ _ | refine blk_drew ?_ | refine blk_alloc ?_ _)); refine blk_put (cs := #[.slice none 0 0, .slice none 0 0]) ?_ 0 _ rfl; (with_reducible repeat (first | refine blk_drewN ?_ _ | refine blk_drew ?_ | refine blk_alloc ?_ _)); exact BK339.out) Try.underlying25 rfl (by kernel_rfl)) rfl ?_
      exact ⟨_, _, by first | rfl | (simp [errW_none, errW_some] <;> rfl) | (simp [*, errW_none, errW_some] <;> rfl), by (with_reducible repeat (first | apply Kd.R_alloc | apply Kd.R_drewN | apply Kd.R_drew)); exact Kd.R_mono (Kd.R_far (p := ⟨gb339, 1, none⟩) (Kd.R_far (p := ⟨gb339, 0, none⟩) (Kd.R_types HO370.out BK339.out (by decide)) (fun _ hk => hk.2) (.slice Ao70 t368.length co70)) (fun _ hk => hk.2) (.slice Ao72 t371.length co72)) (fun _ hk => trivial), by (with_reducible repeat (first | apply Kd.S_alloc | apply Kd.S_drewN | apply Kd.S_drew)); exact Kd.S_mono (Kd.S_far (p := ⟨gb339, 1, none⟩) (Kd.S_far (p := ⟨gb339, 0, none⟩) (Kd.S_types HO373.out BK339.out (by decide)) (fun _ hk => hk.2) (.slice Ao70 t368.length co70)) (fun _ hk => hk.2) (.slice Ao72 t371.length co72)) (fun _ hk => hk.1), by repeat (first | (with_reducible first | exact HB.out | apply below_alloc | apply pw_below_drewN | apply below_drew1 | refine below_set ?_ GE337.out | refine below_set ?_ GE338.out | refine below_set ?_ GE339.out) | exact HB.out)⟩
     ·rw [if_neg c59] at H
      have c59b0 : (a1_0 == 4) = false := beq_eq_false_iff_ne.mpr c59
      have c59b1 : (a1_0 != 4) = true := bne_iff_ne.mpr c59
      by_cases c73 : a1_0 = 5
      ·rw [if_pos c73] at H
       have c73b0 : (a1_0 == 5) = true := beq_iff_eq.mpr c73
       have c73b1 : (a1_0 != 5) = false := bne_eq_false_iff_eq.mpr c73
       clear c73
       replace H := Option.bind_eq_some_iff.mp H
       obtain ⟨⟨t375, t378, t381⟩, A740, H⟩ := H
       replace H : (some (t375, t378, t381)) = some (r1, r2, r3) := H
       have A74 := Aside0.mk A740
       clear A740
       simp only [Option.some.injEq, Prod.mk.injEq] at H
       obtain ⟨rfl, rfl, rfl⟩ := H
       go_enter Try.func13, Try.ntmps13
       go_wp2_with (first | ((with_reducible refine gate_dst (N := 2) rfl ?_); refine box_event ?hg (N := 2) ?hd (cs := #[.slice A0_0 l0_0.length c0_0, .slice A0_1 l0_1.length c0_1]) (t := 25) ?hr ?_; (case hd => rfl); (case hg => rfl); (case hr => first | (go_simp; done) | (go_simp; rfl)); intro gb337 hg w75 hbox hb; have n0_ := Aside0.mk (below_step (by repeat (first | (with_reducible first | exact HB.out | apply below_alloc | apply pw_below_drewN | apply below_drew1) | exact HB.out)) hb); have n1_ := Aside0.mk (hbox); have n2_ := Aside0.mk ((by rw [hg]; exact (below_size (by repeat (first | (with_reducible first | exact HB.out | apply below_alloc | apply pw_below_drewN | apply below_drew1) | exact HB.out))) : w.heap.size ≤ gb337)); have n3_ := Aside0.mk ((by rw [hg]; exact (below_size (by repeat (first | (with_reducible first | exact HB.out | apply below_alloc | apply pw_below_drewN | apply below_drew1) | exact HB.out))) : w.heap.size ≤ gb337)); clear HB; have HB := n0_; have BK337 := n1_; have GW337 := n2_; have GE337 := n3_; clear n0_ n1_ n2_ n3_; clear hb hbox hg) | ((with_reducible refine gate_dst (N := 3) rfl ?_); refine box_event ?hg (N := 3) ?hd (cs := #[.int .i64 a1_0, .int .i64 a1_1, .int .i64 a1_2, .string a1_3, .slice A1_4 l1_4.length c1_4, .slice A1_5 l1_5.length c1_5]) (t := 28) ?hr ?_; (case hd => rfl); (case hg => rfl); (case hr => first | (go_simp; done) | (go_simp; rfl)); intro gb338 hg w76 hbox hb; have n0_ := Aside0.mk (blk_below (g := gb337) (o := .cells #[.slice A0_0 l0_0.length c0_0, .slice A0_1 l0_1.length c0_1] 25 (0, 0)) (by (with_reducible repeat (first | refine blk_drewN ?_ _ | refine blk_drew ?_ | refine blk_alloc ?_ _)); exact BK337.out) hb); have n1_ := Aside0.mk (below_step (by repeat (first | (with_reducible first | exact HB.out | apply below_alloc | apply pw_below_drewN | apply below_drew1 | refine below_set ?_ GE337.out) | exact HB.out)) hb); have n2_ := Aside0.mk (hbox); have n3_ := Aside0.mk ((by rw [hg]; exact (below_size (by repeat (first | (with_reducible first | exact HB.out | apply below_alloc | apply pw_below_drewN | apply below_drew1 | refine below_set ?_ GE337.out) | exact HB.out))) : w.heap.size ≤ gb338)); have n4_ := Aside0.mk ((by rw [hg]; exact (below_size (by repeat (first | (with_reducible first | exact HB.out | apply below_alloc | apply pw_below_drewN | apply below_drew1 | refine below_set ?_ GE337.out) | exact HB.out))) : w.heap.size ≤ gb338)); have n5_ := Aside0.mk ((by rw [hg]; exact Nat.ne_of_lt (blk_lt (g := gb337) (o := .cells #[.slice A0_0 l0_0.length c0_0, .slice A0_1 l0_1.length c0_1] 25 (0, 0)) (by (with_reducible repeat (first | refine blk_drewN ?_ _ | refine blk_drew ?_ | refine blk_alloc ?_ _)); exact BK337.out)) : gb337 ≠ gb338)); have n6_ := Aside0.mk ((by rw [hg]; exact Nat.ne_of_gt (blk_lt (g := gb337) (o := .cells #[.slice A0_0 l0_0.length c0_0, .slice A0_1 l0_1.length c0_1] 25 (0, 0)) (by (with_reducible repeat (first | refine blk_drewN ?_ _ | refine blk_drew ?_ | refine blk_alloc ?_ _)); exact BK337.out)) : gb338 ≠ gb337)); clear BK337; clear HB; have BK337 := n0_; have HB := n1_; have BK338 := n2_; have GW338 := n3_; have GE338 := n4_; have NB337_338 := n5_; have NB338_337 := n6_; clear n0_ n1_ n2_ n3_ n4_ n5_ n6_; clear hb hbox hg) | ((with_reducible refine gate_dst (N := 4) rfl ?_); refine box_event ?hg (N := 4) ?hd (cs := #[.slice none 0 0, .slice none 0 0]) (t := 25) ?hr ?_; (case hd => rfl); (case hg => rfl); (case hr => first | (go_simp; done) | (go_simp; rfl)); intro gb339 hg w77 hbox hb; have n0_ := Aside0.mk (blk_below (g := gb337) (o := .cells #[.slice A0_0 l0_0.length c0_0, .slice A0_1 l0_1.length c0_1] 25 (0, 0)) (by (with_reducible repeat (first | refine blk_drewN ?_ _ | refine blk_drew ?_ | refine blk_alloc ?_ _)); exact BK337.out) hb); have n1_ := Aside0.mk (blk_below (g := gb338) (o := .cells #[.int .i64 a1_0, .int .i64 a1_1, .int .i64 a1_2, .string a1_3, .slice A1_4 l1_4.length c1_4, .slice A1_5 l1_5.length c1_5] 28 (0, 0)) (by (with_reducible repeat (first | refine blk_drewN ?_ _ | refine blk_drew ?_ | refine blk_alloc ?_ _)); exact BK338.out) hb); have n2_ := Aside0.mk (below_step (by repeat (first | (with_reducible first | exact HB.out | apply below_alloc | apply pw_below_drewN | apply below_drew1 | refine below_set ?_ GE337.out | refine below_set ?_ GE338.out) | exact HB.out)) hb); have n3_ := Aside0.mk (hbox); have n4_ := Aside0.mk ((by rw [hg]; exact (below_size (by repeat (first | (with_reducible first | exact HB.out | apply below_alloc | apply pw_below_drewN | apply below_drew1 | refine below_set ?_ GE337.out | refine below_set ?_ GE338.out) | exact HB.out))) : w.heap.size ≤ gb339)); have n5_ := Aside0.mk ((by rw [hg]; exact (below_size (by repeat (first | (with_reducible first | exact HB.out | apply below_alloc | apply pw_below_drewN | apply below_drew1 | refine below_set ?_ GE337.out | refine below_set ?_ GE338.out) | exact HB.out))) : w.heap.size ≤ gb339)); have n6_ := Aside0.mk ((by rw [hg]; exact Nat.ne_of_lt (blk_lt (g := gb337) (o := .cells #[.slice A0_0 l0_0.length c0_0, .slice A0_1 l0_1.length c0_1] 25 (0, 0)) (by (with_reducible repeat (first | refine blk_drewN ?_ _ | refine blk_drew ?_ | refine blk_alloc ?_ _)); exact BK337.out)) : gb337 ≠ gb339)); have n7_ := Aside0.mk ((by rw [hg]; exact Nat.ne_of_gt (blk_lt (g := gb337) (o := .cells #[.slice A0_0 l0_0.length c0_0, .slice A0_1 l0_1.length c0_1] 25 (0, 0)) (by (with_reducible repeat (first | refine blk_drewN ?_ _ | refine blk_drew ?_ | refine blk_alloc ?_ _)); exact BK337.out)) : gb339 ≠ gb337)); have n8_ := Aside0.mk ((by rw [hg]; exact Nat.ne_of_lt (blk_lt (g := gb338) (o := .cells #[.int .i64 a1_0, .int .i64 a1_1, .int .i64 a1_2, .string a1_3, .slice A1_4 l1_4.length c1_4, .slice A1_5 l1_5.length c1_5] 28 (0, 0)) (by (with_reducible repeat (first | refine blk_drewN ?_ _ | refine blk_drew ?_ | refine blk_alloc ?_ _)); exact BK338.out)) : gb338 ≠ gb339)); have n9_ := Aside0.mk ((by rw [hg]; exact Nat.ne_of_gt (blk_lt (g := gb338) (o := .cells #[.int .i64 a1_0, .int .i64 a1_1, .int .i64 a1_2, .string a1_3, .slice A1_4 l1_4.length c1_4, .slice A1_5 l1_5.length c1_5] 28 (0, 0)) (by (with_reducible repeat (first | refine blk_drewN ?_ _ | refine blk_drew ?_ | refine blk_alloc ?_ _)); exact BK338.out)) : gb339 ≠ gb338)); clear BK337; clear BK338; clear HB; have BK337 := n0_; have BK338 := n1_; have HB := n2_; have BK339 := n3_; have GW339 := n4_; have GE339 := n5_; have NB337_339 := n6_; have NB339_337 := n7_; have NB338_339 := n8_; have NB339_338 := n9_; clear n0_ n1_ n2_ n3_ n4_ n5_ n6_ n7_ n8_ n9_; clear hb hbox hg; have hnb78 := NB338_337.out; have hnc78 := NB337_338.out; have hnb79 := NB338_339.out; have hnc79 := NB339_338.out; have hcz80_0 : w77.cell? ⟨gb338, 0, none⟩ = some (.int .i64 a1_0) := (blk_cell BK338.out 0).trans rfl; have hcz80_1 : w77.cell? ⟨gb338, 1, none⟩ = some (.int .i64 a1_1) := (blk_cell BK338.out 1).trans rfl; have hcz80_2 : w77.cell? ⟨gb338, 2, none⟩ = some (.int .i64 a1_2) := (blk_cell BK338.out 2).trans rfl; have hcz80_3 : w77.cell? ⟨gb338, 3, none⟩ = some (.string a1_3) := (blk_cell BK338.out 3).trans rfl; have hcz80_4 : w77.cell? ⟨gb338, 4, none⟩ = some (.slice A1_4 l1_4.length c1_4) := (blk_cell BK338.out 4).trans rfl; have hcz80_5 : w77.cell? ⟨gb338, 5, none⟩ = some (.slice A1_5 l1_5.length c1_5) := (blk_cell BK338.out 5).trans rfl; have hfz80_0 := blk_frozen BK338.out 0; have hfz80_1 := blk_frozen BK338.out 1; have hfz80_2 := blk_frozen BK338.out 2; have hfz80_3 := blk_frozen BK338.out 3; have hfz80_4 := blk_frozen BK338.out 4; have hfz80_5 := blk_frozen BK338.out 5; have hnb81 := NB337_339.out; have hnc81 := NB339_337.out; have hcz82_0 : w77.cell? ⟨gb337, 0, none⟩ = some (.slice A0_0 l0_0.length c0_0) := (blk_cell BK337.out 0).trans rfl; have hcz82_1 : w77.cell? ⟨gb337, 1, none⟩ = some (.slice A0_1 l0_1.length c0_1) := (blk_cell BK337.out 1).trans rfl; have hfz82_0 := blk_frozen BK337.out 0; have hfz82_1 := blk_frozen BK337.out 1) | ((with_reducible refine gate_callee (f := 26) rfl ?_); refine goesL_ (some 63) rfl rfl Try.func26 (by kernel_rfl) rfl #[.agg #[.slice A0_0 l0_0.length c0_0, .slice A0_1 l0_1.length c0_1], .int .i64 a1_1] rfl (by (try simp only [List.map_toArray, List.map_cons, List.map_nil]); first | done | rfl | (simp only [List.length_drop, List.length_take]; rfl)) ?_; (with_reducible refine (edit_DeleteRow.calls _ _ l0_0 _ _ l0_1 a1_1 t375 t378 t381 _ ?side1 ?side2 ?side3 ?side4 A74.out).mono ?_); (case side1 => repeat (first | exact (Kd.C_below HR0_0.out HB.out) | (with_reducible refine Kd.C_alloc ?_ _) | (with_reducible refine Kd.C_drewN ?_ _) | (with_reducible refine Kd.C_drew ?_))); (case side2 => exact HC0_0.out); (case side3 => repeat (first | exact (Kd.C_below HR0_1.out HB.out) | (with_reducible refine Kd.C_alloc ?_ _) | (with_reducible refine Kd.C_drewN ?_ _) | (with_reducible refine Kd.C_drew ?_))); (case side4 => exact HC0_1.out); rintro e w83 ⟨v376, v379, rfl, ho0, ho1, hb⟩; refine ⟨_, rfl, ?_⟩; have n0_ := Aside0.mk (Kd.R_lower ho0 (below_size (by repeat (first | (with_reducible first | exact HB.out | apply below_alloc | apply pw_below_drewN | apply below_drew1 | refine below_set ?_ GE337.out | refine below_set ?_ GE338.out | refine below_set ?_ GE339.out) | exact HB.out)))); have n1_ := Aside0.mk (Kd.S_lower ho1 (below_size (by repeat (first | (with_reducible first | exact HB.out | apply below_alloc | apply pw_below_drewN | apply below_drew1 | refine below_set ?_ GE337.out | refine below_set ?_ GE338.out | refine below_set ?_ GE339.out) | exact HB.out)))); have n2_ := Aside0.mk (blk_below (g := gb337) (o := .cells #[.slice A0_0 l0_0.length c0_0, .slice A0_1 l0_1.length c0_1] 25 (0, 0)) (by (with_reducible repeat (first | refine blk_drewN ?_ _ | refine blk_drew ?_ | refine blk_alloc ?_ _)); exact BK337.out) hb); have n3_ := Aside0.mk (blk_below (g := gb338) (o := .cells #[.int .i64 a1_0, .int .i64 a1_1, .int .i64 a1_2, .string a1_3, .slice A1_4 l1_4.length c1_4, .slice A1_5 l1_5.length c1_5] 28 (0, 0)) (by (with_reducible repeat (first | refine blk_drewN ?_ _ | refine blk_drew ?_ | refine blk_alloc ?_ _)); exact BK338.out) hb); have n4_ := Aside0.mk (blk_below (g := gb339) (o := .cells #[.slice none 0 0, .slice none 0 0] 25 (0, 0)) (by (with_reducible repeat (first | refine blk_drewN ?_ _ | refine blk_drew ?_ | refine blk_alloc ?_ _)); exact BK339.out) hb); have n5_ := Aside0.mk (below_step (by repeat (first | (with_reducible first | exact HB.out | apply below_alloc | apply pw_below_drewN | apply below_drew1 | refine below_set ?_ GE337.out | refine below_set ?_ GE338.out | refine below_set ?_ GE339.out) | exact HB.out)) hb); clear BK337; clear BK338; clear BK339; clear HB; have HO377 := n0_; have HO380 := n1_; have BK337 := n2_; have BK338 := n3_; have BK339 := n4_; have HB := n5_; clear n0_ n1_ n2_ n3_ n4_ n5_; (try clear hb); (try clear hb2); (try clear hk); (try clear hi); (try clear ho0); (try clear ho1); obtain ⟨Ao84, co84, eo84⟩ := Kd.R_slice HO377.out; subst eo84; have hcz85_0 : w83.cell? ⟨gb339, 0, none⟩ = some (.slice none 0 0) := (blk_cell BK339.out 0).trans rfl; have hcz85_1 : w83.cell? ⟨gb339, 1, none⟩ = some (.slice none 0 0) := (blk_cell BK339.out 1).trans rfl; have hfz85_0 := blk_frozen BK339.out 0; have hfz85_1 := blk_frozen BK339.out 1; obtain ⟨Ao86, co86, eo86⟩ := Kd.S_slice HO380.out; subst eo86))
       refine bodyPost_ret (results_ct rfl _ _ gb339 25 #[.slice Ao84 t375.length co84, .slice Ao86 t378.length co86] (0, 0) _ rfl (by (with_reducible repeat (first | refine blk_drewN ?_ _ | refine blk_drew ?_ | refine blk_alloc ?_ _)); refine blk_put (cs := #[.slice Ao84 t375.length co84, .slice none 0 0]) ?_ 1 _ rfl; (with_reducible repeat (first | refine blk_drewN ?_ _ | refine blk_drew ?_ | refine blk_alloc ?_ _)); refine blk_put (cs := #[.slice none 0 0, .slice none 0 0]) ?_ 0 _ rfl; (with_reducible repeat (first | refine blk_drewN ?_ _ | refine blk_drew ?_ | refine blk_alloc ?_ _)); exact BK339.out) Try.underlying25 rfl (by kernel_rfl)) rfl ?_
       exact ⟨_, _, by first | rfl | (simp [errW_none, errW_some] <;> rfl) | (simp [*, errW_none, errW_some] <;> rfl), by (with_reducible repeat (first | apply Kd.R_alloc | apply Kd.R_drewN | apply Kd.R_drew)); exact Kd.R_mono (Kd.R_far (p := ⟨gb339, 1, none⟩) (Kd.R_far (p := ⟨gb339, 0, none⟩) (Kd.R_types HO377.out BK339.out (by decide)) (fun _ hk => hk.2) (.slice Ao84 t375.length co84)) (fun _ hk => hk.2) (.slice Ao86 t378.length co86)) (fun _ hk => trivial), by (with_reducible repeat (first | apply Kd.S_alloc | apply Kd.S_drewN | apply Kd.S_drew)); exact Kd.S_mono (Kd.S_far (p := ⟨gb339, 1, none⟩) (Kd.S_far (p := ⟨gb339, 0, none⟩) (Kd.S_types HO380.out BK339.out (by decide)) (fun _ hk => hk.2) (.slice Ao84 t375.length co84)) (fun _ hk => hk.2) (.slice Ao86 t378.length co86)) (fun _ hk => hk.1), by repeat (first | (with_reducible first | exact HB.out | apply below_alloc | apply pw_below_drewN | apply below_drew1 | refine below_set ?_ GE337.out | refine below_set ?_ GE338.out | refine below_set ?_ GE339.out) | exact HB.out)⟩
      ·rw [if_neg c73] at H
       have c73b0 : (a1_0 == 5) = false := beq_eq_false_iff_ne.mpr c73
       have c73b1 : (a1_0 != 5) = true := bne_iff_ne.mpr c73
       by_cases c87 : a1_0 = 6
       ·rw [if_pos c87] at H
        have c87b0 : (a1_0 == 6) = true := beq_iff_eq.mpr c87
        have c87b1 : (a1_0 != 6) = false := bne_eq_false_iff_eq.mpr c87
        clear c87
        replace H := Option.bind_eq_some_iff.mp H
        obtain ⟨⟨t382, t385, t388⟩, A880, H⟩ := H
        replace H : (some (t382, t385, t388)) = some (r1, r2, r3) := H
        have A88 := Aside0.mk A880
        clear A880
        simp only [Option.some.injEq, Prod.mk.injEq] at H
        obtain ⟨rfl, rfl, rfl⟩ := H
        go_enter Try.func13, Try.ntmps13
        go_wp2_with (first | ((with_reducible refine gate_dst (N := 2) rfl ?_); refine box_event ?hg (N := 2) ?hd (cs := #[.slice A0_0 l0_0.length c0_0, .slice A0_1 l0_1.length c0_1]) (t := 25) ?hr ?_; (case hd => rfl); (case hg => rfl); (case hr => first | (go_simp; done) | (go_simp; rfl)); intro gb337 hg w89 hbox hb; have n0_ := Aside0.mk (below_step (by repeat (first | (with_reducible first | exact HB.out | apply below_alloc | apply pw_below_drewN | apply below_drew1) | exact HB.out)) hb); have n1_ := Aside0.mk (hbox); have n2_ := Aside0.mk ((by rw [hg]; exact (below_size (by repeat (first | (with_reducible first | exact HB.out | apply below_alloc | apply pw_below_drewN | apply below_drew1) | exact HB.out))) : w.heap.size ≤ gb337)); have n3_ := Aside0.mk ((by rw [hg]; exact (below_size (by repeat (first | (with_reducible first | exact HB.out | apply below_alloc | apply pw_below_drewN | apply below_drew1) | exact HB.out))) : w.heap.size ≤ gb337)); clear HB; have HB := n0_; have BK337 := n1_; have GW337 := n2_; have GE337 := n3_; clear n0_ n1_ n2_ n3_; clear hb hbox hg) | ((with_reducible refine gate_dst (N := 3) rfl ?_); refine box_event ?hg (N := 3) ?hd (cs := #[.int .i64 a1_0, .int .i64 a1_1, .int .i64 a1_2, .string a1_3, .slice A1_4 l1_4.length c1_4, .slice A1_5 l1_5.length c1_5]) (t := 28) ?hr ?_; (case hd => rfl); (case hg => rfl); (case hr => first | (go_simp; done) | (go_simp; rfl)); intro gb338 hg w90 hbox hb; have n0_ := Aside0.mk (blk_below (g := gb337) (o := .cells #[.slice A0_0 l0_0.length c0_0, .slice A0_1 l0_1.length c0_1] 25 (0, 0)) (by (with_reducible repeat (first | refine blk_drewN ?_ _ | refine blk_drew ?_ | refine blk_alloc ?_ _)); exact BK337.out) hb); have n1_ := Aside0.mk (below_step (by repeat (first | (with_reducible first | exact HB.out | apply below_alloc | apply pw_below_drewN | apply below_drew1 | refine below_set ?_ GE337.out) | exact HB.out)) hb); have n2_ := Aside0.mk (hbox); have n3_ := Aside0.mk ((by rw [hg]; exact (below_size (by repeat (first | (with_reducible first | exact HB.out | apply below_alloc | apply pw_below_drewN | apply below_drew1 | refine below_set ?_ GE337.out) | exact HB.out))) : w.heap.size ≤ gb338)); have n4_ := Aside0.mk ((by rw [hg]; exact (below_size (by repeat (first | (with_reducible first | exact HB.out | apply below_alloc | apply pw_below_drewN | apply below_drew1 | refine below_set ?_ GE337.out) | exact HB.out))) : w.heap.size ≤ gb338)); have n5_ := Aside0.mk ((by rw [hg]; exact Nat.ne_of_lt (blk_lt (g := gb337) (o := .cells #[.slice A0_0 l0_0.length c0_0, .slice A0_1 l0_1.length c0_1] 25 (0, 0)) (by (with_reducible repeat (first | refine blk_drewN ?_ _ | refine blk_drew ?_ | refine blk_alloc ?_ _)); exact BK337.out)) : gb337 ≠ gb338)); have n6_ := Aside0.mk ((by rw [hg]; exact Nat.ne_of_gt (blk_lt (g := gb337) (o := .cells #[.slice A0_0 l0_0.length c0_0, .slice A0_1 l0_1.length c0_1] 25 (0, 0)) (by (with_reducible repeat (first | refine blk_drewN ?_ _ | refine blk_drew ?_ | refine blk_alloc ?_ _)); exact BK337.out)) : gb338 ≠ gb337)); clear BK337; clear HB; have BK337 := n0_; have HB := n1_; have BK338 := n2_; have GW338 := n3_; have GE338 := n4_; have NB337_338 := n5_; have NB338_337 := n6_; clear n0_ n1_ n2_ n3_ n4_ n5_ n6_; clear hb hbox hg) | ((with_reducible refine gate_dst (N := 4) rfl ?_); refine box_event ?hg (N := 4) ?hd (cs := #[.slice none 0 0, .slice none 0 0]) (t := 25) ?hr ?_; (case hd => rfl); (case hg => rfl); (case hr => first | (go_simp; done) | (go_simp; rfl)); intro gb339 hg w91 hbox hb; have n0_ := Aside0.mk (blk_below (g := gb337) (o := .cells #[.slice A0_0 l0_0.length c0_0, .slice A0_1 l0_1.length c0_1] 25 (0, 0)) (by (with_reducible repeat (first | refine blk_drewN ?_ _ | refine blk_drew ?_ | refine blk_alloc ?_ _)); exact BK337.out) hb); have n1_ := Aside0.mk (blk_below (g := gb338) (o := .cells #[.int .i64 a1_0, .int .i64 a1_1, .int .i64 a1_2, .string a1_3, .slice A1_4 l1_4.length c1_4, .slice A1_5 l1_5.length c1_5] 28 (0, 0)) (by (with_reducible repeat (first | refine blk_drewN ?_ _ | refine blk_drew ?_ | refine blk_alloc ?_ _)); exact BK338.out) hb); have n2_ := Aside0.mk (below_step (by repeat (first | (with_reducible first | exact HB.out | apply below_alloc | apply pw_below_drewN | apply below_drew1 | refine below_set ?_ GE337.out | refine below_set ?_ GE338.out) | exact HB.out)) hb); have n3_ := Aside0.mk (hbox); have n4_ := Aside0.mk ((by rw [hg]; exact (below_size (by repeat (first | (with_reducible first | exact HB.out | apply below_alloc | apply pw_below_drewN | apply below_drew1 | refine below_set ?_ GE337.out | refine below_set ?_ GE338.out) | exact HB.out))) : w.heap.size ≤ gb339)); have n5_ := Aside0.mk ((by rw [hg]; exact (below_size (by repeat (first | (with_reducible first | exact HB.out | apply below_alloc | apply pw_below_drewN | apply below_drew1 | refine below_set ?_ GE337.out | refine below_set ?_ GE338.out) | exact HB.out))) : w.heap.size ≤ gb339)); have n6_ := Aside0.mk ((by rw [hg]; exact Nat.ne_of_lt (blk_lt (g := gb337) (o := .cells #[.slice A0_0 l0_0.length c0_0, .slice A0_1 l0_1.length c0_1] 25 (0, 0)) (by (with_reducible repeat (first | refine blk_drewN ?_ _ | refine blk_drew ?_ | refine blk_alloc ?_ _)); exact BK337.out)) : gb337 ≠ gb339)); have n7_ := Aside0.mk ((by rw [hg]; exact Nat.ne_of_gt (blk_lt (g := gb337) (o := .cells #[.slice A0_0 l0_0.length c0_0, .slice A0_1 l0_1.length c0_1] 25 (0, 0)) (by (with_reducible repeat (first | refine blk_drewN ?_ _ | refine blk_drew ?_ | refine blk_alloc ?_ _)); exact BK337.out)) : gb339 ≠ gb337)); have n8_ := Aside0.mk ((by rw [hg]; exact Nat.ne_of_lt (blk_lt (g := gb338) (o := .cells #[.int .i64 a1_0, .int .i64 a1_1, .int .i64 a1_2, .string a1_3, .slice A1_4 l1_4.length c1_4, .slice A1_5 l1_5.length c1_5] 28 (0, 0)) (by (with_reducible repeat (first | refine blk_drewN ?_ _ | refine blk_drew ?_ | refine blk_alloc ?_ _)); exact BK338.out)) : gb338 ≠ gb339)); have n9_ := Aside0.mk ((by rw [hg]; exact Nat.ne_of_gt (blk_lt (g := gb338) (o := .cells #[.int .i64 a1_0, .int .i64 a1_1, .int .i64 a1_2, .string a1_3, .slice A1_4 l1_4.length c1_4, .slice A1_5 l1_5.length c1_5] 28 (0, 0)) (by (with_reducible repeat (first | refine blk_drewN ?_ _ | refine blk_drew ?_ | refine blk_alloc ?_ _)); exact BK338.out)) : gb339 ≠ gb338)); clear BK337; clear BK338; clear HB; have BK337 := n0_; have BK338 := n1_; have HB := n2_; have BK339 := n3_; have GW339 := n4_; have GE339 := n5_; have NB337_339 := n6_; have NB339_337 := n7_; have NB338_339 := n8_; have NB339_338 := n9_; clear n0_ n1_ n2_ n3_ n4_ n5_ n6_ n7_ n8_ n9_; clear hb hbox hg; have hnb92 := NB338_337.out; have hnc92 := NB337_338.out; have hnb93 := NB338_339.out; have hnc93 := NB339_338.out; have hcz94_0 : w91.cell? ⟨gb338, 0, none⟩ = some (.int .i64 a1_0) := (blk_cell BK338.out 0).trans rfl; have hcz94_1 : w91.cell? ⟨gb338, 1, none⟩ = some (.int .i64 a1_1) := (blk_cell BK338.out 1).trans rfl; have hcz94_2 : w91.cell? ⟨gb338, 2, none⟩ = some (.int .i64 a1_2) := (blk_cell BK338.out 2).trans rfl; have hcz94_3 : w91.cell? ⟨gb338, 3, none⟩ = some (.string a1_3) := (blk_cell BK338.out 3).trans rfl; have hcz94_4 : w91.cell? ⟨gb338, 4, none⟩ = some (.slice A1_4 l1_4.length c1_4) := (blk_cell BK338.out 4).trans rfl; have hcz94_5 : w91.cell? ⟨gb338, 5, none⟩ = some (.slice A1_5 l1_5.length c1_5) := (blk_cell BK338.out 5).trans rfl; have hfz94_0 := blk_frozen BK338.out 0; have hfz94_1 := blk_frozen BK338.out 1; have hfz94_2 := blk_frozen BK338.out 2; have hfz94_3 := blk_frozen BK338.out 3; have hfz94_4 := blk_frozen BK338.out 4; have hfz94_5 := blk_frozen BK338.out 5; have hnb95 := NB337_339.out; have hnc95 := NB339_337.out; have hcz96_0 : w91.cell? ⟨gb337, 0, none⟩ = some (.slice A0_0 l0_0.length c0_0) := (blk_cell BK337.out 0).trans rfl; have hcz96_1 : w91.cell? ⟨gb337, 1, none⟩ = some (.slice A0_1 l0_1.length c0_1) := (blk_cell BK337.out 1).trans rfl; have hfz96_0 := blk_frozen BK337.out 0; have hfz96_1 := blk_frozen BK337.out 1) | ((with_reducible refine gate_callee (f := 21) rfl ?_); refine goesL_ (some 73) rfl rfl Try.func21 (by kernel_rfl) rfl #[.agg #[.slice A0_0 l0_0.length c0_0, .slice A0_1 l0_1.length c0_1], .int .i64 a1_1, .int .i64 a1_2] rfl (by (try simp only [List.map_toArray, List.map_cons, List.map_nil]); first | done | rfl | (simp only [List.length_drop, List.length_take]; rfl)) ?_; (with_reducible refine (edit_MoveRow.calls _ _ l0_0 _ _ l0_1 a1_1 a1_2 t382 t385 t388 _ ?side1 ?side2 ?side3 ?side4 A88.out).mono ?_); (case side1 => repeat (first | exact (Kd.C_below HR0_0.out HB.out) | (with_reducible refine Kd.C_alloc ?_ _) | (with_reducible refine Kd.C_drewN ?_ _) | (with_reducible refine Kd.C_drew ?_))); (case side2 => exact HC0_0.out); (case side3 => repeat (first | exact (Kd.C_below HR0_1.out HB.out) | (with_reducible refine Kd.C_alloc ?_ _) | (with_reducible refine Kd.C_drewN ?_ _) | (with_reducible refine Kd.C_drew ?_))); (case side4 => exact HC0_1.out); rintro e w97 ⟨v383, v386, rfl, ho0, ho1, hb⟩; refine ⟨_, rfl, ?_⟩; have n0_ := Aside0.mk (Kd.R_lower ho0 (below_size (by repeat (first | (with_reducible first | exact HB.out | apply below_alloc | apply pw_below_drewN | apply below_drew1 | refine below_set ?_ GE337.out | refine below_set ?_ GE338.out | refine below_set ?_ GE339.out) | exact HB.out)))); have n1_ := Aside0.mk (Kd.S_lower ho1 (below_size (by repeat (first | (with_reducible first | exact HB.out | apply below_alloc | apply pw_below_drewN | apply below_drew1 | refine below_set ?_ GE337.out | refine below_set ?_ GE338.out | refine below_set ?_ GE339.out) | exact HB.out)))); have n2_ := Aside0.mk (blk_below (g := gb337) (o := .cells #[.slice A0_0 l0_0.length c0_0, .slice A0_1 l0_1.length c0_1] 25 (0, 0)) (by (with_reducible repeat (first | refine blk_drewN ?_ _ | refine blk_drew ?_ | refine blk_alloc ?_ _)); exact BK337.out) hb); have n3_ := Aside0.mk (blk_below (g := gb338) (o := .cells #[.int .i64 a1_0, .int .i64 a1_1, .int .i64 a1_2, .string a1_3, .slice A1_4 l1_4.length c1_4, .slice A1_5 l1_5.length c1_5] 28 (0, 0)) (by (with_reducible repeat (first | refine blk_drewN ?_ _ | refine blk_drew ?_ | refine blk_alloc ?_ _)); exact BK338.out) hb); have n4_ := Aside0.mk (blk_below (g := gb339) (o := .cells #[.slice none 0 0, .slice none 0 0] 25 (0, 0)) (by (with_reducible repeat (first | refine blk_drewN ?_ _ | refine blk_drew ?_ | refine blk_alloc ?_ _)); exact BK339.out) hb); have n5_ := Aside0.mk (below_step (by repeat (first | (with_reducible first | exact HB.out | apply below_alloc | apply pw_below_drewN | apply below_drew1 | refine below_set ?_ GE337.out | refine below_set ?_ GE338.out | refine below_set ?_ GE339.out) | exact HB.out)) hb); clear BK337; clear BK338; clear BK339; clear HB; have HO384 := n0_; have HO387 := n1_; have BK337 := n2_; have BK338 := n3_; have BK339 := n4_; have HB := n5_; clear n0_ n1_ n2_ n3_ n4_ n5_; (try clear hb); (try clear hb2); (try clear hk); (try clear hi); (try clear ho0); (try clear ho1); obtain ⟨Ao98, co98, eo98⟩ := Kd.R_slice HO384.out; subst eo98; have hcz99_0 : w97.cell? ⟨gb339, 0, none⟩ = some (.slice none 0 0) := (blk_cell BK339.out 0).trans rfl; have hcz99_1 : w97.cell? ⟨gb339, 1, none⟩ = some (.slice none 0 0) := (blk_cell BK339.out 1).trans rfl; have hfz99_0 := blk_frozen BK339.out 0; have hfz99_1 := blk_frozen BK339.out 1; obtain ⟨Ao100, co100, eo100⟩ := Kd.S_slice HO387.out; subst eo100))
        refine bodyPost_ret (results_ct rfl _ _ gb339 25 #[.slice Ao98 t382.length co98, .slice Ao100 t385.length co100] (0, 0) _ rfl (by (with_reducible repeat (first | refine blk_drewN ?_ _ | refine blk_drew ?_ | refine blk_alloc ?_ _)); refine blk_put (cs := #[.slice Ao98 t382.length co98, .slice none 0 0]) ?_ 1 _ rfl; (with_reducible repeat (first | refine blk_drewN ?_ _ | refine blk_drew ?_ | refine blk_alloc ?_ _)); refine blk_put (cs := #[.slice none 0 0, .slice none 0 0]) ?_ 0 _ rfl; (with_reducible repeat (first | refine blk_drewN ?_ _ | refine blk_drew ?_ | refine blk_alloc ?_ _)); exact BK339.out) Try.underlying25 rfl (by kernel_rfl)) rfl ?_
        exact ⟨_, _, by first | rfl | (simp [errW_none, errW_some] <;> rfl) | (simp [*, errW_none, errW_some] <;> rfl), by (with_reducible repeat (first | apply Kd.R_alloc | apply Kd.R_drewN | apply Kd.R_drew)); exact Kd.R_mono (Kd.R_far (p := ⟨gb339, 1, none⟩) (Kd.R_far (p := ⟨gb339, 0, none⟩) (Kd.R_types HO384.out BK339.out (by decide)) (fun _ hk => hk.2) (.slice Ao98 t382.length co98)) (fun _ hk => hk.2) (.slice Ao100 t385.length co100)) (fun _ hk => trivial), by (with_reducible repeat (first | apply Kd.S_alloc | apply Kd.S_drewN | apply Kd.S_drew)); exact Kd.S_mono (Kd.S_far (p := ⟨gb339, 1, none⟩) (Kd.S_far (p := ⟨gb339, 0, none⟩) (Kd.S_types HO387.out BK339.out (by decide)) (fun _ hk => hk.2) (.slice Ao98 t382.length co98)) (fun _ hk => hk.2) (.slice Ao100 t385.length co100)) (fun _ hk => hk.1), by repeat (first | (with_reducible first | exact HB.out | apply below_alloc | apply pw_below_drewN | apply below_drew1 | refine below_set ?_ GE337.out | refine below_set ?_ GE338.out | refine below_set ?_ GE339.out) | exact HB.out)⟩
       ·rw [if_neg c87] at H
        have c87b0 : (a1_0 == 6) = false := beq_eq_false_iff_ne.mpr c87
        have c87b1 : (a1_0 != 6) = true := bne_iff_ne.mpr c87
        by_cases c101 : a1_0 = 7
        ·rw [if_pos c101] at H
         have c101b0 : (a1_0 == 7) = true := beq_iff_eq.mpr c101
         have c101b1 : (a1_0 != 7) = false := bne_eq_false_iff_eq.mpr c101
         clear c101
         replace H := Option.bind_eq_some_iff.mp H
         obtain ⟨⟨t389, t392, t395⟩, A1020, H⟩ := H
         replace H : (some (t389, t392, t395)) = some (r1, r2, r3) := H
         have A102 := Aside0.mk A1020
         clear A1020
         simp only [Option.some.injEq, Prod.mk.injEq] at H
         obtain ⟨rfl, rfl, rfl⟩ := H
         go_enter Try.func13, Try.ntmps13
         go_wp2_with (first | ((with_reducible refine gate_dst (N := 2) rfl ?_); refine box_event ?hg (N := 2) ?hd (cs := #[.slice A0_0 l0_0.length c0_0, .slice A0_1 l0_1.length c0_1]) (t := 25) ?hr ?_; (case hd => rfl); (case hg => rfl); (case hr => first | (go_simp; done) | (go_simp; rfl)); intro gb337 hg w103 hbox hb; have n0_ := Aside0.mk (below_step (by repeat (first | (with_reducible first | exact HB.out | apply below_alloc | apply pw_below_drewN | apply below_drew1) | exact HB.out)) hb); have n1_ := Aside0.mk (hbox); have n2_ := Aside0.mk ((by rw [hg]; exact (below_size (by repeat (first | (with_reducible first | exact HB.out | apply below_alloc | apply pw_below_drewN | apply below_drew1) | exact HB.out))) : w.heap.size ≤ gb337)); have n3_ := Aside0.mk ((by rw [hg]; exact (below_size (by repeat (first | (with_reducible first | exact HB.out | apply below_alloc | apply pw_below_drewN | apply below_drew1) | exact HB.out))) : w.heap.size ≤ gb337)); clear HB; have HB := n0_; have BK337 := n1_; have GW337 := n2_; have GE337 := n3_; clear n0_ n1_ n2_ n3_; clear hb hbox hg) | ((with_reducible refine gate_dst (N := 3) rfl ?_); refine box_event ?hg (N := 3) ?hd (cs := #[.int .i64 a1_0, .int .i64 a1_1, .int .i64 a1_2, .string a1_3, .slice A1_4 l1_4.length c1_4, .slice A1_5 l1_5.length c1_5]) (t := 28) ?hr ?_; (case hd => rfl); (case hg => rfl); (case hr => first | (go_simp; done) | (go_simp; rfl)); intro gb338 hg w104 hbox hb; have n0_ := Aside0.mk (blk_below (g := gb337) (o := .cells #[.slice A0_0 l0_0.length c0_0, .slice A0_1 l0_1.length c0_1] 25 (0, 0)) (by (with_reducible repeat (first | refine blk_drewN ?_ _ | refine blk_drew ?_ | refine blk_alloc ?_ _)); exact BK337.out) hb); have n1_ := Aside0.mk (below_step (by repeat (first | (with_reducible first | exact HB.out | apply below_alloc | apply pw_below_drewN | apply below_drew1 | refine below_set ?_ GE337.out) | exact HB.out)) hb); have n2_ := Aside0.mk (hbox); have n3_ := Aside0.mk ((by rw [hg]; exact (below_size (by repeat (first | (with_reducible first | exact HB.out | apply below_alloc | apply pw_below_drewN | apply below_drew1 | refine below_set ?_ GE337.out) | exact HB.out))) : w.heap.size ≤ gb338)); have n4_ := Aside0.mk ((by rw [hg]; exact (below_size (by repeat (first | (with_reducible first | exact HB.out | apply below_alloc | apply pw_below_drewN | apply below_drew1 | refine below_set ?_ GE337.out) | exact HB.out))) : w.heap.size ≤ gb338)); have n5_ := Aside0.mk ((by rw [hg]; exact Nat.ne_of_lt (blk_lt (g := gb337) (o := .cells #[.slice A0_0 l0_0.length c0_0, .slice A0_1 l0_1.length c0_1] 25 (0, 0)) (by (with_reducible repeat (first | refine blk_drewN ?_ _ | refine blk_drew ?_ | refine blk_alloc ?_ _)); exact BK337.out)) : gb337 ≠ gb338)); have n6_ := Aside0.mk ((by rw [hg]; exact Nat.ne_of_gt (blk_lt (g := gb337) (o := .cells #[.slice A0_0 l0_0.length c0_0, .slice A0_1 l0_1.length c0_1] 25 (0, 0)) (by (with_reducible repeat (first | refine blk_drewN ?_ _ | refine blk_drew ?_ | refine blk_alloc ?_ _)); exact BK337.out)) : gb338 ≠ gb337)); clear BK337; clear HB; have BK337 := n0_; have HB := n1_; have BK338 := n2_; have GW338 := n3_; have GE338 := n4_; have NB337_338 := n5_; have NB338_337 := n6_; clear n0_ n1_ n2_ n3_ n4_ n5_ n6_; clear hb hbox hg) | ((with_reducible refine gate_dst (N := 4) rfl ?_); refine box_event ?hg (N := 4) ?hd (cs := #[.slice none 0 0, .slice none 0 0]) (t := 25) ?hr ?_; (case hd => rfl); (case hg => rfl); (case hr => first | (go_simp; done) | (go_simp; rfl)); intro gb339 hg w105 hbox hb; have n0_ := Aside0.mk (blk_below (g := gb337) (o := .cells #[.slice A0_0 l0_0.length c0_0, .slice A0_1 l0_1.length c0_1] 25 (0, 0)) (by (with_reducible repeat (first | refine blk_drewN ?_ _ | refine blk_drew ?_ | refine blk_alloc ?_ _)); exact BK337.out) hb); have n1_ := Aside0.mk (blk_below (g := gb338) (o := .cells #[.int .i64 a1_0, .int .i64 a1_1, .int .i64 a1_2, .string a1_3, .slice A1_4 l1_4.length c1_4, .slice A1_5 l1_5.length c1_5] 28 (0, 0)) (by (with_reducible repeat (first | refine blk_drewN ?_ _ | refine blk_drew ?_ | refine blk_alloc ?_ _)); exact BK338.out) hb); have n2_ := Aside0.mk (below_step (by repeat (first | (with_reducible first | exact HB.out | apply below_alloc | apply pw_below_drewN | apply below_drew1 | refine below_set ?_ GE337.out | refine below_set ?_ GE338.out) | exact HB.out)) hb); have n3_ := Aside0.mk (hbox); have n4_ := Aside0.mk ((by rw [hg]; exact (below_size (by repeat (first | (with_reducible first | exact HB.out | apply below_alloc | apply pw_below_drewN | apply below_drew1 | refine below_set ?_ GE337.out | refine below_set ?_ GE338.out) | exact HB.out))) : w.heap.size ≤ gb339)); have n5_ := Aside0.mk ((by rw [hg]; exact (below_size (by repeat (first | (with_reducible first | exact HB.out | apply below_alloc | apply pw_below_drewN | apply below_drew1 | refine below_set ?_ GE337.out | refine below_set ?_ GE338.out) | exact HB.out))) : w.heap.size ≤ gb339)); have n6_ := Aside0.mk ((by rw [hg]; exact Nat.ne_of_lt (blk_lt (g := gb337) (o := .cells #[.slice A0_0 l0_0.length c0_0, .slice A0_1 l0_1.length c0_1] 25 (0, 0)) (by (with_reducible repeat (first | refine blk_drewN ?_ _ | refine blk_drew ?_ | refine blk_alloc ?_ _)); exact BK337.out)) : gb337 ≠ gb339)); have n7_ := Aside0.mk ((by rw [hg]; exact Nat.ne_of_gt (blk_lt (g := gb337) (o := .cells #[.slice A0_0 l0_0.length c0_0, .slice A0_1 l0_1.length c0_1] 25 (0, 0)) (by (with_reducible repeat (first | refine blk_drewN ?_ _ | refine blk_drew ?_ | refine blk_alloc ?_ _)); exact BK337.out)) : gb339 ≠ gb337)); have n8_ := Aside0.mk ((by rw [hg]; exact Nat.ne_of_lt (blk_lt (g := gb338) (o := .cells #[.int .i64 a1_0, .int .i64 a1_1, .int .i64 a1_2, .string a1_3, .slice A1_4 l1_4.length c1_4, .slice A1_5 l1_5.length c1_5] 28 (0, 0)) (by (with_reducible repeat (first | refine blk_drewN ?_ _ | refine blk_drew ?_ | refine blk_alloc ?_ _)); exact BK338.out)) : gb338 ≠ gb339)); have n9_ := Aside0.mk ((by rw [hg]; exact Nat.ne_of_gt (blk_lt (g := gb338) (o := .cells #[.int .i64 a1_0, .int .i64 a1_1, .int .i64 a1_2, .string a1_3, .slice A1_4 l1_4.length c1_4, .slice A1_5 l1_5.length c1_5] 28 (0, 0)) (by (with_reducible repeat (first | refine blk_drewN ?_ _ | refine blk_drew ?_ | refine blk_alloc ?_ _)); exact BK338.out)) : gb339 ≠ gb338)); clear BK337; clear BK338; clear HB; have BK337 := n0_; have BK338 := n1_; have HB := n2_; have BK339 := n3_; have GW339 := n4_; have GE339 := n5_; have NB337_339 := n6_; have NB339_337 := n7_; have NB338_339 := n8_; have NB339_338 := n9_; clear n0_ n1_ n2_ n3_ n4_ n5_ n6_ n7_ n8_ n9_; clear hb hbox hg; have hnb106 := NB338_337.out; have hnc106 := NB337_338.out; have hnb107 := NB338_339.out; have hnc107 := NB339_338.out; have hcz108_0 : w105.cell? ⟨gb338, 0, none⟩ = some (.int .i64 a1_0) := (blk_cell BK338.out 0).trans rfl; have hcz108_1 : w105.cell? ⟨gb338, 1, none⟩ = some (.int .i64 a1_1) := (blk_cell BK338.out 1).trans rfl; have hcz108_2 : w105.cell? ⟨gb338, 2, none⟩ = some (.int .i64 a1_2) := (blk_cell BK338.out 2).trans rfl; have hcz108_3 : w105.cell? ⟨gb338, 3, none⟩ = some (.string a1_3) := (blk_cell BK338.out 3).trans rfl; have hcz108_4 : w105.cell? ⟨gb338, 4, none⟩ = some (.slice A1_4 l1_4.length c1_4) := (blk_cell BK338.out 4).trans rfl; have hcz108_5 : w105.cell? ⟨gb338, 5, none⟩ = some (.slice A1_5 l1_5.length c1_5) := (blk_cell BK338.out 5).trans rfl; have hfz108_0 := blk_frozen BK338.out 0; have hfz108_1 := blk_frozen BK338.out 1; have hfz108_2 := blk_frozen BK338.out 2; have hfz108_3 := blk_frozen BK338.out 3; have hfz108_4 := blk_frozen BK338.out 4; have hfz108_5 := blk_frozen BK338.out 5; have hnb109 := NB337_339.out; have hnc109 := NB339_337.out; have hcz110_0 : w105.cell? ⟨gb337, 0, none⟩ = some (.slice A0_0 l0_0.length c0_0) := (blk_cell BK337.out 0).trans rfl; have hcz110_1 : w105.cell? ⟨gb337, 1, none⟩ = some (.slice A0_1 l0_1.length c0_1) := (blk_cell BK337.out 1).trans rfl; have hfz110_0 := blk_frozen BK337.out 0; have hfz110_1 := blk_frozen BK337.out 1) | ((with_reducible refine gate_callee (f := 16) rfl ?_); refine goesL_ (some 85) rfl rfl Try.func16 (by kernel_rfl) rfl #[.agg #[.slice A0_0 l0_0.length c0_0, .slice A0_1 l0_1.length c0_1], .int .i64 a1_1, .int .i64 a1_2, .string a1_3] rfl (by (try simp only [List.map_toArray, List.map_cons, List.map_nil]); first | done | rfl | (simp only [List.length_drop, List.length_take]; rfl)) ?_; (with_reducible refine (edit_Set.calls _ _ l0_0 _ _ l0_1 a1_1 a1_2 a1_3 t389 t392 t395 _ ?side1 ?side2 ?side3 ?side4 A102.out).mono ?_); (case side1 => repeat (first | exact (Kd.C_below HR0_0.out HB.out) | (with_reducible refine Kd.C_alloc ?_ _) | (with_reducible refine Kd.C_drewN ?_ _) | (with_reducible refine Kd.C_drew ?_))); (case side2 => exact HC0_0.out); (case side3 => repeat (first | exact (Kd.C_below HR0_1.out HB.out) | (with_reducible refine Kd.C_alloc ?_ _) | (with_reducible refine Kd.C_drewN ?_ _) | (with_reducible refine Kd.C_drew ?_))); (case side4 => exact HC0_1.out); rintro e w111 ⟨v390, v393, rfl, ho0, ho1, hb⟩; refine ⟨_, rfl, ?_⟩; have n0_ := Aside0.mk (Kd.R_lower ho0 (below_size (by repeat (first | (with_reducible first | exact HB.out | apply below_alloc | apply pw_below_drewN | apply below_drew1 | refine below_set ?_ GE337.out | refine below_set ?_ GE338.out | refine below_set ?_ GE339.out) | exact HB.out)))); have n1_ := Aside0.mk (Kd.S_lower ho1 (below_size (by repeat (first | (with_reducible first | exact HB.out | apply below_alloc | apply pw_below_drewN | apply below_drew1 | refine below_set ?_ GE337.out | refine below_set ?_ GE338.out | refine below_set ?_ GE339.out) | exact HB.out)))); have n2_ := Aside0.mk (blk_below (g := gb337) (o := .cells #[.slice A0_0 l0_0.length c0_0, .slice A0_1 l0_1.length c0_1] 25 (0, 0)) (by (with_reducible repeat (first | refine blk_drewN ?_ _ | refine blk_drew ?_ | refine blk_alloc ?_ _)); exact BK337.out) hb); have n3_ := Aside0.mk (blk_below (g := gb338) (o := .cells #[.int .i64 a1_0, .int .i64 a1_1, .int .i64 a1_2, .string a1_3, .slice A1_4 l1_4.length c1_4, .slice A1_5 l1_5.length c1_5] 28 (0, 0)) (by (with_reducible repeat (first | refine blk_drewN ?_ _ | refine blk_drew ?_ | refine blk_alloc ?_ _)); exact BK338.out) hb); have n4_ := Aside0.mk (blk_below (g := gb339) (o := .cells #[.slice none 0 0, .slice none 0 0] 25 (0, 0)) (by (with_reducible repeat (first | refine blk_drewN ?_ _ | refine blk_drew ?_ | refine blk_alloc ?_ _)); exact BK339.out) hb); have n5_ := Aside0.mk (below_step (by repeat (first | (with_reducible first | exact HB.out | apply below_alloc | apply pw_below_drewN | apply below_drew1 | refine below_set ?_ GE337.out | refine below_set ?_ GE338.out | refine below_set ?_ GE339.out) | exact HB.out)) hb); clear BK337; clear BK338; clear BK339; clear HB; have HO391 := n0_; have HO394 := n1_; have BK337 := n2_; have BK338 := n3_; have BK339 := n4_; have HB := n5_; clear n0_ n1_ n2_ n3_ n4_ n5_; (try clear hb); (try clear hb2); (try clear hk); (try clear hi); (try clear ho0); (try clear ho1); obtain ⟨Ao112, co112, eo112⟩ := Kd.R_slice HO391.out; subst eo112; have hcz113_0 : w111.cell? ⟨gb339, 0, none⟩ = some (.slice none 0 0) := (blk_cell BK339.out 0).trans rfl; have hcz113_1 : w111.cell? ⟨gb339, 1, none⟩ = some (.slice none 0 0) := (blk_cell BK339.out 1).trans rfl; have hfz113_0 := blk_frozen BK339.out 0; have hfz113_1 := blk_frozen BK339.out 1; obtain ⟨Ao114, co114, eo114⟩ := Kd.S_slice HO394.out; subst eo114))
         refine bodyPost_ret (results_ct rfl _ _ gb339 25 #[.slice Ao112 t389.length co112, .slice Ao114 t392.length co114] (0, 0) _ rfl (by (with_reducible repeat (first | refine blk_drewN ?_ _ | refine blk_drew ?_ | refine blk_alloc ?_ _)); refine blk_put (cs := #[.slice Ao112 t389.length co112, .slice none 0 0]) ?_ 1 _ rfl; (with_reducible repeat (first | refine blk_drewN ?_ _ | refine blk_drew ?_ | refine blk_alloc ?_ _)); refine blk_put (cs := #[.slice none 0 0, .slice none 0 0]) ?_ 0 _ rfl; (with_reducible repeat (first | refine blk_drewN ?_ _ | refine blk_drew ?_ | refine blk_alloc ?_ _)); exact BK339.out) Try.underlying25 rfl (by kernel_rfl)) rfl ?_
         exact ⟨_, _, by first | rfl | (simp [errW_none, errW_some] <;> rfl) | (simp [*, errW_none, errW_some] <;> rfl), by (with_reducible repeat (first | apply Kd.R_alloc | apply Kd.R_drewN | apply Kd.R_drew)); exact Kd.R_mono (Kd.R_far (p := ⟨gb339, 1, none⟩) (Kd.R_far (p := ⟨gb339, 0, none⟩) (Kd.R_types HO391.out BK339.out (by decide)) (fun _ hk => hk.2) (.slice Ao112 t389.length co112)) (fun _ hk => hk.2) (.slice Ao114 t392.length co114)) (fun _ hk => trivial), by (with_reducible repeat (first | apply Kd.S_alloc | apply Kd.S_drewN | apply Kd.S_drew)); exact Kd.S_mono (Kd.S_far (p := ⟨gb339, 1, none⟩) (Kd.S_far (p := ⟨gb339, 0, none⟩) (Kd.S_types HO394.out BK339.out (by decide)) (fun _ hk => hk.2) (.slice Ao112 t389.length co112)) (fun _ hk => hk.2) (.slice Ao114 t392.length co114)) (fun _ hk => hk.1), by repeat (first | (with_reducible first | exact HB.out | apply below_alloc | apply pw_below_drewN | apply below_drew1 | refine below_set ?_ GE337.out | refine below_set ?_ GE338.out | refine below_set ?_ GE339.out) | exact HB.out)⟩
        ·rw [if_neg c101] at H
         have c101b0 : (a1_0 == 7) = false := beq_eq_false_iff_ne.mpr c101
         have c101b1 : (a1_0 != 7) = true := bne_iff_ne.mpr c101
         replace H := Option.bind_eq_some_iff.mp H
         obtain ⟨⟨t396, t399, t402⟩, A1150, H⟩ := H
         replace H : (some (t396, t399, t402)) = some (r1, r2, r3) := H
         have A115 := Aside0.mk A1150
         clear A1150
         simp only [Option.some.injEq, Prod.mk.injEq] at H
         obtain ⟨rfl, rfl, rfl⟩ := H
         go_enter Try.func13, Try.ntmps13
         go_wp2_with (first | ((with_reducible refine gate_dst (N := 2) rfl ?_); refine box_event ?hg (N := 2) ?hd (cs := #[.slice A0_0 l0_0.length c0_0, .slice A0_1 l0_1.length c0_1]) (t := 25) ?hr ?_; (case hd => rfl); (case hg => rfl); (case hr => first | (go_simp; done) | (go_simp; rfl)); intro gb337 hg w116 hbox hb; have n0_ := Aside0.mk (below_step (by repeat (first | (with_reducible first | exact HB.out | apply below_alloc | apply pw_below_drewN | apply below_drew1) | exact HB.out)) hb); have n1_ := Aside0.mk (hbox); have n2_ := Aside0.mk ((by rw [hg]; exact (below_size (by repeat (first | (with_reducible first | exact HB.out | apply below_alloc | apply pw_below_drewN | apply below_drew1) | exact HB.out))) : w.heap.size ≤ gb337)); have n3_ := Aside0.mk ((by rw [hg]; exact (below_size (by repeat (first | (with_reducible first | exact HB.out | apply below_alloc | apply pw_below_drewN | apply below_drew1) | exact HB.out))) : w.heap.size ≤ gb337)); clear HB; have HB := n0_; have BK337 := n1_; have GW337 := n2_; have GE337 := n3_; clear n0_ n1_ n2_ n3_; clear hb hbox hg) | ((with_reducible refine gate_dst (N := 3) rfl ?_); refine box_event ?hg (N := 3) ?hd (cs := #[.int .i64 a1_0, .int .i64 a1_1, .int .i64 a1_2, .string a1_3, .slice A1_4 l1_4.length c1_4, .slice A1_5 l1_5.length c1_5]) (t := 28) ?hr ?_; (case hd => rfl); (case hg => rfl); (case hr => first | (go_simp; done) | (go_simp; rfl)); intro gb338 hg w117 hbox hb; have n0_ := Aside0.mk (blk_below (g := gb337) (o := .cells #[.slice A0_0 l0_0.length c0_0, .slice A0_1 l0_1.length c0_1] 25 (0, 0)) (by (with_reducible repeat (first | refine blk_drewN ?_ _ | refine blk_drew ?_ | refine blk_alloc ?_ _)); exact BK337.out) hb); have n1_ := Aside0.mk (below_step (by repeat (first | (with_reducible first | exact HB.out | apply below_alloc | apply pw_below_drewN | apply below_drew1 | refine below_set ?_ GE337.out) | exact HB.out)) hb); have n2_ := Aside0.mk (hbox); have n3_ := Aside0.mk ((by rw [hg]; exact (below_size (by repeat (first | (with_reducible first | exact HB.out | apply below_alloc | apply pw_below_drewN | apply below_drew1 | refine below_set ?_ GE337.out) | exact HB.out))) : w.heap.size ≤ gb338)); have n4_ := Aside0.mk ((by rw [hg]; exact (below_size (by repeat (first | (with_reducible first | exact HB.out | apply below_alloc | apply pw_below_drewN | apply below_drew1 | refine below_set ?_ GE337.out) | exact HB.out))) : w.heap.size ≤ gb338)); have n5_ := Aside0.mk ((by rw [hg]; exact Nat.ne_of_lt (blk_lt (g := gb337) (o := .cells #[.slice A0_0 l0_0.length c0_0, .slice A0_1 l0_1.length c0_1] 25 (0, 0)) (by (with_reducible repeat (first | refine blk_drewN ?_ _ | refine blk_drew ?_ | refine blk_alloc ?_ _)); exact BK337.out)) : gb337 ≠ gb338)); have n6_ := Aside0.mk ((by rw [hg]; exact Nat.ne_of_gt (blk_lt (g := gb337) (o := .cells #[.slice A0_0 l0_0.length c0_0, .slice A0_1 l0_1.length c0_1] 25 (0, 0)) (by (with_reducible repeat (first | refine blk_drewN ?_ _ | refine blk_drew ?_ | refine blk_alloc ?_ _)); exact BK337.out)) : gb338 ≠ gb337)); clear BK337; clear HB; have BK337 := n0_; have HB := n1_; have BK338 := n2_; have GW338 := n3_; have GE338 := n4_; have NB337_338 := n5_; have NB338_337 := n6_; clear n0_ n1_ n2_ n3_ n4_ n5_ n6_; clear hb hbox hg) | ((with_reducible refine gate_dst (N := 4) rfl ?_); refine box_event ?hg (N := 4) ?hd (cs := #[.slice none 0 0, .slice none 0 0]) (t := 25) ?hr ?_; (case hd => rfl); (case hg => rfl); (case hr => first | (go_simp; done) | (go_simp; rfl)); intro gb339 hg w118 hbox hb; have n0_ := Aside0.mk (blk_below (g := gb337) (o := .cells #[.slice A0_0 l0_0.length c0_0, .slice A0_1 l0_1.length c0_1] 25 (0, 0)) (by (with_reducible repeat (first | refine blk_drewN ?_ _ | refine blk_drew ?_ | refine blk_alloc ?_ _)); exact BK337.out) hb); have n1_ := Aside0.mk (blk_below (g := gb338) (o := .cells #[.int .i64 a1_0, .int .i64 a1_1, .int .i64 a1_2, .string a1_3, .slice A1_4 l1_4.length c1_4, .slice A1_5 l1_5.length c1_5] 28 (0, 0)) (by (with_reducible repeat (first | refine blk_drewN ?_ _ | refine blk_drew ?_ | refine blk_alloc ?_ _)); exact BK338.out) hb); have n2_ := Aside0.mk (below_step (by repeat (first | (with_reducible first | exact HB.out | apply below_alloc | apply pw_below_drewN | apply below_drew1 | refine below_set ?_ GE337.out | refine below_set ?_ GE338.out) | exact HB.out)) hb); have n3_ := Aside0.mk (hbox); have n4_ := Aside0.mk ((by rw [hg]; exact (below_size (by repeat (first | (with_reducible first | exact HB.out | apply below_alloc | apply pw_below_drewN | apply below_drew1 | refine below_set ?_ GE337.out | refine below_set ?_ GE338.out) | exact HB.out))) : w.heap.size ≤ gb339)); have n5_ := Aside0.mk ((by rw [hg]; exact (below_size (by repeat (first | (with_reducible first | exact HB.out | apply below_alloc | apply pw_below_drewN | apply below_drew1 | refine below_set ?_ GE337.out | refine below_set ?_ GE338.out) | exact HB.out))) : w.heap.size ≤ gb339)); have n6_ := Aside0.mk ((by rw [hg]; exact Nat.ne_of_lt (blk_lt (g := gb337) (o := .cells #[.slice A0_0 l0_0.length c0_0, .slice A0_1 l0_1.length c0_1] 25 (0, 0)) (by (with_reducible repeat (first | refine blk_drewN ?_ _ | refine blk_drew ?_ | refine blk_alloc ?_ _)); exact BK337.out)) : gb337 ≠ gb339)); have n7_ := Aside0.mk ((by rw [hg]; exact Nat.ne_of_gt (blk_lt (g := gb337) (o := .cells #[.slice A0_0 l0_0.length c0_0, .slice A0_1 l0_1.length c0_1] 25 (0, 0)) (by (with_reducible repeat (first | refine blk_drewN ?_ _ | refine blk_drew ?_ | refine blk_alloc ?_ _)); exact BK337.out)) : gb339 ≠ gb337)); have n8_ := Aside0.mk ((by rw [hg]; exact Nat.ne_of_lt (blk_lt (g := gb338) (o := .cells #[.int .i64 a1_0, .int .i64 a1_1, .int .i64 a1_2, .string a1_3, .slice A1_4 l1_4.length c1_4, .slice A1_5 l1_5.length c1_5] 28 (0, 0)) (by (with_reducible repeat (first | refine blk_drewN ?_ _ | refine blk_drew ?_ | refine blk_alloc ?_ _)); exact BK338.out)) : gb338 ≠ gb339)); have n9_ := Aside0.mk ((by rw [hg]; exact Nat.ne_of_gt (blk_lt (g := gb338) (o := .cells #[.int .i64 a1_0, .int .i64 a1_1, .int .i64 a1_2, .string a1_3, .slice A1_4 l1_4.length c1_4, .slice A1_5 l1_5.length c1_5] 28 (0, 0)) (by (with_reducible repeat (first | refine blk_drewN ?_ _ | refine blk_drew ?_ | refine blk_alloc ?_ _)); exact BK338.out)) : gb339 ≠ gb338)); clear BK337; clear BK338; clear HB; have BK337 := n0_; have BK338 := n1_; have HB := n2_; have BK339 := n3_; have GW339 := n4_; have GE339 := n5_; have NB337_339 := n6_; have NB339_337 := n7_; have NB338_339 := n8_; have NB339_338 := n9_; clear n0_ n1_ n2_ n3_ n4_ n5_ n6_ n7_ n8_ n9_; clear hb hbox hg; have hnb119 := NB338_337.out; have hnc119 := NB337_338.out; have hnb120 := NB338_339.out; have hnc120 := NB339_338.out; have hcz121_0 : w118.cell? ⟨gb338, 0, none⟩ = some (.int .i64 a1_0) := (blk_cell BK338.out 0).trans rfl; have hcz121_1 : w118.cell? ⟨gb338, 1, none⟩ = some (.int .i64 a1_1) := (blk_cell BK338.out 1).trans rfl; have hcz121_2 : w118.cell? ⟨gb338, 2, none⟩ = some (.int .i64 a1_2) := (blk_cell BK338.out 2).trans rfl; have hcz121_3 : w118.cell? ⟨gb338, 3, none⟩ = some (.string a1_3) := (blk_cell BK338.out 3).trans rfl; have hcz121_4 : w118.cell? ⟨gb338, 4, none⟩ = some (.slice A1_4 l1_4.length c1_4) := (blk_cell BK338.out 4).trans rfl; have hcz121_5 : w118.cell? ⟨gb338, 5, none⟩ = some (.slice A1_5 l1_5.length c1_5) := (blk_cell BK338.out 5).trans rfl; have hfz121_0 := blk_frozen BK338.out 0; have hfz121_1 := blk_frozen BK338.out 1; have hfz121_2 := blk_frozen BK338.out 2; have hfz121_3 := blk_frozen BK338.out 3; have hfz121_4 := blk_frozen BK338.out 4; have hfz121_5 := blk_frozen BK338.out 5; have hnb122 := NB337_339.out; have hnc122 := NB339_337.out; have hcz123_0 : w118.cell? ⟨gb337, 0, none⟩ = some (.slice A0_0 l0_0.length c0_0) := (blk_cell BK337.out 0).trans rfl; have hcz123_1 : w118.cell? ⟨gb337, 1, none⟩ = some (.slice A0_1 l0_1.length c0_1) := (blk_cell BK337.out 1).trans rfl; have hfz123_0 := blk_frozen BK337.out 0; have hfz123_1 := blk_frozen BK337.out 1) | ((with_reducible refine gate_callee (f := 19) rfl ?_); refine goesL_ (some 91) rfl rfl Try.func19 (by kernel_rfl) rfl #[.agg #[.slice A0_0 l0_0.length c0_0, .slice A0_1 l0_1.length c0_1], .slice A1_5 l1_5.length c1_5] rfl (by (try simp only [List.map_toArray, List.map_cons, List.map_nil]); first | done | rfl | (simp only [List.length_drop, List.length_take]; rfl)) ?_; (with_reducible refine (edit_Project.calls _ _ l0_0 _ _ l0_1 _ _ l1_5 t396 t399 t402 _ ?side1 ?side2 ?side3 ?side4 ?side5 ?side6 A115.out).mono ?_); (case side1 => repeat (first | exact (Kd.C_below HR0_0.out HB.out) | (with_reducible refine Kd.C_alloc ?_ _) | (with_reducible refine Kd.C_drewN ?_ _) | (with_reducible refine Kd.C_drew ?_))); (case side2 => exact HC0_0.out); (case side3 => repeat (first | exact (Kd.C_below HR0_1.out HB.out) | (with_reducible refine Kd.C_alloc ?_ _) | (with_reducible refine Kd.C_drewN ?_ _) | (with_reducible refine Kd.C_drew ?_))); (case side4 => exact HC0_1.out); (case side5 => repeat (first | exact (Kd.C_below HR1_5.out HB.out) | (with_reducible refine Kd.C_alloc ?_ _) | (with_reducible refine Kd.C_drewN ?_ _) | (with_reducible refine Kd.C_drew ?_))); (case side6 => exact HC1_5.out); rintro e w124 ⟨v397, v400, rfl, ho0, ho1, hb⟩; refine ⟨_, rfl, ?_⟩; have n0_ := Aside0.mk (Kd.R_lower ho0 (below_size (by repeat (first | (with_reducible first | exact HB.out | apply below_alloc | apply pw_below_drewN | apply below_drew1 | refine below_set ?_ GE337.out | refine below_set ?_ GE338.out | refine below_set ?_ GE339.out) | exact HB.out)))); have n1_ := Aside0.mk (Kd.S_lower ho1 (below_size (by repeat (first | (with_reducible first | exact HB.out | apply below_alloc | apply pw_below_drewN | apply below_drew1 | refine below_set ?_ GE337.out | refine below_set ?_ GE338.out | refine below_set ?_ GE339.out) | exact HB.out)))); have n2_ := Aside0.mk (blk_below (g := gb337) (o := .cells #[.slice A0_0 l0_0.length c0_0, .slice A0_1 l0_1.length c0_1] 25 (0, 0)) (by (with_reducible repeat (first | refine blk_drewN ?_ _ | refine blk_drew ?_ | refine blk_alloc ?_ _)); exact BK337.out) hb); have n3_ := Aside0.mk (blk_below (g := gb338) (o := .cells #[.int .i64 a1_0, .int .i64 a1_1, .int .i64 a1_2, .string a1_3, .slice A1_4 l1_4.length c1_4, .slice A1_5 l1_5.length c1_5] 28 (0, 0)) (by (with_reducible repeat (first | refine blk_drewN ?_ _ | refine blk_drew ?_ | refine blk_alloc ?_ _)); exact BK338.out) hb); have n4_ := Aside0.mk (blk_below (g := gb339) (o := .cells #[.slice none 0 0, .slice none 0 0] 25 (0, 0)) (by (with_reducible repeat (first | refine blk_drewN ?_ _ | refine blk_drew ?_ | refine blk_alloc ?_ _)); exact BK339.out) hb); have n5_ := Aside0.mk (below_step (by repeat (first | (with_reducible first | exact HB.out | apply below_alloc | apply pw_below_drewN | apply below_drew1 | refine below_set ?_ GE337.out | refine below_set ?_ GE338.out | refine below_set ?_ GE339.out) | exact HB.out)) hb); clear BK337; clear BK338; clear BK339; clear HB; have HO398 := n0_; have HO401 := n1_; have BK337 := n2_; have BK338 := n3_; have BK339 := n4_; have HB := n5_; clear n0_ n1_ n2_ n3_ n4_ n5_; (try clear hb); (try clear hb2); (try clear hk); (try clear hi); (try clear ho0); (try clear ho1); obtain ⟨Ao125, co125, eo125⟩ := Kd.R_slice HO398.out; subst eo125; have hcz126_0 : w124.cell? ⟨gb339, 0, none⟩ = some (.slice none 0 0) := (blk_cell BK339.out 0).trans rfl; have hcz126_1 : w124.cell? ⟨gb339, 1, none⟩ = some (.slice none 0 0) := (blk_cell BK339.out 1).trans rfl; have hfz126_0 := blk_frozen BK339.out 0; have hfz126_1 := blk_frozen BK339.out 1; obtain ⟨Ao127, co127, eo127⟩ := Kd.S_slice HO401.out; subst eo127))
         refine bodyPost_ret (results_ct rfl _ _ gb339 25 #[.slice Ao125 t396.length co125, .slice Ao127 t399.length co127] (0, 0) _ rfl (by (with_reducible repeat (first | refine blk_drewN ?_ _ | refine blk_drew ?_ | refine blk_alloc ?_ _)); refine blk_put (cs := #[.slice Ao125 t396.length co125, .slice none 0 0]) ?_ 1 _ rfl; (with_reducible repeat (first | refine blk_drewN ?_ _ | refine blk_drew ?_ | refine blk_alloc ?_ _)); refine blk_put (cs := #[.slice none 0 0, .slice none 0 0]) ?_ 0 _ rfl; (with_reducible repeat (first | refine blk_drewN ?_ _ | refine blk_drew ?_ | refine blk_alloc ?_ _)); exact BK339.out) Try.underlying25 rfl (by kernel_rfl)) rfl ?_
         exact ⟨_, _, by first | rfl | (simp [errW_none, errW_some] <;> rfl) | (simp [*, errW_none, errW_some] <;> rfl), by (with_reducible repeat (first | apply Kd.R_alloc | apply Kd.R_drewN | apply Kd.R_drew)); exact Kd.R_mono (Kd.R_far (p := ⟨gb339, 1, none⟩) (Kd.R_far (p := ⟨gb339, 0, none⟩) (Kd.R_types HO398.out BK339.out (by decide)) (fun _ hk => hk.2) (.slice Ao125 t396.length co125)) (fun _ hk => hk.2) (.slice Ao127 t399.length co127)) (fun _ hk => trivial), by (with_reducible repeat (first | apply Kd.S_alloc | apply Kd.S_drewN | apply Kd.S_drew)); exact Kd.S_mono (Kd.S_far (p := ⟨gb339, 1, none⟩) (Kd.S_far (p := ⟨gb339, 0, none⟩) (Kd.S_types HO401.out BK339.out (by decide)) (fun _ hk => hk.2) (.slice Ao125 t396.length co125)) (fun _ hk => hk.2) (.slice Ao127 t399.length co127)) (fun _ hk => hk.1), by repeat (first | (with_reducible first | exact HB.out | apply below_alloc | apply pw_below_drewN | apply below_drew1 | refine below_set ?_ GE337.out | refine below_set ?_ GE338.out | refine below_set ?_ GE339.out) | exact HB.out)⟩
end Go.Proofs.Ytaolakknkhggnaa.X
end
section
namespace Go.Proofs.Ytaolakknkhggnaa.X
open Go.RowKit Go.Maps Go.Shelf Go.Proofs.YtaolakknkhggnaaW.PrintWords Go.Proofs.YtaolakknkhggnaaW.PrintLast
set_option linter.unusedVariables false
theorem rd_eq {a b : List ByteArray} (hl : a.length = b.length) (h : ∀ j, j < a.length → rdOf ByteArray.empty a (j : Int) = rdOf ByteArray.empty b (j : Int)) : a = b := by
  refine List.ext_getElem hl fun i h1 h2 => ?_
  have := h i h1
  unfold rdOf at this
  rw [show ((i : Int)).toNat = i from rfl, List.getD_eq_getElem?_getD, List.getD_eq_getElem?_getD, List.getElem?_eq_getElem h1, List.getElem?_eq_getElem h2] at this
  exact this
theorem str_eq {x y : ByteArray} : x.toList = y.toList ↔ x = y := by
  rw [ByteArray.toList_eq, ByteArray.toList_eq]
  exact ⟨fun h => ByteArray.ext (Array.toList_inj.mp h), fun h => by rw [h]⟩
theorem bytes_ne {x y : ByteArray} (h : x ≠ y) : (x.toList == y.toList) = false := by
  rw [beq_eq_false_iff_ne]
  exact fun e => h (str_eq.1 e)
set_option maxRecDepth 100000 in
set_option maxHeartbeats 800000 in
theorem equal_calls (A0 : Option Addr) (c0 : Nat) (a : List ByteArray) (A1 : Option Addr) (c1 : Nat) (b : List ByteArray) (w : World) (hr0 : Kd.C Kd.string w A0 a.length a) (hr1 : Kd.C Kd.string w A1 b.length b) :
    Calls Try.prog 41 #[.slice A0 a.length c0, .slice A1 b.length c1] w fun e w' => e = .returned (.bool (decide (a = b))) ∧ Below w.heap.size w w' := by
  obtain ⟨r, hr⟩ : ∃ r : Bool, Aside0 (decide (a = b) = r) := ⟨_, ⟨rfl⟩⟩
  rw [hr.out]
  have ha := hr0.2.1
  have hb := hr1.2.1
  have H0 := Aside0.mk hr0
  have H1 := Aside0.mk hr1
  clear hr0 hr1
  by_cases hl : a.length = b.length
  · have hlI : (a.length : Int) = (b.length : Int) := by omega
    have HL := Aside0.mk hl
    go_enter Try.func41, Try.ntmps41
    go_wp2
    go_loopw [13] (fun vi wr => ∃ i : Nat, vi = .int .i64 i ∧ i ≤ a.length ∧ Aside0 (∀ j, j < i → rdOf ByteArray.empty a (j : Int) = rdOf ByteArray.empty b (j : Int)) ∧ Aside0 (Below w.heap.size w wr))
      (fun vi _ => a.length - (intOf vi).toNat)
    case atStart => exact ⟨0, rfl, Nat.zero_le _, ⟨fun j hj => by omega⟩, ⟨Below.refl _ _⟩⟩
    case round =>
      obtain ⟨i, rfl, hi, HE, HB⟩ := hrel
      by_cases hlt : i < a.length
      · obtain ⟨ad, eA, hx⟩ := strAtA (Kd.C_below H0.out HB.out) hlt
        obtain ⟨bd, eB, hy⟩ := strAtA (Kd.C_below H1.out HB.out) (show i < b.length by omega)
        cases eA
        cases eB
        have hiI : (i : Int) < (a.length : Int) := by omega
        have hiJ : (i : Int) < (b.length : Int) := by omega
        by_cases hxy : rdOf ByteArray.empty a (i : Int) = rdOf ByteArray.empty b (i : Int)
        · have HXY := Aside0.mk hxy
          rw [← hxy] at hy
          clear hxy
          generalize rdOf ByteArray.empty a (i : Int) = x at hx hy
          clear hl
          go_wp2
          go_quiet (fail)
          go_wp2
          go_roundw
          case rel =>
            refine ⟨i + 1, by go_num, by omega, ⟨fun j hj => ?_⟩, ⟨pw_below_drewN HB.out _⟩⟩
            rcases Nat.lt_or_ge j i with h | h
            · exact HE.out j h
            · obtain rfl : j = i := by omega
              exact HXY.out
          case measure => simp [intOf]; omega
        · have HN : Aside0 (¬ a = b) := ⟨fun e => hxy (by rw [e])⟩
          have hb1 := bytes_ne hxy
          generalize rdOf ByteArray.empty a (i : Int) = x at hx hxy hb1
          generalize rdOf ByteArray.empty b (i : Int) = y at hy hxy hb1
          clear hl hxy
          go_wp2
          go_quiet (fail)
          go_wp2
          go_ret
          exact ⟨by rw [← hr.out]; simp [HN.out], pw_below_drewN HB.out _⟩
      · obtain rfl : i = a.length := by omega
        have HEQ := Aside0.mk (rd_eq HL.out HE.out)
        clear hl
        go_wp2
        go_ret
        exact ⟨by rw [← hr.out]; simp [HEQ.out], HB.out⟩
  · have hlI : ¬ (a.length : Int) = (b.length : Int) := by omega
    have hlJ : ((a.length : Int) == (b.length : Int)) = false := by simp; omega
    go_enter Try.func41, Try.ntmps41
    go_wp2
    go_ret
    refine ⟨?_, Below.refl _ _⟩
    rw [← hr.out]
    have : ¬ a = b := fun e => hl (by rw [e])
    simp [this]
theorem rows_eq {a b : List (List ByteArray)} (hl : a.length = b.length) (h : ∀ j, j < a.length → a.getD j [] = b.getD j []) : a = b := by
  refine List.ext_getElem hl fun i h1 h2 => ?_
  have := h i h1
  rw [List.getD_eq_getElem?_getD, List.getD_eq_getElem?_getD, List.getElem?_eq_getElem h1, List.getElem?_eq_getElem h2] at this
  exact this
set_option maxRecDepth 100000 in
set_option maxHeartbeats 800000 in
theorem equalF_calls (A0 : Option Addr) (c0 : Nat) (a : List (List ByteArray)) (A1 : Option Addr) (c1 : Nat) (b : List (List ByteArray)) (w0 w : World) (hw : Below w0.heap.size w0 w) (hr0 : Kd.C (Kd.slice 9 Kd.string) w0 A0 a.length a) (hr1 : Kd.C (Kd.slice 9 Kd.string) w0 A1 b.length b) :
    Calls Try.prog 42 #[.slice A0 a.length c0, .slice A1 b.length c1, .func (.func 41) #[] #[]] w fun e w' => e = .returned (.bool (decide (a = b))) ∧ Below w.heap.size w w' := by
  obtain ⟨r, hr⟩ : ∃ r : Bool, Aside0 (decide (a = b) = r) := ⟨_, ⟨rfl⟩⟩
  rw [hr.out]
  have ha := hr0.2.1
  have hb := hr1.2.1
  have H0 := Aside0.mk (Kd.C_below hr0 hw)
  have H1 := Aside0.mk (Kd.C_below hr1 hw)
  clear hr0 hr1 hw
  by_cases hl : a.length = b.length
  · have hlI : (a.length : Int) = (b.length : Int) := by omega
    have HL := Aside0.mk hl
    go_enter Try.func42, Try.ntmps42
    go_wp2
    go_loopw [17] (fun vi wr => ∃ i : Nat, vi = .int .i64 i ∧ i ≤ a.length ∧ Aside0 (∀ j, j < i → a.getD j [] = b.getD j []) ∧ Aside0 (Below w.heap.size w wr))
      (fun vi _ => a.length - (intOf vi).toNat)
    case atStart => exact ⟨0, rfl, Nat.zero_le _, ⟨fun j hj => by omega⟩, ⟨Below.refl _ _⟩⟩
    case round =>
      obtain ⟨i, rfl, hi, HE, HB⟩ := hrel
      by_cases hlt : i < a.length
      · obtain ⟨ad, Ax, cx, eA, hx, hcx, hCx⟩ := rowAt (Kd.C_below H0.out HB.out) hlt
        obtain ⟨bd, Bx, dx, eB, hy, hdx, hCy⟩ := rowAt (Kd.C_below H1.out HB.out) (show i < b.length by omega)
        cases eA
        cases eB
        have hiI : (i : Int) < (a.length : Int) := by omega
        have hiJ : (i : Int) < (b.length : Int) := by omega
        have HK := Aside0.mk (equal_calls Ax cx (a.getD i []) Bx dx (b.getD i []) wr hCx hCy)
        clear hl hCx hCy
        by_cases hxy : a.getD i [] = b.getD i []
        · have HXY := Aside0.mk hxy
          have HD : Aside0 (decide (a.getD i [] = b.getD i []) = true) := ⟨decide_eq_true hxy⟩
          clear hxy
          generalize (a.getD i []).length = q at *
          generalize (b.getD i []).length = q' at *
          go_wp2_with (go_at_call 41; refine HK.out.mono ?_; rintro e w1 ⟨rfl, hb1⟩; rw [HD.out]; have HB1 := Aside0.mk (HB.out.trans (hb1.mono HB.out.size)); clear hb1)
          go_roundw
          case rel =>
            refine ⟨i + 1, by go_num, by omega, ⟨fun j hj => ?_⟩, HB1⟩
            rcases Nat.lt_or_ge j i with h | h
            · exact HE.out j h
            · obtain rfl : j = i := by omega
              exact HXY.out
          case measure => simp [intOf]; omega
        · have HN : Aside0 (¬ a = b) := ⟨fun e => hxy (by rw [e])⟩
          have HD : Aside0 (decide (a.getD i [] = b.getD i []) = false) := ⟨decide_eq_false hxy⟩
          clear hxy
          generalize (a.getD i []).length = q at *
          generalize (b.getD i []).length = q' at *
          go_wp2_with (go_at_call 41; refine HK.out.mono ?_; rintro e w1 ⟨rfl, hb1⟩; rw [HD.out]; have HB1 := Aside0.mk (HB.out.trans (hb1.mono HB.out.size)); clear hb1)
          go_ret
          exact ⟨by rw [← hr.out]; simp [HN.out], HB1.out⟩
      · obtain rfl : i = a.length := by omega
        have HEQ := Aside0.mk (rows_eq HL.out HE.out)
        clear hl
        go_wp2
        go_ret
        exact ⟨by rw [← hr.out]; simp [HEQ.out], HB.out⟩
  · have hlI : ¬ (a.length : Int) = (b.length : Int) := by omega
    have hlJ : ((a.length : Int) == (b.length : Int)) = false := by simp; omega
    go_enter Try.func42, Try.ntmps42
    go_wp2
    go_ret
    refine ⟨?_, Below.refl _ _⟩
    rw [← hr.out]
    have : ¬ a = b := fun e => hl (by rw [e])
    simp [this]
def table_Same.f (l0_0 : List ByteArray) (l0_1 : List (List ByteArray)) (l1_0 : List ByteArray) (l1_1 : List (List ByteArray)) : Option Bool := some (decide (l0_0 = l1_0) && decide (l0_1 = l1_1))
set_option maxRecDepth 100000 in
set_option maxHeartbeats 800000 in
theorem table_Same.calls (A0_0 : Option Addr) (c0_0 : Nat) (l0_0 : List ByteArray) (A0_1 : Option Addr) (c0_1 : Nat) (l0_1 : List (List ByteArray)) (A1_0 : Option Addr) (c1_0 : Nat) (l1_0 : List ByteArray) (A1_1 : Option Addr) (c1_1 : Nat) (l1_1 : List (List ByteArray)) (r : Bool) (w : World)
    (hr0_0 : Kd.C Kd.string w A0_0 l0_0.length l0_0) (hc0_0 : l0_0.length ≤ c0_0) (hr0_1 : Kd.C (Kd.slice 9 Kd.string) w A0_1 l0_1.length l0_1) (hc0_1 : l0_1.length ≤ c0_1)
    (hr1_0 : Kd.C Kd.string w A1_0 l1_0.length l1_0) (hc1_0 : l1_0.length ≤ c1_0) (hr1_1 : Kd.C (Kd.slice 9 Kd.string) w A1_1 l1_1.length l1_1) (hc1_1 : l1_1.length ≤ c1_1) (h : table_Same.f l0_0 l0_1 l1_0 l1_1 = some r) :
    Calls Try.prog 18 #[.agg #[.slice A0_0 l0_0.length c0_0, .slice A0_1 l0_1.length c0_1], .agg #[.slice A1_0 l1_0.length c1_0, .slice A1_1 l1_1.length c1_1]] w fun e w' => e = .returned (.bool r) ∧ Below w.heap.size w w' := by
  have hr : Aside0 ((decide (l0_0 = l1_0) && decide (l0_1 = l1_1)) = r) := ⟨Option.some.inj h⟩
  have HR := Aside0.mk (And.intro hr0_0 (And.intro hr0_1 (And.intro hr1_0 hr1_1)))
  obtain ⟨W, hW⟩ : ∃ W, Aside0 ((w.alloc (.cells #[.slice A0_0 l0_0.length c0_0, .slice A0_1 l0_1.length c0_1] 25 (0, 0))).alloc (.cells #[.slice A1_0 l1_0.length c1_0, .slice A1_1 l1_1.length c1_1] 25 (0, 0)) = W) := ⟨_, ⟨rfl⟩⟩
  have hB : Below w.heap.size w W := by rw [← hW.out]; exact below_alloc (below_alloc (Below.refl _ _) _) _
  have hT1 : W.heap[w.heap.size + 1]? = some (.cells #[.slice A1_0 l1_0.length c1_0, .slice A1_1 l1_1.length c1_1] 25 (0, 0)) := by
    rw [← hW.out]
    have h := blk_new (w.alloc (.cells #[.slice A0_0 l0_0.length c0_0, .slice A0_1 l0_1.length c0_1] 25 (0, 0))) (.cells #[.slice A1_0 l1_0.length c1_0, .slice A1_1 l1_1.length c1_1] 25 (0, 0))
    rw [World.size_alloc] at h
    exact h
  have hT0 : W.heap[w.heap.size]? = some (.cells #[.slice A0_0 l0_0.length c0_0, .slice A0_1 l0_1.length c0_1] 25 (0, 0)) := by
    rw [← hW.out]
    exact ((below_alloc (Below.refl _ (w.alloc _)) _).block _ (by simp)).trans (blk_new w _)
  have HB := Aside0.mk hB
  have HT := Aside0.mk (And.intro hT0 hT1)
  have HE := Aside0.mk (equal_calls A0_0 c0_0 l0_0 A1_0 c1_0 l1_0 W (Kd.C_below hr0_0 hB) (Kd.C_below hr1_0 hB))
  clear h hr0_0 hc0_0 hr0_1 hc0_1 hr1_0 hc1_0 hr1_1 hc1_1 hT0 hT1 hB
  go_enter Try.func18, Try.ntmps18
  by_cases h0 : l0_0 = l1_0
  · have HD := Aside0.mk (decide_eq_true h0)
    have HD0 := Aside0.mk h0
    clear h0
    go_wp2_with (first
      | (go_at_call 41; rw [hW.out]; refine HE.out.mono ?_; rintro e w1 ⟨rfl, hb⟩; rw [HD.out]; have HB1 := Aside0.mk (HB.out.trans (hb.mono HB.out.size)); have h00 := blk_cell ((hb.block _ (lt_of_block HT.out.1)).trans HT.out.1) 0; have h01 := blk_cell ((hb.block _ (lt_of_block HT.out.1)).trans HT.out.1) 1; have h10 := blk_cell ((hb.block _ (lt_of_block HT.out.2)).trans HT.out.2) 0; have h11 := blk_cell ((hb.block _ (lt_of_block HT.out.2)).trans HT.out.2) 1; clear hb)
      | (go_at_call 42; refine (equalF_calls A0_1 c0_1 l0_1 A1_1 c1_1 l1_1 w _ HB1.out HR.out.2.1 HR.out.2.2.2).mono ?_; rintro e w2 ⟨rfl, hb2⟩; have HB2 := Aside0.mk (HB1.out.trans (hb2.mono HB1.out.size)); clear hb2))
    go_ret
    exact ⟨by rw [← hr.out]; simp [HD0.out], HB2.out⟩
  · have HD := Aside0.mk (decide_eq_false h0)
    have HD0 := Aside0.mk h0
    clear h0
    go_wp2_with (first
      | (go_at_call 41; rw [hW.out]; refine HE.out.mono ?_; rintro e w1 ⟨rfl, hb⟩; rw [HD.out]; have HB1 := Aside0.mk (HB.out.trans (hb.mono HB.out.size)); clear hb))
    go_ret
    exact ⟨by rw [← hr.out]; simp [HD0.out], HB1.out⟩
end Go.Proofs.Ytaolakknkhggnaa.X
end
