/- BagTurns over plain lists: whatever is turned about, it comes to the same. -/
import Derived.Test.YtimchoebiadhmaaPBagRef
import Derived.Test.YtimchoebiadhmaaX5
namespace Go.Proofs.Ytimchoebiadhmaa.X
open Go.RowKit Go.Proofs.YtimchoebiadhmaaW.PrintWords
theorem swap_perm {α : Type} (d : α) (x : List α) (j k : Nat) (hj : j < x.length) (hk : k < x.length) : ((x.set j (x.getD k d)).set k (x.getD j d)).Perm x := by
  have h := @List.set_set_perm α x j k hj hk
  rwa [List.getD_eq_getElem?_getD, List.getElem?_eq_getElem hk, List.getD_eq_getElem?_getD, List.getElem?_eq_getElem hj]
theorem BT_perm {a b : List ByteArray} (h : a.Perm b) : (BT a).Perm (BT b) := h.map bts
theorem rd_u8 {l : List Int} (h : okT28 l) (i : Int) : 0 ≤ rd l i ∧ rd l i ≤ 255 := by
  unfold rd
  by_cases hi : i.toNat < l.length
  · rw [List.getD_eq_getElem?_getD, List.getElem?_eq_getElem hi]
    have := h.2 _ (List.getElem_mem hi)
    exact bounds_u8 this
  · rw [List.getD_eq_getElem?_getD, List.getElem?_eq_none (by omega)]; decide
theorem bagTurns_l0 (a b : List ByteArray) (t : List Int) (ha : okS a = true) (hb : okS b = true) (ht : okT28 t) (hp : 0 < a.length) (hl : a.length ≤ 60) (htl : t.length ≤ 60) : ∀ (d k i : Nat) (x : List ByteArray), x.Perm a → i + d = t.length → d < k →
    tartanlaw09_BagTurns.l0 k a b t true x (i : Nat) = some true := by
  intro d
  induction d with
  | zero =>
    intro k i x hx hi hk
    obtain ⟨k, rfl⟩ : ∃ m, k = m + 1 := ⟨k - 1, by omega⟩
    have hxl := hx.length_eq
    have hxo : okS x = true := okS_mk (by omega) (fun s hs => okS_mem ha s (hx.mem_iff.1 hs))
    have p := BT_perm hx
    simp only [tartanlaw09_BagTurns.l0]
    rw [if_neg (by omega), bagSame_some ha hxo, bagSame_some hxo ha, overlap_some hxo hb, overlap_some ha hb, overlap_some hb hxo]
    have e1 : ov2 (BT a) (BT x) = a.length := by rw [ov2_permR _ p, ov2_self, List.length_map]
    have e2 : ov2 (BT x) (BT a) = a.length := by rw [ov2_permL p, ov2_self, List.length_map]
    have e3 : ov2 (BT x) (BT b) = ov2 (BT a) (BT b) := ov2_permL p _
    have e4 : ov2 (BT b) (BT x) = ov2 (BT a) (BT b) := by rw [ov2_permR _ p, ov2_symm]
    simp only [Option.bind_some, e1, e2, e3, e4, hxl]
    simp
  | succ d ih =>
    intro k i x hx hi hk
    obtain ⟨k, rfl⟩ : ∃ m, k = m + 1 := ⟨k - 1, by omega⟩
    have hxl := hx.length_eq
    have hu := rd_u8 ht (i : Int)
    have j0 := Int.tmod_nonneg (a.length : Int) hu.1
    have j1 := Int.tmod_lt_of_pos (rd t (i : Int)) (show (0 : Int) < (a.length : Int) by omega)
    have k0 := Int.tmod_nonneg (a.length : Int) (show (0 : Int) ≤ (i : Int) by omega)
    have k1 := Int.tmod_lt_of_pos (i : Int) (show (0 : Int) < (a.length : Int) by omega)
    simp only [tartanlaw09_BagTurns.l0]
    rw [if_pos (by omega), if_pos (by omega), if_neg (by omega), wrap_in (n := rd t (i : Int)) (by omega) (by omega), wrap_in (n := (i : Int) + 1) (by omega) (by omega)]
    generalize Int.tmod (rd t (i : Int)) (a.length : Int) = j at *
    generalize Int.tmod (i : Int) (a.length : Int) = m at *
    rw [if_pos j0, if_pos (by omega), if_pos k0, if_pos (by omega)]
    refine ih k (i + 1) _ ?_ (by omega) (by omega)
    exact (swap_perm _ x j.toNat m.toNat (by omega) (by omega)).trans hx
theorem pure_BagTurns : ∀ (x0 : List (ByteArray)) (x1 : List (ByteArray)) (x2 : List (Int)), okT22 x0 → okT22 x1 → okT28 x2 → ∃ k, tartanlaw09_BagTurns.f k x0 x1 x2 = some true := by
  intro a b t h0 h1 h2
  unfold tartanlaw09_BagTurns.f
  rw [bag_works]
  simp only [Option.bind_some, if_true]
  by_cases c1 : 60 < a.length
  · exact ⟨1, by rw [if_pos (by omega)]; simp [tartanlaw09_BagTurns.j0]⟩
  by_cases c2 : 60 < b.length
  · exact ⟨1, by rw [if_neg (by omega), if_pos (by omega)]; simp [tartanlaw09_BagTurns.j0]⟩
  by_cases c3 : a.length = 0
  · exact ⟨1, by rw [if_neg (by omega), if_neg (by omega), if_pos (by omega)]; simp [tartanlaw09_BagTurns.j0]⟩
  by_cases c4 : 60 < t.length
  · exact ⟨1, by rw [if_neg (by omega), if_neg (by omega), if_neg (by omega), decide_eq_true (by omega)]; simp [tartanlaw09_BagTurns.j0]⟩
  refine ⟨t.length + 2, ?_⟩
  rw [if_neg (by omega), if_neg (by omega), if_neg (by omega), decide_eq_false (by omega)]
  simp only [tartanlaw09_BagTurns.j0]
  rw [if_neg (by decide)]
  simp only [Option.bind_some]
  rw [if_pos (by simp; omega)]
  exact bagTurns_l0 a b t (okS_of h0 (by omega)) (okS_of h1 (by omega)) h2 (by omega) (by omega) (by omega) t.length _ 0 _ (List.Perm.refl _) (by omega) (by omega)
end Go.Proofs.Ytimchoebiadhmaa.X
