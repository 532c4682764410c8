/- BagAdds over plain lists. -/
import Derived.Test.YtimchoebiadhmaaPBagRef
import Derived.Test.YtimchoebiadhmaaX6
namespace Go.Proofs.Ytimchoebiadhmaa.X
open Go.RowKit Go.Proofs.YtimchoebiadhmaaW.PrintWords Go.Proofs.YtimchoebiadhmaaW.PrintMore
theorem pure_BagAdds : ∀ (x0 : List (ByteArray)) (x1 : List (ByteArray)) (x2 : ByteArray), okT22 x0 → okT22 x1 → okT9 x2 → ∃ k, tartanlaw09_BagAdds.f k x0 x1 x2 = some true := by
  intro a b s h0 h1 h2
  refine ⟨1, ?_⟩
  unfold tartanlaw09_BagAdds.f
  rw [bag_works]
  simp only [Option.bind_some, if_true]
  by_cases c1 : 60 < a.length
  · rw [if_pos (by omega)]; simp [tartanlaw09_BagAdds.j0]
  by_cases c2 : 60 < b.length
  · rw [if_neg (by omega), decide_eq_true (by omega)]; simp [tartanlaw09_BagAdds.j0]
  rw [if_neg (by omega), decide_eq_false (by omega)]
  have ha := okS_of h0 (by omega)
  have hb := okS_of h1 (by omega)
  have hsa : okS (s :: a) = true := okS_mk (by simp; omega) (fun x hx => by rcases List.mem_cons.1 hx with rfl | hx; exact h2; exact okS_mem ha x hx)
  have hbs : okS (b ++ [s]) = true := okS_mk (by simp; omega) (fun x hx => by rcases List.mem_append.1 hx with hx | hx; exact okS_mem hb x hx; rw [List.mem_singleton.1 hx]; exact h2)
  have e1 : ov2 (BT (s :: a)) (BT (b ++ [s])) = ov2 (BT a) (BT b) + 1 := by simp only [BT, List.map_cons, List.map_append, List.map_nil]; exact ov2_both _ _ _
  have e2 : ov2 (BT (s :: a)) (BT b) = ov2 (BT a) (BT b) + if (BT a).count (bts s) < (BT b).count (bts s) then 1 else 0 := by simp only [BT, List.map_cons]; exact ov2_cons _ _ _
  have e3 : (BT (s :: a)).count (bts s) = (BT a).count (bts s) + 1 := by simp [BT]
  have e4 : ov2 (BT a) (BT a) = a.length := by rw [ov2_self, List.length_map]
  have l1 := ov2_le (BT a) (BT b)
  have l2 := ov2_le' (BT a) (BT b)
  have l3 : (BT a).count (bts s) ≤ (BT a).length := List.count_le_length
  simp only [List.length_map] at l1 l2 l3
  simp only [tartanlaw09_BagAdds.j0]
  rw [if_neg (by decide)]
  simp only [Option.bind_some, List.length_singleton, List.length_nil, List.nil_append, List.singleton_append]
  have p1 : 1 + a.length < 8796093022208 := by omega
  have p2 : 0 + b.length < 8796093022208 := by omega
  have p3 : b.length < 8796093022208 := by omega
  simp only [overlap_some ha hb, overlap_some hsa hbs, overlap_some hsa hb, count_some ha h2, count_some hb h2, overlap_some ha ha, count_some hsa h2, Option.bind_some, p1, p2, p3, e1, e2, e3, e4, if_true]
  have w1 : wrap64 (((ov2 (BT a) (BT b) : Nat) : Int) + 1) = ((ov2 (BT a) (BT b) + 1 : Nat) : Int) := by rw [wrap_in (by omega) (by omega)]; omega
  have w2 : wrap64 ((((BT a).count (bts s) : Nat) : Int) + 1) = (((BT a).count (bts s) + 1 : Nat) : Int) := by rw [wrap_in (by omega) (by omega)]; omega
  have hmn : ((ov2 (BT a) (BT b) : Nat) : Int) ≤ mn (a.length : Int) (b.length : Int) := by unfold mn; omega
  simp only [w1, w2, hmn, if_true]
  by_cases c : (BT a).count (bts s) < (BT b).count (bts s)
  · have q : (((BT a).count (bts s) : Nat) : Int) < (((BT b).count (bts s) : Nat) : Int) := Int.ofNat_lt.2 c
    simp only [q, c, if_true, beq_self_eq_true]
  · have q : ¬ (((BT a).count (bts s) : Nat) : Int) < (((BT b).count (bts s) : Nat) : Int) := fun h => c (Int.ofNat_lt.1 h)
    simp only [q, c, if_true, if_false, Nat.add_zero, beq_self_eq_true]
end Go.Proofs.Ytimchoebiadhmaa.X
