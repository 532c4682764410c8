/- A row that is read lies in its footprint: what is none of that is not its block. -/
import Derived.Test.YtbcpaojciephmaaWMore
namespace Go.Proofs.Ytbcpaojciephmaa.X
open Go.RowKit Go.Proofs.YtbcpaojciephmaaW.PrintWords
theorem V_awayN {α : Type} {d : Kd α} {e base n c g : Nat} {W : World} {ok : Nat → Prop} {A : Option Addr} {xs : List α} (h : Kd.V d e W base ok (.slice A n c) xs) (hn : 0 < n) (hz : 0 < d.sz) (hok : ∀ k, ok k → k ≠ g) : some g ≠ (Value.slice A n c).ownBlock := by
  intro e0
  rcases A with _ | ad
  · simp [Value.ownBlock] at e0
  have e1 : ad.block = g := by simpa [Value.ownBlock] using e0.symm
  obtain ⟨hl, _, hF⟩ := Kd.V_at h
  have hC := hF { W with heap := W.heap.setIfInBounds g (.deferred none) } (fun k hk _ => by
    show (W.heap.setIfInBounds g (.deferred none))[k]? = W.heap[k]?
    rw [Array.getElem?_setIfInBounds_ne (fun e2 => hok k hk e2.symm)])
  obtain ⟨ad', e2, hc⟩ := hC.2.2 (by omega)
  cases e2
  obtain ⟨cs, hl2, _, hu⟩ := hc 0 (xs[0]'(by omega)) (List.getElem?_eq_getElem (by omega))
  have h3 := hu 0 (cs[0]'(by omega)) (List.getElem?_eq_getElem (by omega))
  have h4 : World.cell? { W with heap := W.heap.setIfInBounds g (.deferred none) } (ad.add (0 * d.sz + 0)) = none := by
    unfold World.cell?
    have e3 : (ad.add (0 * d.sz + 0)).block = g := by rw [add_block]; exact e1
    rw [e3]
    show (match (W.heap.setIfInBounds g (.deferred none))[g]? with | some (.cells c _ _) => if (ad.add (0 * d.sz + 0)).spot.isSome then none else c[(ad.add (0 * d.sz + 0)).off]? | _ => none) = none
    rcases Nat.lt_or_ge g W.heap.size with hlt | hge
    · rw [Array.getElem?_setIfInBounds_self_of_lt hlt]
    · rw [Array.getElem?_eq_none (by simpa using hge)]
  rw [h4] at h3
  cases h3
end Go.Proofs.Ytbcpaojciephmaa.X
