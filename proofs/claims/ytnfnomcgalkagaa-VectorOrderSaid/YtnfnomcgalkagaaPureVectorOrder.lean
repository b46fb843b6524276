/- Vectors are joined the same from both sides, in whatever order, and with themselves: for any three lists. -/
import Derived.Test.YtnfnomcgalkagaaVPure
import Derived.Test.YtnfnomcgalkagaaP12
namespace Go.Proofs.Ytnfnomcgalkagaa.Pure
open Go.RowKit Go.Proofs.Ytnfnomcgalkagaa.P Go.Proofs.YtnfnomcgalkagaaW.PrintWords Go.Proofs.YtnfnomcgalkagaaW.PrintLast
theorem VectorOrder : liverylaw10_VectorOrder.Pure := by
  intro l0 l1 l2 _ _ _ _ _ _ _ _ _
  obtain ⟨k, hk⟩ : ∃ k : Nat, 41 < k := ⟨60, by omega⟩
  refine ⟨k, ?_⟩
  unfold liverylaw10_VectorOrder.f
  rw [few_eq, few_eq, few_eq]
  generalize l0.take 20 = a
  generalize l1.take 20 = b
  generalize l2.take 20 = c
  simp only [Option.bind_some, joinV_eq, vector_Bare.f]
  have e1 : bareOf (joinV b a) = bareOf (joinV a b) := bareOf_congr _ _ fun d _ _ => by unfold joinV mx; split <;> split <;> omega
  have e2 : bareOf (joinV (bareOf (joinV a b)) c) = bareOf (joinV a (bareOf (joinV b c))) := bareOf_congr _ _ fun d h1 h2 => by
    have g1 := getV_bareOf _ (joinV_range a b) d h1 h2
    have g2 := getV_bareOf _ (joinV_range b c) d h1 h2
    rw [joinV, joinV, g1, g2, joinV, joinV]
    unfold mx
    repeat (first | split | omega)
  have e3 : bareOf (joinV a a) = bareOf (getV a) := bareOf_congr _ _ fun d _ _ => by unfold joinV mx; split <;> omega
  rw [e1, e2, e3, same_refl k _ (by omega), same_refl k _ (by omega), same_refl k _ (by omega)]
  simp [lives_eq]
end Go.Proofs.Ytnfnomcgalkagaa.Pure
