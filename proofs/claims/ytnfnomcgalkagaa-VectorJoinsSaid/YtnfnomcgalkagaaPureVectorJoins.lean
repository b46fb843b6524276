/- Vectors are joined, and held against each other, as the document says: for any two lists. -/
import Derived.Test.YtnfnomcgalkagaaVPure
import Derived.Test.YtnfnomcgalkagaaP11
namespace Go.Proofs.Ytnfnomcgalkagaa.Pure
open Go.RowKit Go.Proofs.Ytnfnomcgalkagaa.P Go.Proofs.YtnfnomcgalkagaaW.PrintWords Go.Proofs.YtnfnomcgalkagaaW.PrintLast
theorem VectorJoins : liverylaw10_VectorJoins.Pure := by
  intro l0 l1 _ _ _ _ _ _
  obtain ⟨k, hk⟩ : ∃ k : Nat, 41 < k := ⟨60, by omega⟩
  refine ⟨k, ?_⟩
  unfold liverylaw10_VectorJoins.f
  rw [few_eq, few_eq]
  generalize l0.take 20 = a
  generalize l1.take 20 = b
  simp only [Option.bind_some]
  rw [joinV_eq]
  simp only [Option.bind_some]
  rw [ref_Join k a b (by omega)]
  simp only [Option.bind_some]
  rw [same_refl k _ (by omega)]
  simp only [Option.bind_some]
  have h1 := prog_Covers k a b (by omega)
  have h2 := ref_Covers k a b (by omega)
  generalize decide (bareOf (joinV a b) = bareOf (getV a)) = x at h1 h2
  rw [h1, h2]
  simp only [Option.bind_some, lives_eq, if_true, beq_self_eq_true]
end Go.Proofs.Ytnfnomcgalkagaa.Pure
