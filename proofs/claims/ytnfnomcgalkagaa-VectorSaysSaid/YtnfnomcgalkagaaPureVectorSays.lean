/- What a list says, and the vector that says the same, are told as the document says: for any list, domain and number. -/
import Derived.Test.YtnfnomcgalkagaaVPure
import Derived.Test.YtnfnomcgalkagaaP11
namespace Go.Proofs.Ytnfnomcgalkagaa.Pure
open Go.RowKit Go.Proofs.Ytnfnomcgalkagaa.P Go.Proofs.YtnfnomcgalkagaaW.PrintWords Go.Proofs.YtnfnomcgalkagaaW.PrintLast
theorem VectorSays : liverylaw10_VectorSays.Pure := by
  intro l0 a1 a2 _ _ _ _ _
  obtain ⟨k, hk⟩ : ∃ k : Nat, 41 < k := ⟨60, by omega⟩
  refine ⟨k, ?_⟩
  unfold liverylaw10_VectorSays.f
  rw [few_eq]
  have hl := take20 l0
  generalize l0.take 20 = l at hl
  simp only [Option.bind_some, vector_Bare.f, vector_With.f]
  rw [ref_Bare k l (by omega)]
  simp only [Option.bind_some]
  rw [same_refl k _ (by omega)]
  simp only [Option.bind_some]
  rw [ref_With k l a1 a2 (by omega)]
  simp only [Option.bind_some]
  have e := same_refl k (withV l a1 a2) (by omega)
  rw [show bareOf (fun d => if d = a1 then mx 0 (mn a2 1099511627776) else getV l d) = bareOf (withV l a1 a2) from rfl, e]
  simp only [Option.bind_some]
  rw [prog_May k l hl (by omega), ref_May k l hl (by omega), vector_Get_eq, ref_Get k l a1 (by omega)]
  simp [lives_eq]
end Go.Proofs.Ytnfnomcgalkagaa.Pure
