/- What is joined is the least that covers both: for any three lists. -/
import Derived.Test.YtnfnomcgalkagaaVPure
import Derived.Test.YtnfnomcgalkagaaP11
namespace Go.Proofs.Ytnfnomcgalkagaa.Pure
open Go.RowKit Go.Proofs.Ytnfnomcgalkagaa.P Go.Proofs.YtnfnomcgalkagaaW.PrintWords Go.Proofs.YtnfnomcgalkagaaW.PrintLast
theorem VectorLeast : liverylaw10_VectorLeast.Pure := by
  intro l0 l1 l2 _ _ _ _ _ _ _ _ _
  obtain ⟨k, hk⟩ : ∃ k : Nat, 41 < k + 1 := ⟨60, by omega⟩
  refine ⟨k + 1, ?_⟩
  unfold liverylaw10_VectorLeast.f
  rw [few_eq, few_eq, few_eq]
  simp only [Option.bind_some]
  rw [joinV_eq]
  generalize l0.take 20 = a
  generalize l1.take 20 = b
  generalize l2.take 20 = c
  simp only [Option.bind_some]
  have hj : ∀ d : Int, 1 ≤ d → d ≤ 16 → getV (bareOf (joinV a b)) d = joinV a b d := fun d h1 h2 => getV_bareOf _ (joinV_range a b) d h1 h2
  have hm : ∀ d : Int, getV a d ≤ joinV a b d ∧ getV b d ≤ joinV a b d := fun d => by unfold joinV mx; split <;> omega
  have c1 : bareOf (joinV (bareOf (joinV a b)) a) = bareOf (getV (bareOf (joinV a b))) := (covers_iff _ _).2 fun d h1 h2 => by rw [hj d h1 h2]; exact (hm d).1
  have c2 : bareOf (joinV (bareOf (joinV a b)) b) = bareOf (getV (bareOf (joinV a b))) := (covers_iff _ _).2 fun d h1 h2 => by rw [hj d h1 h2]; exact (hm d).2
  have c3 : (bareOf (joinV c (bareOf (joinV a b))) = bareOf (getV c)) ↔ (bareOf (joinV c a) = bareOf (getV c) ∧ bareOf (joinV c b) = bareOf (getV c)) := by
    rw [covers_iff, covers_iff, covers_iff]
    constructor
    · intro h
      exact ⟨fun d h1 h2 => by have := h d h1 h2; rw [hj d h1 h2] at this; have := hm d; omega, fun d h1 h2 => by have := h d h1 h2; rw [hj d h1 h2] at this; have := hm d; omega⟩
    · intro h d h1 h2
      rw [hj d h1 h2]
      have e1 := h.1 d h1 h2
      have e2 := h.2 d h1 h2
      unfold joinV mx
      split <;> omega
  rw [prog_Covers (k + 1) _ _ (by omega), prog_Covers (k + 1) _ _ (by omega), decide_eq_true c1, decide_eq_true c2]
  simp only [Option.bind_some, if_true, liverylaw10_VectorLeast.j0]
  rw [prog_Covers k _ _ (by omega), prog_Covers k _ _ (by omega), prog_Covers k _ _ (by omega)]
  by_cases h1 : bareOf (joinV c a) = bareOf (getV c)
  · by_cases h2 : bareOf (joinV c b) = bareOf (getV c)
    · have h3 := c3.2 ⟨h1, h2⟩
      simp [h1, h2, h3, lives_eq]
    · have h3 : ¬ (bareOf (joinV c (bareOf (joinV a b))) = bareOf (getV c)) := fun h => h2 (c3.1 h).2
      simp [h1, h2, h3, lives_eq]
  · have h3 : ¬ (bareOf (joinV c (bareOf (joinV a b))) = bareOf (getV c)) := fun h => h1 (c3.1 h).1
    simp [h1, h3, lives_eq]
end Go.Proofs.Ytnfnomcgalkagaa.Pure
