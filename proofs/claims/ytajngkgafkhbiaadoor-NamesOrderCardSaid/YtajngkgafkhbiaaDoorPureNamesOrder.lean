/- The order of roles is an order: any three roles. -/
import Derived.Test.YtajngkgafkhbiaaDoorNRead
import Derived.Test.YtajngkgafkhbiaaDoorP16
namespace Go.Proofs.YtajngkgafkhbiaaDoor.Pure
open Go.RowKit Go.Proofs.YtajngkgafkhbiaaDoor.P Go.Proofs.YtajngkgafkhbiaaDoorW.PrintWords Go.Proofs.YtajngkgafkhbiaaDoorW.PrintLast
set_option linter.unusedVariables false
theorem lessR_irrefl (o n : ByteArray) : lessR o n o n = false := by simp [lessR, less_irrefl]
theorem lessR_antisymm {a b c d : ByteArray} (h : lessR a b c d = true) : lessR c d a b = false := by
  unfold lessR at h ⊢
  by_cases e : a = c
  · subst e
    rw [if_pos rfl] at h ⊢
    exact less_antisymm _ _ h
  · rw [if_neg e] at h
    rw [if_neg (fun h => e h.symm)]
    exact less_antisymm _ _ h
theorem lessR_total {a b c d : ByteArray} (h : lessR a b c d = false) (h2 : lessR c d a b = false) : a = c ∧ b = d := by
  unfold lessR at h h2
  by_cases e : a = c
  · subst e
    rw [if_pos rfl] at h h2
    exact ⟨rfl, bytes_inj (less_total _ _ h h2)⟩
  · rw [if_neg e] at h
    rw [if_neg (fun h => e h.symm)] at h2
    exact absurd (bytes_inj (less_total _ _ h h2)) e
theorem lessR_trans {a b c d e f : ByteArray} (h : lessR a b c d = true) (h2 : lessR c d e f = true) : lessR a b e f = true := by
  unfold lessR at h h2 ⊢
  by_cases e1 : a = c
  · subst e1
    rw [if_pos rfl] at h
    by_cases e2 : a = e
    · subst e2
      rw [if_pos rfl] at h2 ⊢
      exact less_trans _ _ _ h h2
    · rw [if_neg e2] at h2 ⊢
      exact h2
  · rw [if_neg e1] at h
    by_cases e2 : c = e
    · subst e2
      rw [if_neg e1]
      exact h
    · rw [if_neg e2] at h2
      have h3 := less_trans _ _ _ h h2
      rw [if_neg]
      · exact h3
      · rintro rfl
        rw [less_irrefl] at h3
        cases h3
theorem NamesOrder : liverylaw04_NamesOrder.Pure := by
  intro x0 x1 x2 _ _ _
  obtain ⟨a, b⟩ := x0
  obtain ⟨c, d⟩ := x1
  obtain ⟨e, f⟩ := x2
  obtain ⟨k, hk⟩ : ∃ k : Nat, 41 < k := ⟨60, by omega⟩
  obtain ⟨k, rfl⟩ : ∃ m, k = m + 2 := ⟨k - 2, by omega⟩
  refine ⟨k + 2, ?_⟩
  unfold liverylaw04_NamesOrder.f
  simp only [names_Less_eq, Option.bind_some, liverylaw04_NamesOrder.j0, lives04 (k + 1) (by omega)]
  have h1 := @lessR_antisymm a b c d
  have h2 := @lessR_total a b c d
  have h3 := @lessR_trans a b c d e f
  cases hab : lessR a b c d
  · cases hba : lessR c d a b
    · obtain ⟨rfl, rfl⟩ := h2 hab hba
      simp
    · have hne : ¬ (a = c ∧ b = d) := by
        rintro ⟨rfl, rfl⟩
        rw [lessR_irrefl] at hba
        cases hba
      simp [toList_iff]
      intro h
      exact fun h4 => hne ⟨h, h4⟩
  · rw [h1 hab]
    have hne : ¬ (a = c ∧ b = d) := by
      rintro ⟨rfl, rfl⟩
      rw [lessR_irrefl] at hab
      cases hab
    cases hbc : lessR c d e f
    · simp [toList_iff]
      exact fun h h4 => hne ⟨h, h4⟩
    · rw [h3 hab hbc]
      simp [toList_iff]
      exact fun h h4 => hne ⟨h, h4⟩
end Go.Proofs.YtajngkgafkhbiaaDoor.Pure
