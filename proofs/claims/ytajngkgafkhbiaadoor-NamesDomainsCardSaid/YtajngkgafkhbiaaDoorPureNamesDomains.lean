/- Each domain has one name, which no other one has: any number, any text. -/
import Derived.Test.YtajngkgafkhbiaaDoorNRead
import Derived.Test.YtajngkgafkhbiaaDoorP11
namespace Go.Proofs.YtajngkgafkhbiaaDoor.Pure
open Go.RowKit Go.Proofs.YtajngkgafkhbiaaDoor.P Go.Proofs.YtajngkgafkhbiaaDoorW.PrintWords Go.Proofs.YtajngkgafkhbiaaDoorW.PrintLast
set_option linter.unusedVariables false
theorem NamesDomains : liverylaw04_NamesDomains.Pure := by
  intro a0 a1 _ _
  obtain ⟨k, hk⟩ : ∃ k : Nat, 41 < k := ⟨60, by omega⟩
  obtain ⟨k, rfl⟩ : ∃ m, k = m + 2 := ⟨k - 2, by omega⟩
  refine ⟨k + 2, ?_⟩
  have hle := numR_le a1
  unfold liverylaw04_NamesDomains.f
  simp only [liverylaw04_NamesDomains.j0, liverylaw04_NamesDomains.j1, names_Domain_eq, ref04_Domain_eq (k + 2) a0 (by omega), Option.bind_some, if_true]
  have hfin : (if numR a1 = 0 then (some true : Option Bool) else if (domB (numR a1)).toList = a1.toList then some true else some false) = some true := by
    by_cases h : numR a1 = 0
    · rw [if_pos h]
    · rw [if_neg h, if_pos]
      rw [toList_iff]
      unfold domB
      rw [if_pos (by omega)]
      exact (numR_back a1 h).symm
  simp only [names_Number_eq (k + 1) _ (by omega), names_Number_eq k _ (by omega), lives04 k (by omega), lives04 (k + 1) (by omega), Option.bind_some, names_May.f]
  by_cases h1 : 1 ≤ a0 ∧ a0 ≤ 16
  · rw [if_pos h1.1, if_pos (decide_eq_true h1.2)]
    have e : domB a0 = dn a0.toNat := if_pos h1
    have e1 : numR (domB a0) = a0 := by
      rw [e]
      have := numR_dn ⟨a0.toNat, by omega⟩ (by show a0.toNat ≠ 0; omega)
      simp only at this
      omega
    have e2 : mayB (domB a0) = true := by
      rw [e]
      exact dn_may ⟨a0.toNat, by omega⟩ (by show a0.toNat ≠ 0; omega)
    rw [if_pos e1, e2]
    simp only [Bool.not_true, Bool.false_eq_true, if_false]
    exact hfin
  · have e : (domB a0).toList = ([] : List UInt8) := by
      unfold domB
      rw [if_neg h1]
      decide +kernel
    by_cases h2 : 1 ≤ a0
    · rw [if_pos h2, if_neg (by simp; omega), if_pos e]
      exact hfin
    · rw [if_neg h2, if_neg (by simp), if_pos e]
      exact hfin
end Go.Proofs.YtajngkgafkhbiaaDoor.Pure
