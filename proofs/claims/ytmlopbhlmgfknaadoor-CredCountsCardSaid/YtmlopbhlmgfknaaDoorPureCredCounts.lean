/- Which credentials count is told as the document says: any (the first 40). -/
import Derived.Test.YtmlopbhlmgfknaaDoorC5N
import Derived.Test.YtmlopbhlmgfknaaDoorP29
namespace Go.Proofs.YtmlopbhlmgfknaaDoor.Pure
open Go.RowKit Go.Proofs.YtmlopbhlmgfknaaDoor.P Go.Proofs.YtmlopbhlmgfknaaDoorW.PrintWords Go.Proofs.YtmlopbhlmgfknaaDoorW.PrintLast
set_option linter.unusedVariables false
theorem CredCounts : liverylaw05_CredCounts.Pure := by
  intro l0 _
  obtain ⟨k, hk⟩ : ∃ k : Nat, 5000 < k := ⟨5001, by omega⟩
  obtain ⟨k, rfl⟩ : ∃ m, k = m + 1 := ⟨k - 1, by omega⟩
  refine ⟨k + 1, ?_⟩
  have hj : ∀ l : List CS, l.length ≤ 40 → liverylaw05_CredCounts.j0 (k + 1) l = some true := by
    intro l hl
    have hlen := countsC_length l
    rw [liverylaw05_CredCounts.j0, cred_Counts_eq k l hl (by omega), Option.bind_some, ref05_Counts_eq k l hl (by omega), Option.bind_some, ref05_Same_self k _ (by omega) (by omega), Option.bind_some, if_pos rfl, lives05 k (by omega)]
    rfl
  unfold liverylaw05_CredCounts.f
  split
  · rw [if_pos (by omega)]
    exact hj _ (by rw [List.length_take]; omega)
  · exact hj _ (by omega)
end Go.Proofs.YtmlopbhlmgfknaaDoor.Pure
