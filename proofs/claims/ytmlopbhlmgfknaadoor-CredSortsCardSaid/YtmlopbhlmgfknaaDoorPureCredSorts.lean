/- Credentials are sorted as the document says: any (the first 40); what is handed in stays. -/
import Derived.Test.YtmlopbhlmgfknaaDoorC5S
import Derived.Test.YtmlopbhlmgfknaaDoorP22
namespace Go.Proofs.YtmlopbhlmgfknaaDoor.Pure
open Go.RowKit Go.Proofs.YtmlopbhlmgfknaaDoor.P Go.Proofs.YtmlopbhlmgfknaaDoorW.PrintWords Go.Proofs.YtmlopbhlmgfknaaDoorW.PrintLast
set_option linter.unusedVariables false
theorem sorts_l0 (x : List CS) (hx : x.length ≤ 40) : ∀ (n k : Nat) (a : List CS) (i : Nat), a.length ≤ 40 → a.length - i = n → i ≤ a.length → n + 1100 < k → liverylaw05_CredSorts.l0 k x x a true (i : Int) = some true
  | 0, k, a, i, ha, hn, hi, hk => by
    obtain ⟨k, rfl⟩ : ∃ m, k = m + 1 := ⟨k - 1, by omega⟩
    rw [liverylaw05_CredSorts.l0, if_neg (by omega), ref05_Same_self k _ (by omega) (by omega), Option.bind_some, if_pos rfl, if_pos rfl, lives05 k (by omega)]
    rfl
  | n + 1, k, a, i, ha, hn, hi, hk => by
    obtain ⟨k, rfl⟩ : ∃ m, k = m + 1 := ⟨k - 1, by omega⟩
    rw [liverylaw05_CredSorts.l0, if_pos (by omega), if_pos (by omega), w1 (by omega)]
    exact sorts_l0 x hx n k _ (i + 1) (by simpa using ha) (by rw [List.length_set]; omega) (by rw [List.length_set]; omega) (by omega)
theorem CredSorts : liverylaw05_CredSorts.Pure := by
  intro l0 _
  obtain ⟨k, hk⟩ : ∃ k : Nat, 5000 < k := ⟨5001, by omega⟩
  obtain ⟨k, rfl⟩ : ∃ m, k = m + 1 := ⟨k - 1, by omega⟩
  refine ⟨k + 1, ?_⟩
  have hj : ∀ l : List CS, l.length ≤ 40 → liverylaw05_CredSorts.j0 (k + 1) l = some true := by
    intro l hl
    have hlen := sortC_length l
    rw [liverylaw05_CredSorts.j0, if_pos (by simp; omega), cred_Sorted.f, if_pos hl, Option.bind_some, ref05_Sorted_eq k l hl (by omega), Option.bind_some, ref05_Same_self k _ (by omega) (by omega), Option.bind_some, List.nil_append]
    exact sorts_l0 l hl _ k (sortC l) 0 (by omega) rfl (by omega) (by omega)
  unfold liverylaw05_CredSorts.f
  split
  · rw [if_pos (by omega)]
    exact hj _ (by rw [List.length_take]; omega)
  · exact hj _ (by omega)
end Go.Proofs.YtmlopbhlmgfknaaDoor.Pure
