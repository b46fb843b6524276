/- The plain law of layer 5: which credentials may be, by the document. -/
import Derived.Test.YtmlopbhlmgfknaaDoorC5
import Derived.Test.YtmlopbhlmgfknaaDoorNRole
import Derived.Test.YtmlopbhlmgfknaaDoorP27
namespace Go.Proofs.YtmlopbhlmgfknaaDoor.P
open Go.RowKit Go.Proofs.YtmlopbhlmgfknaaDoorW.PrintWords Go.Proofs.YtmlopbhlmgfknaaDoorW.PrintLast Go.Proofs.YtmlopbhlmgfknaaDoorW.PrintMore
set_option linter.unusedVariables false
set_option linter.unusedSimpArgs false
theorem ref05_bare_eq (k : Nat) (o n : ByteArray) (hk : 12 < k) : liveryref05_bare.f k o n = some (eB o && mayB n) := by
  unfold liveryref05_bare.f
  rw [ref04_May k n hk]
  simp only [Option.bind_some, beq_e]
  cases mayB n <;> simp
theorem ref05_May_eq (k : Nat) (d q : Int) (n : ByteArray) (c : Int) (w ao an bo bn : ByteArray) (hk : 21 < k) : liveryref05_May.f k d q n c w ao an bo bn = some (credB d q n c w ao an bo bn) := by
  obtain ⟨k, rfl⟩ : ∃ m, k = m + 1 := ⟨k - 1, by omega⟩
  have hj : ∀ b : Bool, liveryref05_May.j0 (k + 1) (mayB w) (roleB ao an) (roleB bo bn) b d q n c w ao an bo bn = some (!b && (if c = 1 then mayB w && (eB ao && eB an) && (eB bo && eB bn) else if c = 2 then roleB ao an && (eB bo && eB bn) && eB w else if c = 3 then (eB ao && mayB an) && (eB bo && mayB bn) && eB w else if c = 4 then roleB ao an && roleB bo bn && eB w else false)) := by
    intro b
    simp only [liveryref05_May.j0, beq_e, e_iff, ref05_bare_eq k _ _ (show 12 < k by omega), Option.bind_some]
    cases b
    · simp only [Bool.false_eq_true, if_false, Bool.not_false, Bool.true_and]
      by_cases h1 : c = 1
      · simp only [if_pos h1]
        cases mayB w <;> cases eB ao <;> cases eB an <;> simp
      · simp only [if_neg h1]
        by_cases h2 : c = 2
        · simp only [if_pos h2]
          cases roleB ao an <;> cases eB w <;> cases eB bo <;> cases eB bn <;> simp
        · simp only [if_neg h2]
          by_cases h3 : c = 3
          · simp only [if_pos h3]
            cases eB w <;> cases eB ao <;> cases mayB an <;> cases eB bo <;> cases mayB bn <;> simp
          · simp only [if_neg h3]
            by_cases h4 : c = 4
            · simp only [if_pos h4]
              cases eB w <;> cases roleB ao an <;> cases roleB bo bn <;> simp
            · simp only [if_neg h4]
              cases eB w <;> simp
    · simp
  unfold liveryref05_May.f
  rw [ref04_May (k + 1) n (by omega), ref04_May (k + 1) w (by omega), ref04_Role_eq (k + 1) ao an (by omega), ref04_Role_eq (k + 1) bo bn (by omega)]
  simp only [Option.bind_some, hj]
  unfold credB
  by_cases h0 : d < 1
  · rw [if_pos h0, decide_eq_false (by omega)]; simp
  rw [if_neg h0]
  by_cases h1 : d > 16
  · rw [if_pos h1, decide_eq_false (by omega)]; simp
  rw [if_neg h1]
  by_cases h2 : q < 1
  · rw [if_pos h2, decide_eq_false (by omega)]; simp
  rw [if_neg h2]
  by_cases h3 : q > 4000
  · rw [if_pos h3, decide_eq_false (by omega)]; simp
  rw [if_neg h3, decide_eq_true (by omega)]
  simp
end Go.Proofs.YtmlopbhlmgfknaaDoor.P
