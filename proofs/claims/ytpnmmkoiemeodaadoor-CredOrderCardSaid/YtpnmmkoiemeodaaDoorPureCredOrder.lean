/- IDs are ordered as the document says, and it is an order: any three. -/
import Derived.Test.YtpnmmkoiemeodaaDoorC5
import Derived.Test.YtpnmmkoiemeodaaDoorP28
namespace Go.Proofs.YtpnmmkoiemeodaaDoor.Pure
open Go.RowKit Go.Proofs.YtpnmmkoiemeodaaDoor.P Go.Proofs.YtpnmmkoiemeodaaDoorW.PrintWords Go.Proofs.YtpnmmkoiemeodaaDoorW.PrintLast
set_option linter.unusedVariables false
def befB (a b c d : Int) : Bool := if a = c then decide (b < d) else decide (a < c)
theorem cred_Before_eq (a b c d : Int) : cred_Before.f a b c d = some (befB a b c d) := by
  unfold cred_Before.f befB
  repeat' split
  all_goals first | rfl | (exfalso; omega) | (congr 1; simp; omega)
theorem ref05_Before_eq (a b c d : Int) : liveryref05_Before.f a b c d = some (befB a b c d) := by
  unfold liveryref05_Before.f befB
  split <;> rfl
theorem befB_iff (a b c d : Int) : befB a b c d = true ↔ a < c ∨ (a = c ∧ b < d) := by
  unfold befB
  split <;> simp <;> omega
theorem CredOrder : liverylaw05_CredOrder.Pure := by
  intro x0 x1 x2 _ _ _
  obtain ⟨a, b⟩ := x0
  obtain ⟨c, d⟩ := x1
  obtain ⟨e, f⟩ := x2
  obtain ⟨k, hk⟩ : ∃ k : Nat, 41 < k := ⟨60, by omega⟩
  obtain ⟨k, rfl⟩ : ∃ m, k = m + 2 := ⟨k - 2, by omega⟩
  refine ⟨k + 2, ?_⟩
  unfold liverylaw05_CredOrder.f
  simp only [cred_Before_eq, ref05_Before_eq, Option.bind_some, liverylaw05_CredOrder.j0, lives05 (k + 1) (by omega)]
  have h1 := befB_iff a b c d
  have h2 := befB_iff c d a b
  have h3 := befB_iff c d e f
  have h4 := befB_iff a b e f
  generalize befB a b c d = p at *
  generalize befB c d a b = q at *
  generalize befB c d e f = r at *
  generalize befB a b e f = s at *
  cases p <;> cases q <;> cases r <;> cases s <;> simp at h1 h2 h3 h4 ⊢ <;> omega
end Go.Proofs.YtpnmmkoiemeodaaDoor.Pure
