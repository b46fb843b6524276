/- Which credentials may be, and their roles and texts, are told as the document says: any credential. -/
import Derived.Test.YtpnmmkoiemeodaaDoorC5T
import Derived.Test.YtpnmmkoiemeodaaDoorP23
namespace Go.Proofs.YtpnmmkoiemeodaaDoor.Pure
open Go.RowKit Go.Proofs.YtpnmmkoiemeodaaDoor.P Go.Proofs.YtpnmmkoiemeodaaDoorW.PrintWords Go.Proofs.YtpnmmkoiemeodaaDoorW.PrintLast
set_option linter.unusedVariables false
theorem CredMay : liverylaw05_CredMay.Pure := by
  intro x0 _
  obtain ⟨k, hk⟩ : ∃ k : Nat, 41 < k := ⟨60, by omega⟩
  refine ⟨k, ?_⟩
  unfold liverylaw05_CredMay.f
  rw [cred_Text_eq k _ _ _ _ _ _ _ _ _ (by omega), ref05_Text_eq k _ _ _ _ _ _ _ _ _ (by omega), cred_May_eq k _ _ _ _ _ _ _ _ _ (by omega), ref05_May_eq k _ _ _ _ _ _ _ _ _ (by omega), cred_Role_eq, ref05_Role_eq k _ _ _ _ _ _ _ _ _ (by omega), lives05 k (by omega)]
  simp
end Go.Proofs.YtpnmmkoiemeodaaDoor.Pure
