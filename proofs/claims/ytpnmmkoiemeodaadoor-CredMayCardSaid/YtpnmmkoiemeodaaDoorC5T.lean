/- The plain law of layer 5: credentials' roles and texts, by the document. -/
import Derived.Test.YtpnmmkoiemeodaaDoorC5M
import Derived.Test.YtpnmmkoiemeodaaDoorNTextR
import Derived.Test.YtpnmmkoiemeodaaDoorP16
import Derived.Test.YtpnmmkoiemeodaaDoorP17
namespace Go.Proofs.YtpnmmkoiemeodaaDoor.P
open Go.RowKit Go.Proofs.YtpnmmkoiemeodaaDoorW.PrintWords Go.Proofs.YtpnmmkoiemeodaaDoorW.PrintLast Go.Proofs.YtpnmmkoiemeodaaDoorW.PrintMore
set_option linter.unusedVariables false
set_option linter.unusedSimpArgs false
theorem ref05_Text_eq (k : Nat) (d q : Int) (n : ByteArray) (c : Int) (w ao an bo bn : ByteArray) (hk : 25 < k) : liveryref05_Text.f k d q n c w ao an bo bn = some (textC d q n c w ao an bo bn) := by
  obtain ⟨k, rfl⟩ : ∃ m, k = m + 3 := ⟨k - 3, by omega⟩
  unfold liveryref05_Text.f textC
  rw [ref05_May_eq (k + 3) d q n c w ao an bo bn (by omega)]
  simp only [Option.bind_some]
  by_cases h : credB d q n c w ao an bo bn = true
  · obtain ⟨hd, hc, h1, h2, h3, h4, h5, h6⟩ := cred_small h
    have hds := dom_size d
    rw [if_pos h, if_pos h, ref04_Domain_eq (k + 3) d (by omega)]
    simp only [Option.bind_some, bsize_append, asz1, asz3, asz4]
    rw [if_pos (by omega), if_pos (by omega), if_pos (by omega)]
    simp only [liveryref05_Text.j0, liveryref05_Text.j1, liveryref05_Text.j2]
    rw [ref04_Text_eq ao an (by omega), ref04_Text_eq bo bn (by omega)]
    simp only [Option.bind_some, bsize_append, textR_size, asz1, asz3, asz4]
    unfold tailT
    by_cases k1 : c = 1
    · subst k1
      simp
      refine ⟨by omega, ?_⟩
      simp only [appA, textR, arrow]
    by_cases k2 : c = 2
    · subst k2
      simp
      refine ⟨by omega, ?_⟩
      simp only [appA, textR, arrow]
    by_cases k3 : c = 3
    · subst k3
      simp
      refine ⟨by omega, by omega, by omega, by omega, by omega, ?_⟩
      simp only [appA, textR, arrow]
    obtain rfl : c = 4 := by omega
    simp
    refine ⟨by omega, by omega, by omega, ?_⟩
    simp only [appA, textR, arrow, amp]
  · rw [if_neg h, if_neg h]
theorem ref05_Role_eq (k : Nat) (d q : Int) (n : ByteArray) (c : Int) (w ao an bo bn : ByteArray) (hk : 0 < k) : liveryref05_Role.f k d q n c w ao an bo bn = some (domB d, n) := by
  unfold liveryref05_Role.f
  rw [ref04_Domain_eq k d hk]
  rfl
end Go.Proofs.YtpnmmkoiemeodaaDoor.P
