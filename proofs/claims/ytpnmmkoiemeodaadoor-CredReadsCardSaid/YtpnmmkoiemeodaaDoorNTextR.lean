/- The plain law of layer 4: a domain's name, a role's text, by the document. -/
import Derived.Test.YtpnmmkoiemeodaaDoorNText
import Derived.Test.YtpnmmkoiemeodaaDoorP15
import Derived.Test.YtpnmmkoiemeodaaDoorP15
namespace Go.Proofs.YtpnmmkoiemeodaaDoor.P
open Go.RowKit Go.Proofs.YtpnmmkoiemeodaaDoorW.PrintWords Go.Proofs.YtpnmmkoiemeodaaDoorW.PrintLast Go.Proofs.YtpnmmkoiemeodaaDoorW.PrintMore
set_option linter.unusedVariables false
set_option linter.unusedSimpArgs false
theorem strOf_small : ∀ n : Fin 10, (⟨#[100]⟩ : ByteArray) ++ strOfNums [(wrap64 (48 + (n.val : Int))) % 256] = dn n.val ∨ n.val = 0 := by decide +kernel
theorem strOf_great : ∀ n : Fin 17, n.val < 10 ∨ (⟨#[100, 49]⟩ : ByteArray) ++ strOfNums [(wrap64 ((wrap64 (48 + (n.val : Int))) - 10)) % 256] = dn n.val := by decide +kernel
theorem strOf_size (x : Int) : (strOfNums [x]).size = 1 := by simp [strOfNums, ByteArray.size]
theorem ref04_Domain_eq (k : Nat) (n : Int) (hk : 0 < k) : liveryref04_Domain.f k n = some (domB n) := by
  obtain ⟨k, rfl⟩ : ∃ m, k = m + 1 := ⟨k - 1, by omega⟩
  unfold liveryref04_Domain.f domB
  simp only [liveryref04_Domain.j0]
  by_cases h1 : n < 1
  · rw [if_pos h1, if_pos trivial, if_neg (by omega)]
  rw [if_neg h1]
  by_cases h2 : 16 < n
  · rw [if_pos (by simpa using h2), if_neg (by omega)]
  rw [if_neg (by simpa using h2), show (if 1 ≤ n ∧ n ≤ 16 then dn n.toNat else (⟨#[]⟩ : ByteArray)) = dn n.toNat from if_pos (by omega)]
  obtain ⟨m, rfl⟩ : ∃ m : Nat, n = (m : Int) := ⟨n.toNat, by omega⟩
  simp only [Option.bind_some, strOf_size, Int.toNat_natCast]
  by_cases h3 : m < 10
  · rw [if_pos (by omega), if_pos (by omega)]
    rcases strOf_small ⟨m, h3⟩ with h | h
    · simp only at h
      rw [h]
    · simp only at h
      omega
  · rw [if_neg (by omega), if_pos (by omega)]
    rcases strOf_great ⟨m, by omega⟩ with h | h
    · simp only at h
      omega
    · simp only at h
      rw [h]
end Go.Proofs.YtpnmmkoiemeodaaDoor.P
