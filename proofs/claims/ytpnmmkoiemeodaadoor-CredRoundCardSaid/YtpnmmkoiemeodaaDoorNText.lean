/- The plain law of layer 4, second part: a domain's name, a role's text. -/
import Derived.Test.YtpnmmkoiemeodaaDoorNPure
import Derived.Test.YtpnmmkoiemeodaaDoorP9
namespace Go.Proofs.YtpnmmkoiemeodaaDoor.P
open Go.RowKit Go.Proofs.YtpnmmkoiemeodaaDoorW.PrintWords Go.Proofs.YtpnmmkoiemeodaaDoorW.PrintLast Go.Proofs.YtpnmmkoiemeodaaDoorW.PrintMore
set_option linter.unusedVariables false
set_option linter.unusedSimpArgs false
def domB (n : Int) : ByteArray := if 1 ≤ n ∧ n ≤ 16 then dn n.toNat else ⟨#[]⟩
theorem names_Domain_eq (n : Int) : names_Domain.f n = some (domB n) := rfl
/-! ### a role's text, and the role of a text -/
def textR (o n : ByteArray) : ByteArray := (o ++ ⟨#[46]⟩) ++ n
theorem bsize_append (a b : ByteArray) : (a ++ b).size = a.size + b.size := by simp
theorem textR_size (o n : ByteArray) : (textR o n).size = o.size + 1 + n.size := by
  unfold textR
  rw [bsize_append, bsize_append]
  rfl
theorem names_Text_eq (o n : ByteArray) (h : o.size + n.size ≤ 9223372036854775806) : names_Text.f o n = some (textR o n) := by
  unfold names_Text.f
  rw [if_pos (by omega), if_pos (by rw [bsize_append]; show o.size + 1 + n.size ≤ _; omega)]
  rfl
end Go.Proofs.YtpnmmkoiemeodaaDoor.P
