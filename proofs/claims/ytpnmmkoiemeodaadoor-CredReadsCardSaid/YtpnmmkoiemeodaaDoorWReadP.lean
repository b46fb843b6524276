/- The plain law of layer 3: what is put is read again, what is cut is too short, no other bytes say the same. -/
import Derived.Test.YtpnmmkoiemeodaaDoorWPut
import Derived.Test.YtpnmmkoiemeodaaDoorHCursorR
namespace Go.Proofs.YtpnmmkoiemeodaaDoor.P
open Go.RowKit Go.Proofs.YtpnmmkoiemeodaaDoorW.PrintWords Go.Proofs.YtpnmmkoiemeodaaDoorW.PrintLast Go.Proofs.YtpnmmkoiemeodaaDoorW.PrintMore
set_option linter.unusedVariables false
set_option linter.unusedSimpArgs false
theorem numAt_err (b : List Int) (p e least most : Int) (h : e ≠ 0) : numAt b p e least most = (0, p, e) := by unfold numAt; rw [if_neg h]
theorem textAt_err (b : List Int) (p e most : Int) (h : e ≠ 0) : textAt b p e most = (ByteArray.empty, p, e) := by unfold textAt; rw [numAt_err b p e 0 most h]; simp only; rw [if_neg h]
end Go.Proofs.YtpnmmkoiemeodaaDoor.P
