/- Contract, printed by a program of this session's: the reference's domain of a name. -/
import Derived.Test.YtpnmmkoiemeodaaDoorP0
import Derived.Outline
namespace Go.Proofs.YtpnmmkoiemeodaaDoor.P
open Go.RowKit Go.Proofs.YtpnmmkoiemeodaaDoorW.PrintWords Go.Proofs.YtpnmmkoiemeodaaDoorW.PrintLast Go.Proofs.YtpnmmkoiemeodaaDoorW.PrintMore
set_option linter.unusedVariables false
set_option linter.unusedSimpArgs false
def numR (s : ByteArray) : Int := if s.size < 2 ∨ 3 < s.size then 0 else if bt s 0 ≠ 100 ∨ bt s 1 < 49 ∨ 57 < bt s 1 then 0 else if s.size = 3 then (if bt s 2 < 48 ∨ 57 < bt s 2 then 0 else if 16 < 10 * (bt s 1 - 48) + (bt s 2 - 48) then 0 else 10 * (bt s 1 - 48) + (bt s 2 - 48)) else bt s 1 - 48
end Go.Proofs.YtpnmmkoiemeodaaDoor.P
