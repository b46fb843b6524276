/- Contract, typed by a program of this session's, of layer 10's examples: all hold. -/
import Derived.Test.YtadkafhhkidecaaHVector
import Derived.Test.YtadkafhhkidecaaP2
namespace Go.Proofs.Ytadkafhhkidecaa.P
open Go.RowKit Go.Proofs.YtadkafhhkidecaaW.PrintWords Go.Proofs.YtadkafhhkidecaaW.PrintLast Go.Proofs.YtadkafhhkidecaaW.PrintMore
set_option linter.unusedVariables false
set_option linter.unusedSimpArgs false
def liverylaw10_lives.f : Option Bool := some true
end Go.Proofs.Ytadkafhhkidecaa.P
