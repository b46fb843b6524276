/- Contract, printed by a program of this session's: the order of roles. -/
import Derived.Test.YtajngkgafkhbiaaDoorP0
import Derived.Outline
namespace Go.Proofs.YtajngkgafkhbiaaDoor.P
open Go.RowKit Go.Proofs.YtajngkgafkhbiaaDoorW.PrintWords Go.Proofs.YtajngkgafkhbiaaDoorW.PrintLast Go.Proofs.YtajngkgafkhbiaaDoorW.PrintMore
set_option linter.unusedVariables false
set_option linter.unusedSimpArgs false
def names_Less.f (a0_0 a0_1 a1_0 a1_1 : ByteArray) : Option Bool := some (if a0_0.toList = a1_0.toList ∧ a0_1.toList = a1_1.toList then false else if Op.bytesLess a0_0.toList a1_0.toList = true then true else if a0_0.toList = a1_0.toList then Op.bytesLess a0_1.toList a1_1.toList else false)
set_option maxHeartbeats 1000000 in
theorem names_Less.calls (a0_0 a0_1 a1_0 a1_1 : ByteArray) (r : Bool) (w : World) (h : names_Less.f a0_0 a0_1 a1_0 a1_1 = some r) :
    Calls Tryd.prog 22 #[.agg #[.string a0_0, .string a0_1], .agg #[.string a1_0, .string a1_1]] w fun e w' => e = .returned (.bool r) ∧ Below w.heap.size w w' := by
  cases h
  go_enter Tryd.func22, Tryd.ntmps22
  go_wp2_with fail
  all_goals go_ret
  all_goals exact ⟨by first | rfl | (simp_all; done), below_alloc (below_alloc (Below.refl _ _) _) _⟩
end Go.Proofs.YtajngkgafkhbiaaDoor.P
