/- Written by a program of this session's, for this claim: the functions that the law reaches, their contracts, the law's row. Not trusted: it is checked as any text. -/
import Derived.Test.YtajngkgafkhbiaaDoorP0
import Derived.Test.YtajngkgafkhbiaaDoorHOpen
namespace Go.Proofs.YtajngkgafkhbiaaDoor.P
open Go.RowKit Go.Proofs.YtajngkgafkhbiaaDoorW.PrintWords Go.Proofs.YtajngkgafkhbiaaDoorW.PrintLast Go.Proofs.YtajngkgafkhbiaaDoorW.PrintMore
attribute [local go_sem] max2_int min2_int max_two min_two max_three min_three max_four min_four   -- for this text's walks alone
set_option linter.unusedVariables false
set_option linter.unusedSimpArgs false

def q23 (x : S23) : Prop := x.f0.size ≤ 140737488351232 ∧ x.f1.size ≤ 140737488351232
theorem opens23 : Opens Tryd.prog 23 k23 q23 := by
  have h := opens_iso (d := (Kd.pair Kd.string Kd.string)) (fun x : S23 => (x.f0, x.f1)) (fun v => ⟨v.1, v.2⟩) (fun _ => rfl) (opens_struct Tryd.underlying23 (by kernel_rfl) (opensF_cons rfl (by kernel_rfl) (opens_string Tryd.underlying9) (opensF_one rfl (by kernel_rfl) (opens_string Tryd.underlying9))))
  exact ⟨fun enc w base sp held fuel cs x hx hz => h.out enc w base sp held fuel cs x hx hz⟩
end Go.Proofs.YtajngkgafkhbiaaDoor.P
