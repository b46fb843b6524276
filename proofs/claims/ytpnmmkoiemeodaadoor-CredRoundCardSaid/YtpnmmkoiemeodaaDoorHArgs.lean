/- Written by a program of this session's, for this claim: the functions that the law reaches, their contracts, the law's row. Not trusted: it is checked as any text. -/
import Derived.Test.YtpnmmkoiemeodaaDoorP0
import Derived.Test.YtpnmmkoiemeodaaDoorHOpen
namespace Go.Proofs.YtpnmmkoiemeodaaDoor.P
open Go.RowKit Go.Proofs.YtpnmmkoiemeodaaDoorW.PrintWords Go.Proofs.YtpnmmkoiemeodaaDoorW.PrintLast Go.Proofs.YtpnmmkoiemeodaaDoorW.PrintMore
attribute [local go_sem] max2_int min2_int max_two min_two max_three min_three max_four min_four   -- for this text's walks alone
set_option linter.unusedVariables false
set_option linter.unusedSimpArgs false

def q23 (x : S23) : Prop := (Lit.int .i64 x.f0).wf = true ∧ (Lit.int .i64 x.f1).wf = true
theorem opens23 : Opens Tryd.prog 23 k23 q23 := by
  have h := opens_iso (d := (Kd.pair (Kd.int .i64) (Kd.int .i64))) (fun x : S23 => (x.f0, x.f1)) (fun v => ⟨v.1, v.2⟩) (fun _ => rfl) (opens_struct Tryd.underlying23 (by kernel_rfl) (opensF_cons rfl (by kernel_rfl) (opens_int Tryd.underlying3) (opensF_one rfl (by kernel_rfl) (opens_int Tryd.underlying3))))
  exact ⟨fun enc w base sp held fuel cs x hx hz => h.out enc w base sp held fuel cs x hx hz⟩
def q25 (x : S25) : Prop := x.f0.size ≤ 140737488351232 ∧ x.f1.size ≤ 140737488351232
theorem opens25 : Opens Tryd.prog 25 k25 q25 := by
  have h := opens_iso (d := (Kd.pair Kd.string Kd.string)) (fun x : S25 => (x.f0, x.f1)) (fun v => ⟨v.1, v.2⟩) (fun _ => rfl) (opens_struct Tryd.underlying25 (by kernel_rfl) (opensF_cons rfl (by kernel_rfl) (opens_string Tryd.underlying9) (opensF_one rfl (by kernel_rfl) (opens_string Tryd.underlying9))))
  exact ⟨fun enc w base sp held fuel cs x hx hz => h.out enc w base sp held fuel cs x hx hz⟩
def q27 (x : S27) : Prop := q23 x.f0 ∧ x.f1.size ≤ 140737488351232 ∧ (Lit.int .i64 x.f2).wf = true ∧ x.f3.size ≤ 140737488351232 ∧ q25 x.f4 ∧ q25 x.f5
theorem opens27 : Opens Tryd.prog 27 k27 q27 := by
  have h := opens_iso (d := (Kd.pair k23 (Kd.pair Kd.string (Kd.pair (Kd.int .i64) (Kd.pair Kd.string (Kd.pair k25 k25)))))) (fun x : S27 => (x.f0, x.f1, x.f2, x.f3, x.f4, x.f5)) (fun v => ⟨v.1, v.2.1, v.2.2.1, v.2.2.2.1, v.2.2.2.2.1, v.2.2.2.2.2⟩) (fun _ => rfl) (opens_struct Tryd.underlying27 (by kernel_rfl) (opensF_cons rfl (by kernel_rfl) opens23 (opensF_cons rfl (by kernel_rfl) (opens_string Tryd.underlying9) (opensF_cons rfl (by kernel_rfl) (opens_int Tryd.underlying3) (opensF_cons rfl (by kernel_rfl) (opens_string Tryd.underlying9) (opensF_cons rfl (by kernel_rfl) opens25 (opensF_one rfl (by kernel_rfl) opens25)))))))
  exact ⟨fun enc w base sp held fuel cs x hx hz => h.out enc w base sp held fuel cs x hx hz⟩
end Go.Proofs.YtpnmmkoiemeodaaDoor.P
