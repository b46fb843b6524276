/- Written by a program of this session's, for this claim: the functions that the law reaches, their contracts, the law's row. Not trusted: it is checked as any text. -/
import Derived.Test.YtmlopbhlmgfknaaDoorP0
import Derived.Test.YtmlopbhlmgfknaaDoorHOpen
namespace Go.Proofs.YtmlopbhlmgfknaaDoor.P
open Go.RowKit Go.Proofs.YtmlopbhlmgfknaaDoorW.PrintWords Go.Proofs.YtmlopbhlmgfknaaDoorW.PrintLast Go.Proofs.YtmlopbhlmgfknaaDoorW.PrintMore
attribute [local go_sem] max2_int min2_int max_two min_two max_three min_three max_four min_four   -- for this text's walks alone
set_option linter.unusedVariables false
set_option linter.unusedSimpArgs false

def q26 (x : S26) : Prop := (Lit.int .i64 x.f0).wf = true ∧ (Lit.int .i64 x.f1).wf = true
theorem opens26 : Opens Tryd.prog 26 k26 q26 := by
  have h := opens_iso (d := (Kd.pair (Kd.int .i64) (Kd.int .i64))) (fun x : S26 => (x.f0, x.f1)) (fun v => ⟨v.1, v.2⟩) (fun _ => rfl) (opens_struct Tryd.underlying26 (by kernel_rfl) (opensF_cons rfl (by kernel_rfl) (opens_int Tryd.underlying3) (opensF_one rfl (by kernel_rfl) (opens_int Tryd.underlying3))))
  exact ⟨fun enc w base sp held fuel cs x hx hz => h.out enc w base sp held fuel cs x hx hz⟩
def q28 (x : S28) : Prop := x.f0.size ≤ 140737488351232 ∧ x.f1.size ≤ 140737488351232
theorem opens28 : Opens Tryd.prog 28 k28 q28 := by
  have h := opens_iso (d := (Kd.pair Kd.string Kd.string)) (fun x : S28 => (x.f0, x.f1)) (fun v => ⟨v.1, v.2⟩) (fun _ => rfl) (opens_struct Tryd.underlying28 (by kernel_rfl) (opensF_cons rfl (by kernel_rfl) (opens_string Tryd.underlying9) (opensF_one rfl (by kernel_rfl) (opens_string Tryd.underlying9))))
  exact ⟨fun enc w base sp held fuel cs x hx hz => h.out enc w base sp held fuel cs x hx hz⟩
def q30 (x : S30) : Prop := q26 x.f0 ∧ x.f1.size ≤ 140737488351232 ∧ (Lit.int .i64 x.f2).wf = true ∧ x.f3.size ≤ 140737488351232 ∧ q28 x.f4 ∧ q28 x.f5
theorem opens30 : Opens Tryd.prog 30 k30 q30 := by
  have h := opens_iso (d := (Kd.pair k26 (Kd.pair Kd.string (Kd.pair (Kd.int .i64) (Kd.pair Kd.string (Kd.pair k28 k28)))))) (fun x : S30 => (x.f0, x.f1, x.f2, x.f3, x.f4, x.f5)) (fun v => ⟨v.1, v.2.1, v.2.2.1, v.2.2.2.1, v.2.2.2.2.1, v.2.2.2.2.2⟩) (fun _ => rfl) (opens_struct Tryd.underlying30 (by kernel_rfl) (opensF_cons rfl (by kernel_rfl) opens26 (opensF_cons rfl (by kernel_rfl) (opens_string Tryd.underlying9) (opensF_cons rfl (by kernel_rfl) (opens_int Tryd.underlying3) (opensF_cons rfl (by kernel_rfl) (opens_string Tryd.underlying9) (opensF_cons rfl (by kernel_rfl) opens28 (opensF_one rfl (by kernel_rfl) opens28)))))))
  exact ⟨fun enc w base sp held fuel cs x hx hz => h.out enc w base sp held fuel cs x hx hz⟩
end Go.Proofs.YtmlopbhlmgfknaaDoor.P
