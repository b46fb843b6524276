/- Written by a program of this session's, for this claim: the functions that the law reaches, their contracts, the law's row. Not trusted: it is checked as any text. -/
import Derived.Test.YtadkafhhkidecaaP0
import Derived.Test.YtadkafhhkidecaaHOpen
namespace Go.Proofs.Ytadkafhhkidecaa.P
open Go.RowKit Go.Proofs.YtadkafhhkidecaaW.PrintWords Go.Proofs.YtadkafhhkidecaaW.PrintLast Go.Proofs.YtadkafhhkidecaaW.PrintMore
attribute [local go_sem] max2_int min2_int max_two min_two max_three min_three max_four min_four   -- for this text's walks alone
set_option linter.unusedVariables false
set_option linter.unusedSimpArgs false

def q29 (x : S29) : Prop := (Lit.int .i64 x.f0).wf = true ∧ (Lit.int .i64 x.f1).wf = true
theorem opens29 : Opens Try.prog 29 k29 q29 := by
  have h := opens_iso (d := (Kd.pair (Kd.int .i64) (Kd.int .i64))) (fun x : S29 => (x.f0, x.f1)) (fun v => ⟨v.1, v.2⟩) (fun _ => rfl) (opens_struct Try.underlying29 (by kernel_rfl) (opensF_cons rfl (by kernel_rfl) (opens_int Try.underlying3) (opensF_one rfl (by kernel_rfl) (opens_int Try.underlying3))))
  exact ⟨fun enc w base sp held fuel cs x hx hz => h.out enc w base sp held fuel cs x hx hz⟩
def q33 (x : S33) : Prop := (Lit.int .i64 x.f0).wf = true ∧ q29 x.f1 ∧ (x.f2.length ≤ maxLen ∧ x.f2.length * 8 ≤ 140737488351232 ∧ ∀ y0 ∈ x.f2, (Lit.int .i64 y0).wf = true) ∧ (x.f3.length ≤ maxLen ∧ x.f3.length * 24 ≤ 140737488351232 ∧ ∀ y0 ∈ x.f3, (y0.length ≤ maxLen ∧ y0.length * 8 ≤ 140737488351232 ∧ ∀ y1 ∈ y0, (Lit.int .i64 y1).wf = true))
theorem opens33 : Opens Try.prog 33 k33 q33 := by
  have h := opens_iso (d := (Kd.pair (Kd.int .i64) (Kd.pair k29 (Kd.pair (Kd.slice 3 (Kd.int .i64)) (Kd.slice 30 (Kd.slice 3 (Kd.int .i64))))))) (fun x : S33 => (x.f0, x.f1, x.f2, x.f3)) (fun v => ⟨v.1, v.2.1, v.2.2.1, v.2.2.2⟩) (fun _ => rfl) (opens_struct Try.underlying33 (by kernel_rfl) (opensF_cons rfl (by kernel_rfl) (opens_int Try.underlying3) (opensF_cons rfl (by kernel_rfl) opens29 (opensF_cons rfl (by kernel_rfl) (opens_slice (d := (Kd.int .i64)) (B := 8) Try.underlying30 (by kernel_rfl) (by kernel_rfl) (opens_int Try.underlying3)) (opensF_one rfl (by kernel_rfl) (opens_slice (d := (Kd.slice 3 (Kd.int .i64))) (B := 24) Try.underlying31 (by kernel_rfl) (by kernel_rfl) (opens_slice (d := (Kd.int .i64)) (B := 8) Try.underlying30 (by kernel_rfl) (by kernel_rfl) (opens_int Try.underlying3))))))))
  exact ⟨fun enc w base sp held fuel cs x hx hz => h.out enc w base sp held fuel cs x hx hz⟩
end Go.Proofs.Ytadkafhhkidecaa.P
