/- The text of a role, and the role of a text, are those of the document: any role, any text. -/
import Derived.Test.YtajngkgafkhbiaaDoorNRead
import Derived.Test.YtajngkgafkhbiaaDoorP13
namespace Go.Proofs.YtajngkgafkhbiaaDoor.Pure
open Go.RowKit Go.Proofs.YtajngkgafkhbiaaDoor.P Go.Proofs.YtajngkgafkhbiaaDoorW.PrintWords Go.Proofs.YtajngkgafkhbiaaDoorW.PrintLast
set_option linter.unusedVariables false
theorem NamesTexts : liverylaw04_NamesTexts.Pure := by
  intro x0 a1 hx h1
  obtain ⟨hx0, hx1⟩ := hx
  obtain ⟨k, hk⟩ : ∃ k : Nat, a1.size + 41 < k := ⟨a1.size + 60, by omega⟩
  refine ⟨k, ?_⟩
  unfold liverylaw04_NamesTexts.f
  simp only [names_Read_eq k a1 (by omega) (by omega), ref04_Read_eq k a1 (by omega) (by omega), names_Text_eq _ _ (show x0.f0.size + x0.f1.size ≤ 9223372036854775806 by omega), ref04_Text_eq _ _ (show x0.f0.size + x0.f1.size ≤ 9223372036854775806 by omega), lives04 k (by omega), Option.bind_some]
  simp
end Go.Proofs.YtajngkgafkhbiaaDoor.Pure
