/- Roles are ordered as the document says: any two. -/
import Derived.Test.YtajngkgafkhbiaaDoorNRead
import Derived.Test.YtajngkgafkhbiaaDoorP16
namespace Go.Proofs.YtajngkgafkhbiaaDoor.Pure
open Go.RowKit Go.Proofs.YtajngkgafkhbiaaDoor.P Go.Proofs.YtajngkgafkhbiaaDoorW.PrintWords Go.Proofs.YtajngkgafkhbiaaDoorW.PrintLast
set_option linter.unusedVariables false
theorem NamesLess : liverylaw04_NamesLess.Pure := by
  intro x0 x1 _ _
  obtain ⟨k, hk⟩ : ∃ k : Nat, 41 < k := ⟨60, by omega⟩
  refine ⟨k, ?_⟩
  unfold liverylaw04_NamesLess.f
  simp only [names_Less_eq, ref04_Less_eq, lives04 k (by omega), Option.bind_some]
  simp
end Go.Proofs.YtajngkgafkhbiaaDoor.Pure
