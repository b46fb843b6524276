/- Which texts are names, which are domains, and which roles are some, is told as the document says: any text, any role. -/
import Derived.Test.YtajngkgafkhbiaaDoorNRead
import Derived.Test.YtajngkgafkhbiaaDoorP10
namespace Go.Proofs.YtajngkgafkhbiaaDoor.Pure
open Go.RowKit Go.Proofs.YtajngkgafkhbiaaDoor.P Go.Proofs.YtajngkgafkhbiaaDoorW.PrintWords Go.Proofs.YtajngkgafkhbiaaDoorW.PrintLast
set_option linter.unusedVariables false
theorem NamesKinds : liverylaw04_NamesKinds.Pure := by
  intro a0 x1 _ _
  obtain ⟨k, hk⟩ : ∃ k : Nat, 41 < k := ⟨60, by omega⟩
  refine ⟨k, ?_⟩
  unfold liverylaw04_NamesKinds.f
  simp only [names_May.f, ref04_May k a0 (by omega), names_Number_eq k a0 (by omega), liveryref04_Number.f, names_Role_eq k _ _ (show 20 < k by omega), ref04_Role_eq k _ _ (show 20 < k by omega), lives04 k (by omega), Option.bind_some]
  simp
end Go.Proofs.YtajngkgafkhbiaaDoor.Pure
