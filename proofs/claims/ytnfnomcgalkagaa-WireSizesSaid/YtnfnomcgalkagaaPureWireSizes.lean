/- Of two numbers the greater one has no fewer bytes: for any two. -/
import Derived.OpenShut
import Derived.Test.YtnfnomcgalkagaaWPure
import Derived.Test.YtnfnomcgalkagaaHWLives
import Derived.Test.YtnfnomcgalkagaaP24
namespace Go.Proofs.Ytnfnomcgalkagaa.Pure
open Go.RowKit Go.Proofs.Ytnfnomcgalkagaa.P Go.Proofs.YtnfnomcgalkagaaW.PrintWords Go.Proofs.YtnfnomcgalkagaaW.PrintLast
theorem WireSizes : liverylaw03_WireSizes.Pure := by
  intro a b ha hb
  have ha2 : a ≤ 9223372036854775807 := (Go.bounds_i64 ha).2
  have hb2 : b ≤ 9223372036854775807 := (Go.bounds_i64 hb).2
  unfold liverylaw03_WireSizes.f
  rw [prog_Number [] a (by decide) ha2, prog_Number [] b (by decide) hb2]
  simp only [Option.bind_some, List.nil_append]
  by_cases h : a > b
  · have := numB_mono b a (by omega) ha2
    rw [if_pos h, if_pos (by omega)]; rfl
  · have := numB_mono a b (by omega) hb2
    rw [if_neg h, if_pos (by omega)]; rfl
end Go.Proofs.Ytnfnomcgalkagaa.Pure
