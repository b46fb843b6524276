/- Numbers and texts are put as just the document's bytes, behind what stands ahead: for any number, text and bytes ahead. -/

import Derived.OpenShut
import Derived.Test.YtnfnomcgalkagaaWPure
import Derived.Test.YtnfnomcgalkagaaHWLives
import Derived.Test.YtnfnomcgalkagaaP21
namespace Go.Proofs.Ytnfnomcgalkagaa.Pure
open Go.RowKit Go.Proofs.Ytnfnomcgalkagaa.P Go.Proofs.YtnfnomcgalkagaaW.PrintWords Go.Proofs.YtnfnomcgalkagaaW.PrintLast
theorem WirePuts : liverylaw03_WirePuts.Pure := by
  intro l0 a1 l2 _ _ _ ha _ _ _
  have ha2 : a1 ≤ 9223372036854775807 := (Go.bounds_i64 ha).2
  obtain ⟨k, hk⟩ : ∃ k : Nat, 2000 < k := ⟨2001, by omega⟩
  refine ⟨k, ?_⟩
  unfold liverylaw03_WirePuts.f
  have e1 := few3_eq l0 50
  have e2 := few3_eq l2 300
  rw [show ((50 : Nat) : Int) = 50 from rfl] at e1
  rw [show ((300 : Nat) : Int) = 300 from rfl] at e2
  rw [e1, e2]
  simp only [Option.bind_some]
  have h1 : (l0.take 50).length ≤ 50 := by rw [List.length_take]; omega
  have h2 : (l2.take 300).length ≤ 300 := by rw [List.length_take]; omega
  generalize l0.take 50 = a at h1
  generalize l2.take 300 = t at h2
  have hs := strOfNums_size t
  generalize strOfNums t = s at hs ⊢
  have hb1 := numB_length a1 ha2
  have hb2 := numB_length (s.size : Int) (by omega)
  rw [prog_Number a a1 (by omega) ha2, ref_Number k a a1 (by omega) ha2 (by omega)]
  simp only [Option.bind_some]
  rw [ref01_Same k _ _ (by simp only [List.length_append]; omega) (by simp only [List.length_append]; omega), prog_Text a s (by omega), ref_Text k a s (by omega) (by omega)]
  simp only [Option.bind_some]
  rw [ref01_Same k _ _ (by simp only [List.length_append, textB, bytesOf_length]; omega) (by simp only [List.length_append, textB, bytesOf_length]; omega)]
  simp [liverylaw03_lives.f]
end Go.Proofs.Ytnfnomcgalkagaa.Pure
