/- A credential is put as just the bytes that the document tells, or refused: any credential, behind any bytes. -/
import Derived.Test.YtpnmmkoiemeodaaDoorC5P
import Derived.Test.YtpnmmkoiemeodaaDoorP26
namespace Go.Proofs.YtpnmmkoiemeodaaDoor.Pure
open Go.RowKit Go.Proofs.YtpnmmkoiemeodaaDoor.P Go.Proofs.YtpnmmkoiemeodaaDoorW.PrintWords Go.Proofs.YtpnmmkoiemeodaaDoorW.PrintLast
set_option linter.unusedVariables false
theorem putR_len (l : List Int) (d q : Int) (n : ByteArray) (c : Int) (w ao an bo bn : ByteArray) (hl : l.length ≤ 20) : (putR l d q n c w ao an bo bn).1.length ≤ 1000 := by
  unfold putR
  by_cases h : credB d q n c w ao an bo bn = true
  · obtain ⟨hd, hc, h1, h2, h3, h4, h5, h6⟩ := cred_small h
    have b1 := numB_length d (by omega)
    have b2 := numB_length q (by omega)
    have b3 := textB_len n h1
    have b4 := numB_length c (by omega)
    have b5 := textB_len w h2
    have b6 := textB_len an h4
    have b7 := textB_len bn h6
    have g1 := numR_le ao
    have g2 := numR_le bo
    have b8 := numB_length (numR ao) (by omega)
    have b9 := numB_length (numR bo) (by omega)
    rw [if_pos h]
    simp only [putC, bodyP, roleP, List.length_append]
    repeat' split
    all_goals ((try simp only [List.length_append]); omega)
  · rw [if_neg h]
    simp
theorem CredPuts : liverylaw05_CredPuts.Pure := by
  intro l0 x1 _ _
  obtain ⟨k, hk⟩ : ∃ k : Nat, 1041 < k := ⟨1060, by omega⟩
  obtain ⟨k, rfl⟩ : ∃ m, k = m + 1 := ⟨k - 1, by omega⟩
  refine ⟨k + 1, ?_⟩
  have hj : ∀ l : List Int, l.length ≤ 20 → liverylaw05_CredPuts.j0 (k + 1) l x1.f0.f0 x1.f0.f1 x1.f1 x1.f2 x1.f3 x1.f4.f0 x1.f4.f1 x1.f5.f0 x1.f5.f1 = some true := by
    intro l hl
    have hlen := putR_len l x1.f0.f0 x1.f0.f1 x1.f1 x1.f2 x1.f3 x1.f4.f0 x1.f4.f1 x1.f5.f0 x1.f5.f1 hl
    simp only [liverylaw05_CredPuts.j0]
    rw [cred_Put_eq k l _ _ _ _ _ _ _ _ _ (by omega) (by omega), ref05_Put_eq k l _ _ _ _ _ _ _ _ _ (by omega) (by omega)]
    simp only [Option.bind_some]
    rw [ref01_Same k _ _ (by omega) (by omega), lives05 k (by omega)]
    simp
  unfold liverylaw05_CredPuts.f
  by_cases h : l0.length > 20
  · rw [if_pos (by omega), if_pos (by omega)]
    exact hj _ (by rw [List.length_take]; omega)
  · rw [if_neg (by omega)]
    exact hj _ (by omega)
end Go.Proofs.YtpnmmkoiemeodaaDoor.Pure
