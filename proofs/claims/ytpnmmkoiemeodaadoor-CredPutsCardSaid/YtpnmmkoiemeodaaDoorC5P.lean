/- The plain law of layer 5: credentials' bytes, by the document. -/
import Derived.Test.YtpnmmkoiemeodaaDoorC5M
import Derived.Test.YtpnmmkoiemeodaaDoorWPutR
import Derived.Test.YtpnmmkoiemeodaaDoorP25
namespace Go.Proofs.YtpnmmkoiemeodaaDoor.P
open Go.RowKit Go.Proofs.YtpnmmkoiemeodaaDoorW.PrintWords Go.Proofs.YtpnmmkoiemeodaaDoorW.PrintLast Go.Proofs.YtpnmmkoiemeodaaDoorW.PrintMore
set_option linter.unusedVariables false
set_option linter.unusedSimpArgs false
theorem ref05_PutRole_eq (k : Nat) (l : List Int) (o n : ByteArray) (hl : l.length + n.size + 200 ≤ 140737488355328) (hk : 20 < k) : liveryref05_PutRole.f k l o n = some (l ++ roleP o n) := by
  have hle := numR_le o
  have hb := numB_length (numR o) (by omega)
  unfold liveryref05_PutRole.f
  simp only [liveryref04_Number.f, Option.bind_some]
  rw [ref_Number k l _ (by omega) (by omega) hk]
  simp only [Option.bind_some]
  rw [ref_Text k _ n (by rw [List.length_append]; omega) hk]
  simp only [Option.bind_some, roleP, List.append_assoc]
theorem ref05_Put_eq (k : Nat) (l : List Int) (d q : Int) (n : ByteArray) (c : Int) (w ao an bo bn : ByteArray) (hl : l.length ≤ 1000000) (hk : 25 < k) : liveryref05_Put.f k l d q n c w ao an bo bn = some (putR l d q n c w ao an bo bn) := by
  obtain ⟨k, rfl⟩ : ∃ m, k = m + 3 := ⟨k - 3, by omega⟩
  unfold liveryref05_Put.f putR
  rw [ref05_May_eq (k + 3) d q n c w ao an bo bn (by omega)]
  simp only [Option.bind_some]
  by_cases h : credB d q n c w ao an bo bn = true
  · obtain ⟨hd, hc, h1, h2, h3, h4, h5, h6⟩ := cred_small h
    have b1 := numB_length d (by omega)
    have b2 := numB_length q (by omega)
    have b3 := textB_len n h1
    have b4 := numB_length c (by omega)
    have b5 := textB_len w h2
    have b6 := textB_len an h4
    have b7 := textB_len bn h6
    have g1 := numR_le ao
    have g2 := numR_le bo
    have b8 := numB_length (numR ao) (by omega)
    have b9 := numB_length (numR bo) (by omega)
    have b10 : (roleP ao an).length ≤ 26 := by unfold roleP; rw [List.length_append]; omega
    rw [if_pos h, if_pos h, ref_Number _ l d (by omega) (by omega) (by omega)]
    simp only [Option.bind_some]
    rw [ref_Number _ _ q (by simp only [List.length_append]; omega) (by omega) (by omega)]
    simp only [Option.bind_some]
    rw [ref_Text _ _ n (by simp only [List.length_append]; omega) (by omega)]
    simp only [Option.bind_some]
    rw [ref_Number _ _ c (by simp only [List.length_append]; omega) (by omega) (by omega)]
    simp only [Option.bind_some]
    simp only [liveryref05_Put.j0, liveryref05_Put.j1, liveryref05_Put.j2]
    unfold putC bodyP
    by_cases k1 : c = 1
    · subst k1
      rw [if_pos rfl, ref_Text _ _ w (by simp only [List.length_append]; omega) (by omega)]
      simp [List.append_assoc]
    by_cases k2 : c = 2
    · subst k2
      rw [if_neg (by omega), if_pos rfl, if_pos rfl, ref05_PutRole_eq _ _ ao an (by simp only [List.length_append]; omega) (by omega)]
      simp [List.append_assoc]
    by_cases k3 : c = 3
    · subst k3
      rw [ref_Text _ _ an (by simp only [List.length_append]; omega) (by omega)]
      simp only [Option.bind_some]
      rw [ref_Text _ _ bn (by simp only [List.length_append]; omega) (by omega)]
      simp [List.append_assoc]
    obtain rfl : c = 4 := by omega
    rw [if_neg (by omega), if_neg (by omega), if_pos (by rfl), ref05_PutRole_eq _ _ ao an (by simp only [List.length_append]; omega) (by omega)]
    simp only [Option.bind_some]
    rw [if_neg (by omega), if_pos trivial, ref05_PutRole_eq _ _ bo bn (by simp only [List.length_append]; omega) (by omega)]
    simp [List.append_assoc]
  · rw [if_neg h, if_neg h]
end Go.Proofs.YtpnmmkoiemeodaaDoor.P
