/- The plain law of layer 3: numbers and texts as bytes, by the document. -/
import Derived.Test.YtpnmmkoiemeodaaDoorWPut
import Derived.Test.YtpnmmkoiemeodaaDoorP24
import Derived.Test.YtpnmmkoiemeodaaDoorP24
namespace Go.Proofs.YtpnmmkoiemeodaaDoor.P
open Go.RowKit Go.Proofs.YtpnmmkoiemeodaaDoorW.PrintWords Go.Proofs.YtpnmmkoiemeodaaDoorW.PrintLast Go.Proofs.YtpnmmkoiemeodaaDoorW.PrintMore
set_option linter.unusedVariables false
set_option linter.unusedSimpArgs false
theorem ref_Number_loop (l : List Int) (hl : l.length + 16 ≤ 140737488355328) : ∀ (d k n : Nat) (acc : List Int), (digs n).length = d → d + 1 < k → n ≤ 9223372036854775807 → acc.length + d ≤ 8 →
    liveryref03_Number.l0 k l (n : Int) acc = some (l ++ [(((digs n ++ acc).length : Nat) : Int)] ++ (digs n ++ acc)) := by
  intro d
  induction d with
  | zero =>
    intro k n acc hd hk hn ha
    obtain ⟨k, rfl⟩ : ∃ m, k = m + 1 := ⟨k - 1, by omega⟩
    have h0 : n = 0 := by
      by_cases h : n = 0
      · exact h
      · rw [digs_succ n h] at hd; simp at hd
    subst h0
    simp only [liveryref03_Number.l0, digs_zero, List.nil_append, List.length_nil]
    rw [if_neg (by omega), if_pos (by omega)]
    simp only [Option.bind_some]
    rw [if_pos (by omega)]
    simp only [Option.bind_some, List.length_append, List.length_cons, List.length_nil]
    rw [if_pos (by omega), Int.emod_eq_of_lt (by omega) (by omega)]
  | succ d ih =>
    intro k n acc hd hk hn ha
    obtain ⟨k, rfl⟩ : ∃ m, k = m + 1 := ⟨k - 1, by omega⟩
    have h0 : n ≠ 0 := by intro h; subst h; rw [digs_zero] at hd; simp at hd
    have hs := digs_succ n h0
    have hd2 : (digs (n / 256)).length = d := by rw [hs] at hd; simp at hd; exact hd
    simp only [liveryref03_Number.l0, List.length_nil, List.nil_append]
    rw [if_pos (by omega), if_pos (by omega)]
    simp only [Option.bind_some, List.length_cons, List.length_nil]
    rw [if_pos (by omega)]
    have e1 : Int.tmod (n : Int) 256 % 256 = ((n % 256 : Nat) : Int) := by rw [Int.tmod_eq_emod_of_nonneg (by omega)]; omega
    have e2 : wrap64 (Int.tdiv (n : Int) 256) = ((n / 256 : Nat) : Int) := by rw [Int.tdiv_eq_ediv_of_nonneg (by omega)]; unfold wrap64; omega
    rw [e1, e2]
    clear e1 e2
    have hle : ([((n % 256 : Nat) : Int)] ++ acc).length + d ≤ 8 := by rw [List.length_append, List.length_singleton]; omega
    have hi := ih k (n / 256) ([((n % 256 : Nat) : Int)] ++ acc) hd2 (by omega) (by omega) hle
    have e3 : digs (n / 256) ++ ([((n % 256 : Nat) : Int)] ++ acc) = digs n ++ acc := by rw [hs, List.append_assoc]
    rw [e3] at hi
    exact hi
theorem ref_Number (k : Nat) (l : List Int) (a : Int) (hl : l.length + 16 ≤ 140737488355328) (ha : a ≤ 9223372036854775807) (hk : 20 < k) : liveryref03_Number.f k l a = some (l ++ numB a) := by
  obtain ⟨k, rfl⟩ : ∃ m, k = m + 1 := ⟨k - 1, by omega⟩
  have key : ∀ n : Nat, n ≤ 9223372036854775807 → liveryref03_Number.j0 (k + 1) l (n : Int) = some (l ++ numB (n : Int)) := by
    intro n hn
    simp only [liveryref03_Number.j0]
    have h8 := digs_le8 n hn
    rw [ref_Number_loop l hl _ k n [] rfl (by omega) hn (by simpa using h8)]
    simp only [List.append_nil, numB, Int.toNat_natCast, digs_length n n (Nat.le_refl _) (by omega), List.append_assoc, List.singleton_append]
  unfold liveryref03_Number.f
  by_cases h : a < 0
  · rw [if_pos h, numB_neg (by omega)]
    exact key 0 (by omega)
  · rw [if_neg h]
    obtain ⟨n, rfl⟩ := Int.eq_ofNat_of_zero_le (show 0 ≤ a by omega)
    exact key n (by omega)
theorem ref_Text (k : Nat) (l : List Int) (s : ByteArray) (hl : l.length + s.size + 100 ≤ 140737488355328) (hk : 20 < k) : liveryref03_Text.f k l s = some (l ++ textB s) := by
  unfold liveryref03_Text.f
  have hb := numB_length (s.size : Int) (by omega)
  rw [ref_Number k l _ (by omega) (by omega) hk]
  simp only [Option.bind_some]
  rw [if_pos (by simp only [List.length_append]; omega), textB, List.append_assoc]
end Go.Proofs.YtpnmmkoiemeodaaDoor.P
