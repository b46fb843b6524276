/- The plain law of layer 10, the part that other layers use: bare vectors. -/
import Derived.Test.YtpnmmkoiemeodaaHVLives
import Derived.Test.YtpnmmkoiemeodaaHPlain
import Derived.Test.YtpnmmkoiemeodaaP5
import Derived.Test.YtpnmmkoiemeodaaP3
import Derived.Test.YtpnmmkoiemeodaaP5
namespace Go.Proofs.Ytpnmmkoiemeodaa.P
open Go.RowKit Go.Proofs.YtpnmmkoiemeodaaW.PrintWords Go.Proofs.YtpnmmkoiemeodaaW.PrintLast Go.Proofs.YtpnmmkoiemeodaaW.PrintMore
set_option linter.unusedVariables false
set_option linter.unusedSimpArgs false
theorem ref10_Same (k : Nat) (a b : List Int) (hm : a.length ≤ 9223372036854775806) (hk : a.length < k) : liveryref10_Same.f k a b = some (decide (a = b)) := by
  unfold liveryref10_Same.f
  by_cases hl : a.length = b.length
  · rw [if_pos (by omega)]
    have := same_loop a b hl hm (fun k i => liveryref10_Same.l0 k a b i) (fun k i => by simp only [liveryref10_Same.l0]) a.length k 0 (by omega) (by omega) (by omega)
    simpa using this
  · rw [if_neg (by omega)]
    simp only [Option.some.injEq]
    exact (decide_eq_false (fun e => hl (by rw [e]))).symm
theorem sl_Equal (k : Nat) (a b : List Int) (hm : a.length ≤ 9223372036854775806) (hk : a.length < k) : slices_Equal_int_int.f k a b = some (decide (a = b)) := by
  unfold slices_Equal_int_int.f
  by_cases hl : a.length = b.length
  · rw [if_pos (by omega)]
    have := same_loop a b hl hm (fun k i => slices_Equal_int_int.l0 k a b (a.length : Int) i) (fun k i => by
      simp only [slices_Equal_int_int.l0]
      by_cases h : i < (a.length : Int)
      · simp only [if_pos h]
      · simp only [if_neg h]) a.length k 0 (by omega) (by omega) (by omega)
    simpa using this
  · rw [if_neg (by omega)]
    simp only [Option.some.injEq]
    exact (decide_eq_false (fun e => hl (by rw [e]))).symm
/-! ### What is told of each domain -/
theorem getV_eq (l : List Int) (d : Int) (h1 : 1 ≤ d) (h2 : d ≤ 16) (h3 : d ≤ l.length) : getV l d = mx 0 (mn (rd l (d - 1)) 1099511627776) := by
  unfold getV
  rw [if_neg (by omega), if_neg (by unfold mn; split <;> omega)]
theorem getV_out (l : List Int) (d : Int) (h : d < 1 ∨ 16 < d ∨ (l.length : Int) < d) : getV l d = 0 := by
  unfold getV
  by_cases h1 : d < 1
  · rw [if_pos h1]
  · rw [if_neg h1, if_pos (by unfold mn; split <;> omega)]
theorem bareOf_le (of : Int → Int) : (bareOf of).length ≤ 16 := by rw [bareOf_length]; exact lastPos_le of 16
/-- May. -/
theorem prog_May (k : Nat) (l : List Int) (hl : l.length ≤ 20) (hk : 40 < k) : vector_May.f k l = some (decide (l = bareOf (getV l))) := by
  unfold vector_May.f vector_Bare.f
  simp only [Option.bind_some]
  rw [sl_Equal k l _ (by omega) (by omega)]
  rfl
theorem lives_eq : liverylaw10_lives.f = some true := rfl
theorem lastPos_zeros (of : Int → Int) (m : Nat) : ∀ n : Nat, m ≤ n → (∀ i : Nat, m ≤ i → i < n → of ((i : Int) + 1) ≤ 0) → lastPos of n = lastPos of m
  | 0, hm, _ => by rw [Nat.le_zero.1 hm]
  | n + 1, hm, h => by
    by_cases e : m = n + 1
    · rw [e]
    · rw [lastPos, if_neg (by have := h n (by omega) (by omega); omega)]
      exact lastPos_zeros of m n (by omega) (fun i h1 h2 => h i h1 (by omega))
theorem getV_small (l : List Int) (hl : l.length ≤ 16) (hr : ∀ x ∈ l, 0 ≤ x ∧ x ≤ 1099511627776) (i : Nat) (hi : i < l.length) : getV l ((i : Int) + 1) = l[i] := by
  rw [getV_eq l _ (by omega) (by omega) (by omega), show ((i : Int) + 1 - 1) = (i : Int) by omega, rd_nat l i hi]
  have := hr l[i] (List.getElem_mem hi)
  unfold mx mn
  repeat' split
  all_goals omega
theorem may_iff (l : List Int) (hl : l.length ≤ 16) (hr : ∀ x ∈ l, 0 ≤ x ∧ x ≤ 1099511627776) : l = bareOf (getV l) ↔ ¬ (0 < l.length ∧ rd l ((l.length : Int) - 1) = 0) := by
  have hz : lastPos (getV l) 16 = lastPos (getV l) l.length := lastPos_zeros _ _ 16 hl (fun i h1 h2 => by rw [getV_out l _ (.inr (.inr (by omega)))]; exact Int.le_refl _)
  have ht : (rowOf (getV l) 16).take l.length = l := by
    apply List.ext_getElem
    · rw [List.length_take, rowOf_length]; omega
    · intro i h1 h2
      rw [List.getElem_take]
      simp only [rowOf, List.getElem_map, List.getElem_range]
      exact getV_small l hl hr i h2
  by_cases h0 : l.length = 0
  · have e : l = [] := List.eq_nil_of_length_eq_zero h0
    subst e
    constructor
    · intro _ h; simp at h
    · intro _
      rw [bareOf, hz]
      rfl
  · obtain ⟨n, hn⟩ : ∃ n, l.length = n + 1 := ⟨l.length - 1, by omega⟩
    have hlast : rd l ((l.length : Int) - 1) = getV l ((n : Int) + 1) := by
      rw [show ((l.length : Int) - 1) = (n : Int) by omega, rd_nat l n (by omega), getV_small l hl hr n (by omega)]
    constructor
    · intro h hh
      have h1 := congrArg List.length h
      rw [bareOf_length, hz, hn, lastPos, if_neg (by rw [← hlast]; omega)] at h1
      have := lastPos_le (getV l) n
      omega
    · intro h
      have hp : 0 < getV l ((n : Int) + 1) := by
        rw [← hlast]
        have h2 : rd l ((l.length : Int) - 1) ≠ 0 := fun e => h ⟨by omega, e⟩
        have h3 : 0 ≤ rd l ((l.length : Int) - 1) := by
          rw [show ((l.length : Int) - 1) = (n : Int) by omega, rd_nat l n (by omega)]
          exact (hr _ (List.getElem_mem _)).1
        omega
      rw [bareOf, hz, hn, lastPos, if_pos hp, ← hn, ht]
end Go.Proofs.Ytpnmmkoiemeodaa.P
