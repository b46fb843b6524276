/- Plain facts on lists that are held against each other. -/
import Derived.Test.YtadkafhhkidecaaHBase
namespace Go.Proofs.Ytadkafhhkidecaa.P
open Go.RowKit Go.Proofs.YtadkafhhkidecaaW.PrintWords Go.Proofs.YtadkafhhkidecaaW.PrintLast Go.Proofs.YtadkafhhkidecaaW.PrintMore
set_option linter.unusedVariables false
set_option linter.unusedSimpArgs false
theorem rd_nat (l : List Int) (i : Nat) (h : i < l.length) : rd l (i : Int) = l[i] := by
  simp [rd, List.getD_eq_getElem?_getD, List.getElem?_eq_getElem h]
theorem w64 {x : Int} (h0 : -9223372036854775808 ≤ x) (h1 : x ≤ 9223372036854775807) : wrap64 x = x := by unfold wrap64; omega
/-- A loop that holds two lists of one length against each other. -/
theorem same_loop (a b : List Int) (hl : a.length = b.length) (hm : a.length ≤ 9223372036854775806) (F : Nat → Int → Option Bool)
    (hF : ∀ k i, F (k + 1) i = if i < (a.length : Int) then (if 0 ≤ i then (if i < (b.length : Int) then (if rd a i = rd b i then F k (wrap64 (i + 1)) else some false) else none) else none) else some true) :
    ∀ (d k i : Nat), a.length - i = d → i ≤ a.length → d < k → F k (i : Int) = some (decide (a.drop i = b.drop i)) := by
  intro d
  induction d with
  | zero =>
    intro k i hd hi hk
    obtain ⟨k, rfl⟩ : ∃ m, k = m + 1 := ⟨k - 1, by omega⟩
    rw [hF, if_neg (by omega), List.drop_eq_nil_of_le (by omega), List.drop_eq_nil_of_le (by omega)]
    simp
  | succ d ih =>
    intro k i hd hi hk
    obtain ⟨k, rfl⟩ : ∃ m, k = m + 1 := ⟨k - 1, by omega⟩
    have h1 : i < a.length := by omega
    have h2 : i < b.length := by omega
    rw [hF, if_pos (by omega), if_pos (by omega), if_pos (by omega), rd_nat a i h1, rd_nat b i h2, List.drop_eq_getElem_cons h1, List.drop_eq_getElem_cons h2, w64 (by omega) (by omega)]
    by_cases e : a[i] = b[i]
    · rw [if_pos e]
      have := ih k (i + 1) (by omega) (by omega) (by omega)
      rw [Int.natCast_add] at this
      rw [show ((i : Int) + 1) = (i : Int) + ((1 : Nat) : Int) by simp, this]
      have e3 : (a[i] :: a.drop (i + 1) = b[i] :: b.drop (i + 1)) ↔ (a.drop (i + 1) = b.drop (i + 1)) := by
        rw [e]; exact ⟨fun h => (List.cons.inj h).2, fun h => by rw [h]⟩
      exact congrArg some (decide_eq_decide.2 e3.symm)
    · rw [if_neg e]
      exact congrArg some (decide_eq_false (fun h => e (List.cons.inj h).1)).symm

end Go.Proofs.Ytadkafhhkidecaa.P
