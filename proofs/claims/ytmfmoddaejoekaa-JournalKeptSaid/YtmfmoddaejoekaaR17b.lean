/- The plain model of layer 17: what a side's bytes are. -/
import Derived.Test.YtmfmoddaejoekaaHFrame
import Derived.Test.YtmfmoddaejoekaaHMethods
set_option linter.unusedVariables false
set_option linter.unusedSimpArgs false
namespace Go.Proofs.Ytmfmoddaejoekaa.P
open Go.RowKit Go.Proofs.YtmfmoddaejoekaaW.PrintWords Go.Proofs.YtmfmoddaejoekaaW.PrintLast Go.Proofs.YtmfmoddaejoekaaW.PrintMore
/-- What a side's bytes begin with: the length that its first frame tells; 0: nothing, 1: torn, 2: wrong, 3: a frame. -/
def nJ (b : List Int) : Nat := (256 * rd b 0 + rd b 1).toNat
def nextJ (b : List Int) : Nat := if b.length = 0 then 0 else if b.length < 2 then 1 else if nJ b < 1 ∨ 8192 < nJ b then 2 else if b.length < nJ b + 4 then 1 else if (b.take (nJ b + 4)).drop (nJ b + 2) = putM (sumM (b.take (nJ b + 2))) then 3 else 2
def recJ (b : List Int) : List Int := (b.take (nJ b + 2)).drop 2
def readJ : Nat → List Int → List (List Int) × Nat × Nat
  | 0, _ => ([], 0, 0)
  | k + 1, b => if nextJ b = 3 then (recJ b :: (readJ k (b.drop (nJ b + 4))).1, nJ b + 4 + (readJ k (b.drop (nJ b + 4))).2.1, (readJ k (b.drop (nJ b + 4))).2.2) else ([], 0, nextJ b)
/-- A side's records, how many bytes they have, how it goes on. -/
def readA (b : List Int) : List (List Int) × Nat × Nat := readJ (b.length + 1) b
theorem next3 {b : List Int} (h : nextJ b = 3) : 1 ≤ nJ b ∧ nJ b ≤ 8192 ∧ nJ b + 4 ≤ b.length ∧ (b.take (nJ b + 4)).drop (nJ b + 2) = putM (sumM (b.take (nJ b + 2))) := by
  unfold nextJ at h
  by_cases h1 : b.length = 0
  · rw [if_pos h1] at h; omega
  rw [if_neg h1] at h
  by_cases h2 : b.length < 2
  · rw [if_pos h2] at h; omega
  rw [if_neg h2] at h
  by_cases h3 : nJ b < 1 ∨ 8192 < nJ b
  · rw [if_pos h3] at h; omega
  rw [if_neg h3] at h
  by_cases h4 : b.length < nJ b + 4
  · rw [if_pos h4] at h; omega
  rw [if_neg h4] at h
  by_cases h5 : (b.take (nJ b + 4)).drop (nJ b + 2) = putM (sumM (b.take (nJ b + 2)))
  · exact ⟨by omega, by omega, by omega, h5⟩
  · rw [if_neg h5] at h; omega
theorem readJ_fuel : ∀ (k j : Nat) (b : List Int), b.length < k → b.length < j → readJ k b = readJ j b
  | 0, _, _, h, _ => by omega
  | _, 0, _, _, h => by omega
  | k + 1, j + 1, b, h1, h2 => by
    simp only [readJ]
    by_cases h : nextJ b = 3
    · have h3 := next3 h
      rw [if_pos h, if_pos h, readJ_fuel k j (b.drop (nJ b + 4)) (by rw [List.length_drop]; omega) (by rw [List.length_drop]; omega)]
    · rw [if_neg h, if_neg h]
theorem readA_step {b : List Int} (h : nextJ b = 3) : readA b = (recJ b :: (readA (b.drop (nJ b + 4))).1, nJ b + 4 + (readA (b.drop (nJ b + 4))).2.1, (readA (b.drop (nJ b + 4))).2.2) := by
  have h3 := next3 h
  have h4 := readJ_fuel b.length ((b.drop (nJ b + 4)).length + 1) (b.drop (nJ b + 4)) (by rw [List.length_drop]; omega) (by omega)
  unfold readA
  rw [← h4]
  show (if nextJ b = 3 then _ else _) = _
  rw [if_pos h]
theorem readA_stop {b : List Int} (h : nextJ b ≠ 3) : readA b = ([], 0, nextJ b) := by
  unfold readA
  show (if nextJ b = 3 then _ else _) = _
  rw [if_neg h]
/-- .. with records ahead. -/
def glue (L : List (List Int)) (s : Nat) (r : List (List Int) × Nat × Nat) : List (List Int) × Nat × Nat := (L ++ r.1, s + r.2.1, r.2.2)
theorem glue_zero (r : List (List Int) × Nat × Nat) : glue [] 0 r = r := by unfold glue; simp
theorem glue_step (L : List (List Int)) (s : Nat) (b : List Int) (h : nextJ (b.drop s) = 3) : glue L s (readA (b.drop s)) = glue (L ++ [recJ (b.drop s)]) (s + (nJ (b.drop s) + 4)) (readA (b.drop (s + (nJ (b.drop s) + 4)))) := by
  rw [readA_step h, List.drop_drop]
  simp only [glue, List.append_assoc, List.singleton_append, Prod.mk.injEq, true_and]
  exact ⟨by omega, trivial⟩
theorem glue_stop (L : List (List Int)) (s : Nat) (b : List Int) (h : nextJ (b.drop s) ≠ 3) : glue L s (readA (b.drop s)) = (L, s, nextJ (b.drop s)) := by
  rw [readA_stop h]
  simp [glue]
/-- A head's record: its generation, how many records belong to it, the error behind them. -/
def headM (r : List Int) : Int × Int × Int :=
  ((numAt r 0 0 1 1099511627776).1, (numAt r (numAt r 0 0 1 1099511627776).2.1 (numAt r 0 0 1 1099511627776).2.2 0 4000).1,
   endAt r (numAt r (numAt r 0 0 1 1099511627776).2.1 (numAt r 0 0 1 1099511627776).2.2 0 4000).2.1 (numAt r (numAt r 0 0 1 1099511627776).2.1 (numAt r 0 0 1 1099511627776).2.2 0 4000).2.2)
/-- Of a side's records: are they right, and the generation (0: it does not count). -/
def countM (L : List (List Int)) : Bool × Int :=
  match L with
  | [] => (true, 0)
  | r :: L' => if (headM r).2.2 ≠ 0 then (false, 0) else if (headM r).2.1 < ((r :: L').length : Int) then (true, (headM r).1) else (true, 0)
/-- What 'parse' tells: records, bytes, torn, generation, right. -/
def sideM (b : List Int) : List (List Int) × Int × Bool × Int × Bool :=
  if (readA b).2.2 = 2 then ([], 0, false, 0, false) else ((readA b).1, ((readA b).2.1 : Int), decide ((readA b).2.2 = 1), (countM (readA b).1).2, (countM (readA b).1).1)
theorem okB_recJ {b : List Int} (h : okB b = true) : okB (recJ b) = true := okB_drop (okB_take h _) _
theorem recJ_len {b : List Int} (h : nextJ b = 3) : (recJ b).length = nJ b := by
  have := next3 h
  unfold recJ
  rw [List.length_drop, List.length_take]
  omega
end Go.Proofs.Ytmfmoddaejoekaa.P
