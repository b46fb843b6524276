/- Texts of this claim, laid into one. -/
import Derived.Test.YtmlopbhlmgfknaaDoorHBase
import Derived.Test.YtmlopbhlmgfknaaDoorHWire
import Derived.Test.YtmlopbhlmgfknaaDoorP18
import Derived.Test.YtmlopbhlmgfknaaDoorP20
section
/- Plain facts on lists that are held against each other. -/
namespace Go.Proofs.YtmlopbhlmgfknaaDoor.P
open Go.RowKit Go.Proofs.YtmlopbhlmgfknaaDoorW.PrintWords Go.Proofs.YtmlopbhlmgfknaaDoorW.PrintLast Go.Proofs.YtmlopbhlmgfknaaDoorW.PrintMore
set_option linter.unusedVariables false
set_option linter.unusedSimpArgs false
theorem rd_nat (l : List Int) (i : Nat) (h : i < l.length) : rd l (i : Int) = l[i] := by
  simp [rd, List.getD_eq_getElem?_getD, List.getElem?_eq_getElem h]
theorem w64 {x : Int} (h0 : -9223372036854775808 ≤ x) (h1 : x ≤ 9223372036854775807) : wrap64 x = x := by unfold wrap64; omega
/-- A loop that holds two lists of one length against each other. -/
theorem same_loop (a b : List Int) (hl : a.length = b.length) (hm : a.length ≤ 9223372036854775806) (F : Nat → Int → Option Bool)
    (hF : ∀ k i, F (k + 1) i = if i < (a.length : Int) then (if 0 ≤ i then (if i < (b.length : Int) then (if rd a i = rd b i then F k (wrap64 (i + 1)) else some false) else none) else none) else some true) :
    ∀ (d k i : Nat), a.length - i = d → i ≤ a.length → d < k → F k (i : Int) = some (decide (a.drop i = b.drop i)) := by
  intro d
  induction d with
  | zero =>
    intro k i hd hi hk
    obtain ⟨k, rfl⟩ : ∃ m, k = m + 1 := ⟨k - 1, by omega⟩
    rw [hF, if_neg (by omega), List.drop_eq_nil_of_le (by omega), List.drop_eq_nil_of_le (by omega)]
    simp
  | succ d ih =>
    intro k i hd hi hk
    obtain ⟨k, rfl⟩ : ∃ m, k = m + 1 := ⟨k - 1, by omega⟩
    have h1 : i < a.length := by omega
    have h2 : i < b.length := by omega
    rw [hF, if_pos (by omega), if_pos (by omega), if_pos (by omega), rd_nat a i h1, rd_nat b i h2, List.drop_eq_getElem_cons h1, List.drop_eq_getElem_cons h2, w64 (by omega) (by omega)]
    by_cases e : a[i] = b[i]
    · rw [if_pos e]
      have := ih k (i + 1) (by omega) (by omega) (by omega)
      rw [Int.natCast_add] at this
      rw [show ((i : Int) + 1) = (i : Int) + ((1 : Nat) : Int) by simp, this]
      have e3 : (a[i] :: a.drop (i + 1) = b[i] :: b.drop (i + 1)) ↔ (a.drop (i + 1) = b.drop (i + 1)) := by
        rw [e]; exact ⟨fun h => (List.cons.inj h).2, fun h => by rw [h]⟩
      exact congrArg some (decide_eq_decide.2 e3.symm)
    · rw [if_neg e]
      exact congrArg some (decide_eq_false (fun h => e (List.cons.inj h).1)).symm

end Go.Proofs.YtmlopbhlmgfknaaDoor.P
end
section
/- The plain law of layer 3, the part that other layers use: numbers and texts as bytes. -/
namespace Go.Proofs.YtmlopbhlmgfknaaDoor.P
open Go.RowKit Go.Proofs.YtmlopbhlmgfknaaDoorW.PrintWords Go.Proofs.YtmlopbhlmgfknaaDoorW.PrintLast Go.Proofs.YtmlopbhlmgfknaaDoorW.PrintMore
set_option linter.unusedVariables false
set_option linter.unusedSimpArgs false
theorem ref01_Same (k : Nat) (a b : List Int) (hm : a.length ≤ 9223372036854775806) (hk : a.length < k) : liveryref01_Same.f k a b = some (decide (a = b)) := by
  unfold liveryref01_Same.f
  by_cases hl : a.length = b.length
  · rw [if_pos (by omega)]
    have := same_loop a b hl hm (fun k i => liveryref01_Same.l0 k a b i) (fun k i => by simp only [liveryref01_Same.l0]) a.length k 0 (by omega) (by omega) (by omega)
    simpa using this
  · rw [if_neg (by omega)]
    simp only [Option.some.injEq]
    exact (decide_eq_false (fun e => hl (by rw [e]))).symm
theorem prog_Number (l : List Int) (a : Int) (hl : l.length + 16 ≤ 140737488355328) (ha : a ≤ 9223372036854775807) : wire_Number.f l a = some (l ++ numB a) := by
  unfold wire_Number.f; rw [if_pos hl, if_pos ha]
def textB (s : ByteArray) : List Int := numB (s.size : Int) ++ bytesOf s
theorem prog_Text (l : List Int) (s : ByteArray) (hl : l.length + s.size + 100 ≤ 140737488355328) : wire_Text.f l s = some (l ++ textB s) := by
  unfold wire_Text.f
  have hb := numB_length (s.size : Int) (by omega)
  rw [prog_Number l _ (by omega) (by omega)]
  simp only [Option.bind_some]
  rw [if_pos (by simp only [List.length_append]; omega), textB, List.append_assoc]
end Go.Proofs.YtmlopbhlmgfknaaDoor.P
end
