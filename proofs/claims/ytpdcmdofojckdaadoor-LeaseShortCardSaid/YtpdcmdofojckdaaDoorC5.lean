/- Texts of this claim, laid into one. -/
import Derived.Test.YtpdcmdofojckdaaDoorWMore
import Derived.Lib.BitFns
import Derived.Laws.MathBits
import Derived.Test.YtpdcmdofojckdaaDoorProg
import Derived.Test.YtpdcmdofojckdaaDoorHShelf
import Derived.Test.YtpdcmdofojckdaaDoorNPure
import Derived.Test.YtpdcmdofojckdaaDoorP11
section
/- Small general lemmas over the words, for contracts that are typed by hand. -/
namespace Go.Proofs.YtpdcmdofojckdaaDoor.P
open Go.RowKit Go.Proofs.YtpdcmdofojckdaaDoorW.PrintWords Go.Proofs.YtpdcmdofojckdaaDoorW.PrintLast Go.Proofs.YtpdcmdofojckdaaDoorW.PrintMore
set_option linter.unusedVariables false
set_option linter.unusedSimpArgs false

def Plain (W : World) (v : Value) : Prop := ∀ ad n c, v = .slice (some ad) n c → ∃ g cs t, ad = ⟨g, 0, none⟩ ∧ W.heap[g]? = some (.cells cs t (0, 0))
end Go.Proofs.YtpdcmdofojckdaaDoor.P
end
section
/- Plain facts on lists that are held against each other. -/
namespace Go.Proofs.YtpdcmdofojckdaaDoor.P
open Go.RowKit Go.Proofs.YtpdcmdofojckdaaDoorW.PrintWords Go.Proofs.YtpdcmdofojckdaaDoorW.PrintLast Go.Proofs.YtpdcmdofojckdaaDoorW.PrintMore
set_option linter.unusedVariables false
set_option linter.unusedSimpArgs false
theorem rd_nat (l : List Int) (i : Nat) (h : i < l.length) : rd l (i : Int) = l[i] := by
  simp [rd, List.getD_eq_getElem?_getD, List.getElem?_eq_getElem h]
end Go.Proofs.YtpdcmdofojckdaaDoor.P
end
section
/- The plain law of layer 3, the part that other layers use: numbers and texts as bytes. -/
namespace Go.Proofs.YtpdcmdofojckdaaDoor.P
open Go.RowKit Go.Proofs.YtpdcmdofojckdaaDoorW.PrintWords Go.Proofs.YtpdcmdofojckdaaDoorW.PrintLast Go.Proofs.YtpdcmdofojckdaaDoorW.PrintMore
set_option linter.unusedVariables false
set_option linter.unusedSimpArgs false
end Go.Proofs.YtpdcmdofojckdaaDoor.P
end
section
/- The plain law of layer 4, second part: a domain's name, a role's text. -/
namespace Go.Proofs.YtpdcmdofojckdaaDoor.P
open Go.RowKit Go.Proofs.YtpdcmdofojckdaaDoorW.PrintWords Go.Proofs.YtpdcmdofojckdaaDoorW.PrintLast Go.Proofs.YtpdcmdofojckdaaDoorW.PrintMore
set_option linter.unusedVariables false
set_option linter.unusedSimpArgs false
def domB (n : Int) : ByteArray := if 1 ≤ n ∧ n ≤ 16 then dn n.toNat else ⟨#[]⟩
theorem names_Domain_eq (n : Int) : names_Domain.f n = some (domB n) := rfl
/-! ### a role's text, and the role of a text -/
end Go.Proofs.YtpdcmdofojckdaaDoor.P
end
section
/- The plain law of layer 5: which credentials may be, their texts and their bytes, with no program in sight. -/
namespace Go.Proofs.YtpdcmdofojckdaaDoor.P
open Go.RowKit Go.Proofs.YtpdcmdofojckdaaDoorW.PrintWords Go.Proofs.YtpdcmdofojckdaaDoorW.PrintLast Go.Proofs.YtpdcmdofojckdaaDoorW.PrintMore
set_option linter.unusedVariables false
set_option linter.unusedSimpArgs false
def eB (s : ByteArray) : Bool := decide (s.toList = [])
theorem beq_e (s : ByteArray) : (s.toList == ([] : List UInt8)) = eB s := by
  unfold eB
  rw [Bool.eq_iff_iff]
  simp
theorem e_iff (s : ByteArray) : (s.toList = ([] : List UInt8)) ↔ eB s = true := by unfold eB; simp
/-- May a credential be? -/
def credB (d q : Int) (n : ByteArray) (k : Int) (w ao an bo bn : ByteArray) : Bool :=
  decide (1 ≤ d ∧ d ≤ 16 ∧ 1 ≤ q ∧ q ≤ 4000) && mayB n &&
    (if k = 1 then mayB w && (eB ao && eB an) && (eB bo && eB bn) else if k = 2 then roleB ao an && (eB bo && eB bn) && eB w else if k = 3 then (eB ao && mayB an) && (eB bo && mayB bn) && eB w else if k = 4 then roleB ao an && roleB bo bn && eB w else false)
theorem dom_empty (d : Int) : (domB d).toList = ([] : List UInt8) ↔ ¬ (1 ≤ d ∧ d ≤ 16) := by
  unfold domB
  constructor
  · intro h hd
    rw [if_pos hd] at h
    have e : ∀ m : Fin 17, (dn m.val).toList ≠ [] := by decide +kernel
    exact e ⟨d.toNat, by omega⟩ h
  · intro h
    rw [if_neg h]
    decide +kernel
theorem cred_May_eq (k : Nat) (d q : Int) (n : ByteArray) (c : Int) (w ao an bo bn : ByteArray) (hk : 21 < k) : cred_May.f k d q n c w ao an bo bn = some (credB d q n c w ao an bo bn) := by
  obtain ⟨k, rfl⟩ : ∃ m, k = m + 1 := ⟨k - 1, by omega⟩
  have hj : ∀ b : Bool, cred_May.j0 (k + 1) b d q n c w ao an bo bn = some (!b && (if c = 1 then mayB w && (eB ao && eB an) && (eB bo && eB bn) else if c = 2 then roleB ao an && (eB bo && eB bn) && eB w else if c = 3 then (eB ao && mayB an) && (eB bo && mayB bn) && eB w else if c = 4 then roleB ao an && roleB bo bn && eB w else false)) := by
    intro b
    simp only [cred_May.j0, beq_e, e_iff, names_May.f, names_Role_eq k _ _ (show 20 < k by omega), cred_bare.f, Option.bind_some]
    cases b
    · simp only [Bool.false_eq_true, if_false, Bool.not_false, Bool.true_and]
      by_cases h1 : c = 1
      · simp only [if_pos h1]
        cases mayB w <;> cases eB ao <;> cases eB an <;> simp
      · simp only [if_neg h1]
        by_cases h2 : c = 2
        · simp only [if_pos h2]
          cases roleB ao an <;> cases eB bo <;> cases eB bn <;> simp
        · simp only [if_neg h2]
          by_cases h3 : c = 3
          · simp only [if_pos h3]
            cases eB ao <;> cases mayB an <;> cases eB bo <;> cases mayB bn <;> simp
          · simp only [if_neg h3]
            by_cases h4 : c = 4
            · simp only [if_pos h4]
              cases roleB ao an <;> cases roleB bo bn <;> simp
            · simp only [if_neg h4]
    · simp
  unfold cred_May.f
  simp only [names_Domain_eq, Option.bind_some, dom_empty, names_May.f, hj]
  unfold credB
  by_cases hd : 1 ≤ d ∧ d ≤ 16
  · simp only [hd, not_true_eq_false, and_self, if_false, true_and]
    by_cases h1 : q < 1
    · rw [if_pos h1, decide_eq_false (by omega)]; simp
    · rw [if_neg h1]
      by_cases h2 : q > 4000
      · rw [if_pos h2, decide_eq_false (by omega)]; simp
      · rw [if_neg h2, decide_eq_true (by omega)]; simp
  · rw [if_pos hd, decide_eq_false (by omega)]; simp
/-! ### a credential's text -/
end Go.Proofs.YtpdcmdofojckdaaDoor.P
end
