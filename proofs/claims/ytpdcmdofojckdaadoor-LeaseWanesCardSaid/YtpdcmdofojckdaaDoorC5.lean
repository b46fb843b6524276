/- Texts of this claim, laid into one. -/
import Derived.Test.YtpdcmdofojckdaaDoorHMay
import Derived.Test.YtpdcmdofojckdaaDoorHNumR
import Derived.Test.YtpdcmdofojckdaaDoorP10
import Derived.Test.YtpdcmdofojckdaaDoorWMore
import Derived.Lib.BitFns
import Derived.Laws.MathBits
import Derived.Test.YtpdcmdofojckdaaDoorProg
import Derived.Test.YtpdcmdofojckdaaDoorHShelf
import Derived.Test.YtpdcmdofojckdaaDoorP11
section
/- The plain law of layer 4, first part: domains and roles, with no program in sight. -/
namespace Go.Proofs.YtpdcmdofojckdaaDoor.P
open Go.RowKit Go.Proofs.YtpdcmdofojckdaaDoorW.PrintWords Go.Proofs.YtpdcmdofojckdaaDoorW.PrintLast Go.Proofs.YtpdcmdofojckdaaDoorW.PrintMore
set_option linter.unusedVariables false
set_option linter.unusedSimpArgs false
theorem bytes_inj {a b : ByteArray} (h : a.toList = b.toList) : a = b := by
  rw [ByteArray.toList_eq, ByteArray.toList_eq] at h
  exact ByteArray.ext (Array.toList_inj.1 h)
theorem toList_iff {a b : ByteArray} : a.toList = b.toList ↔ a = b := ⟨bytes_inj, fun h => by rw [h]⟩
theorem w64' {x : Int} (h0 : -9223372036854775808 ≤ x) (h1 : x ≤ 9223372036854775807) : wrap64 x = x := by unfold wrap64; omega
/-! ### the domain of a name -/
theorem numR_dn : ∀ n : Fin 17, n.val ≠ 0 → numR (dn n.val) = (n.val : Int) := by decide +kernel
theorem dn_list : ∀ n : Fin 17, n.val ≠ 0 → (dn n.val).data.toList = if n.val < 10 then [100, UInt8.ofNat (48 + n.val)] else [100, 49, UInt8.ofNat (38 + n.val)] := by decide +kernel
theorem list_size (s : ByteArray) : s.data.toList.length = s.size := rfl
theorem bt_list (s : ByteArray) (i : Nat) (h : i < s.size) : s.data.toList[i]? = some (UInt8.ofNat (bt s i).toNat) := by
  have e : s.data.toList[i]? = some (s[i]'h) := by rw [List.getElem?_eq_getElem (show i < s.data.toList.length from h)]; rfl
  rw [e]
  have := bt_at s i (by simpa using h)
  simp only [Int.toNat_natCast] at this
  rw [← this]
  simp
theorem numR_le (s : ByteArray) : 0 ≤ numR s ∧ numR s ≤ 16 := by
  have b1 := bt_range s 1
  have b2 := bt_range s 2
  unfold numR
  repeat' split
  all_goals omega
theorem numR_back (s : ByteArray) (h : numR s ≠ 0) : s = dn (numR s).toNat := by
  have hle := numR_le s
  have hd := dn_list ⟨(numR s).toNat, by omega⟩ (by show (numR s).toNat ≠ 0; omega)
  simp only at hd
  apply ByteArray.ext
  apply Array.toList_inj.1
  rw [hd]
  have b1 := bt_range s 1
  have b2 := bt_range s 2
  clear hd
  by_cases h1 : s.size < 2 ∨ 3 < s.size
  · exfalso; apply h; unfold numR; rw [if_pos h1]
  by_cases h2 : bt s 0 ≠ 100 ∨ bt s 1 < 49 ∨ 57 < bt s 1
  · exfalso; apply h; unfold numR; rw [if_neg h1, if_pos h2]
  have g0 := bt_list s 0 (by omega)
  have g1 := bt_list s 1 (by omega)
  simp only [show ((0 : Nat) : Int) = 0 from rfl, show ((1 : Nat) : Int) = 1 from rfl] at g0 g1
  by_cases h3 : s.size = 3
  · by_cases h4 : bt s 2 < 48 ∨ 57 < bt s 2
    · exfalso; apply h; unfold numR; rw [if_neg h1, if_neg h2, if_pos h3, if_pos h4]
    by_cases h5 : 16 < 10 * (bt s 1 - 48) + (bt s 2 - 48)
    · exfalso; apply h; unfold numR; rw [if_neg h1, if_neg h2, if_pos h3, if_neg h4, if_pos h5]
    have e : numR s = 10 * (bt s 1 - 48) + (bt s 2 - 48) := by unfold numR; rw [if_neg h1, if_neg h2, if_pos h3, if_neg h4, if_neg h5]
    have g2 := bt_list s 2 (by omega)
    simp only [show ((2 : Nat) : Int) = 2 from rfl] at g2
    have e49 : bt s 1 = 49 := by omega
    rw [if_neg (by omega)]
    match hm : s.data.toList, (show s.data.toList.length = 3 from h3) with
    | [x, y, z], _ =>
      rw [hm] at g0 g1 g2
      simp at g0 g1 g2
      rw [g0, g1, g2, e49, show bt s 0 = 100 by omega]
      have : (numR s).toNat + 38 = (bt s 2).toNat := by omega
      rw [Nat.add_comm] at this
      rw [this]
      rfl
  · have e : numR s = bt s 1 - 48 := by unfold numR; rw [if_neg h1, if_neg h2, if_neg h3]
    rw [if_pos (by omega)]
    match hm : s.data.toList, (show s.data.toList.length = 2 by rw [list_size]; omega) with
    | [x, y], _ =>
      rw [hm] at g0 g1
      simp at g0 g1
      rw [g0, g1, show bt s 0 = 100 by omega]
      have : 48 + (numR s).toNat = (bt s 1).toNat := by omega
      rw [this]
      rfl
theorem dn_eq_iff (n : Nat) (h0 : 1 ≤ n) (h1 : n ≤ 16) (s : ByteArray) : dn n = s ↔ numR s = (n : Int) := by
  constructor
  · rintro rfl
    exact numR_dn ⟨n, by omega⟩ (by show n ≠ 0; omega)
  · intro h
    rw [numR_back s (by omega), h, Int.toNat_natCast]
theorem names_Number_loop (s : ByteArray) : ∀ (n k i : Nat), 1 ≤ i → i + n = 17 → n < k → names_Number.l0 k s (i : Int) = some (if (i : Int) ≤ numR s then numR s else 0) := by
  have hle := numR_le s
  intro n
  induction n with
  | zero =>
    intro k i h1 hn hk
    obtain ⟨k, rfl⟩ : ∃ m, k = m + 1 := ⟨k - 1, by omega⟩
    simp only [names_Number.l0]
    rw [if_neg (by omega), if_neg (by omega)]
  | succ n ih =>
    intro k i h1 hn hk
    obtain ⟨k, rfl⟩ : ∃ m, k = m + 1 := ⟨k - 1, by omega⟩
    simp only [names_Number.l0, names_Domain.f]
    rw [if_pos (by omega), if_pos (by omega)]
    simp only [Option.bind_some, Int.toNat_natCast, toList_iff, dn_eq_iff i (by omega) (by omega)]
    rw [w64' (by omega) (by omega), show (i : Int) + 1 = ((i + 1 : Nat) : Int) by omega, ih k (i + 1) (by omega) (by omega) (by omega)]
    repeat' split
    all_goals first | rfl | (congr 1; omega) | (exfalso; omega)
theorem names_Number_eq (k : Nat) (s : ByteArray) (hk : 20 < k) : names_Number.f k s = some (numR s) := by
  have hle := numR_le s
  unfold names_Number.f
  have := names_Number_loop s 16 k 1 (by omega) (by omega) (by omega)
  rw [show ((1 : Nat) : Int) = 1 from rfl] at this
  rw [this]
  congr 1
  split <;> omega
def roleB (o n : ByteArray) : Bool := decide (0 < numR o) && mayB n
theorem names_Role_eq (k : Nat) (o n : ByteArray) (hk : 20 < k) : names_Role.f k o n = some (roleB o n) := by
  unfold names_Role.f roleB
  rw [names_Number_eq k o hk]
  simp only [Option.bind_some, names_May.f]
  split
  · rename_i h
    have : 0 < numR o := h
    simp [this]
  · rename_i h
    have : ¬ 0 < numR o := h
    simp [this]
end Go.Proofs.YtpdcmdofojckdaaDoor.P
end
section
/- Small general lemmas over the words, for contracts that are typed by hand. -/
namespace Go.Proofs.YtpdcmdofojckdaaDoor.P
open Go.RowKit Go.Proofs.YtpdcmdofojckdaaDoorW.PrintWords Go.Proofs.YtpdcmdofojckdaaDoorW.PrintLast Go.Proofs.YtpdcmdofojckdaaDoorW.PrintMore
set_option linter.unusedVariables false
set_option linter.unusedSimpArgs false

def Plain (W : World) (v : Value) : Prop := ∀ ad n c, v = .slice (some ad) n c → ∃ g cs t, ad = ⟨g, 0, none⟩ ∧ W.heap[g]? = some (.cells cs t (0, 0))
end Go.Proofs.YtpdcmdofojckdaaDoor.P
end
section
/- Plain facts on lists that are held against each other. -/
namespace Go.Proofs.YtpdcmdofojckdaaDoor.P
open Go.RowKit Go.Proofs.YtpdcmdofojckdaaDoorW.PrintWords Go.Proofs.YtpdcmdofojckdaaDoorW.PrintLast Go.Proofs.YtpdcmdofojckdaaDoorW.PrintMore
set_option linter.unusedVariables false
set_option linter.unusedSimpArgs false
theorem rd_nat (l : List Int) (i : Nat) (h : i < l.length) : rd l (i : Int) = l[i] := by
  simp [rd, List.getD_eq_getElem?_getD, List.getElem?_eq_getElem h]
end Go.Proofs.YtpdcmdofojckdaaDoor.P
end
section
/- The plain law of layer 3, the part that other layers use: numbers and texts as bytes. -/
namespace Go.Proofs.YtpdcmdofojckdaaDoor.P
open Go.RowKit Go.Proofs.YtpdcmdofojckdaaDoorW.PrintWords Go.Proofs.YtpdcmdofojckdaaDoorW.PrintLast Go.Proofs.YtpdcmdofojckdaaDoorW.PrintMore
set_option linter.unusedVariables false
set_option linter.unusedSimpArgs false
end Go.Proofs.YtpdcmdofojckdaaDoor.P
end
section
/- The plain law of layer 4, second part: a domain's name, a role's text. -/
namespace Go.Proofs.YtpdcmdofojckdaaDoor.P
open Go.RowKit Go.Proofs.YtpdcmdofojckdaaDoorW.PrintWords Go.Proofs.YtpdcmdofojckdaaDoorW.PrintLast Go.Proofs.YtpdcmdofojckdaaDoorW.PrintMore
set_option linter.unusedVariables false
set_option linter.unusedSimpArgs false
def domB (n : Int) : ByteArray := if 1 ≤ n ∧ n ≤ 16 then dn n.toNat else ⟨#[]⟩
theorem names_Domain_eq (n : Int) : names_Domain.f n = some (domB n) := rfl
/-! ### a role's text, and the role of a text -/
end Go.Proofs.YtpdcmdofojckdaaDoor.P
end
section
/- The plain law of layer 5: which credentials may be, their texts and their bytes, with no program in sight. -/
namespace Go.Proofs.YtpdcmdofojckdaaDoor.P
open Go.RowKit Go.Proofs.YtpdcmdofojckdaaDoorW.PrintWords Go.Proofs.YtpdcmdofojckdaaDoorW.PrintLast Go.Proofs.YtpdcmdofojckdaaDoorW.PrintMore
set_option linter.unusedVariables false
set_option linter.unusedSimpArgs false
def eB (s : ByteArray) : Bool := decide (s.toList = [])
theorem beq_e (s : ByteArray) : (s.toList == ([] : List UInt8)) = eB s := by
  unfold eB
  rw [Bool.eq_iff_iff]
  simp
theorem e_iff (s : ByteArray) : (s.toList = ([] : List UInt8)) ↔ eB s = true := by unfold eB; simp
/-- May a credential be? -/
def credB (d q : Int) (n : ByteArray) (k : Int) (w ao an bo bn : ByteArray) : Bool :=
  decide (1 ≤ d ∧ d ≤ 16 ∧ 1 ≤ q ∧ q ≤ 4000) && mayB n &&
    (if k = 1 then mayB w && (eB ao && eB an) && (eB bo && eB bn) else if k = 2 then roleB ao an && (eB bo && eB bn) && eB w else if k = 3 then (eB ao && mayB an) && (eB bo && mayB bn) && eB w else if k = 4 then roleB ao an && roleB bo bn && eB w else false)
theorem dom_empty (d : Int) : (domB d).toList = ([] : List UInt8) ↔ ¬ (1 ≤ d ∧ d ≤ 16) := by
  unfold domB
  constructor
  · intro h hd
    rw [if_pos hd] at h
    have e : ∀ m : Fin 17, (dn m.val).toList ≠ [] := by decide +kernel
    exact e ⟨d.toNat, by omega⟩ h
  · intro h
    rw [if_neg h]
    decide +kernel
theorem cred_May_eq (k : Nat) (d q : Int) (n : ByteArray) (c : Int) (w ao an bo bn : ByteArray) (hk : 21 < k) : cred_May.f k d q n c w ao an bo bn = some (credB d q n c w ao an bo bn) := by
  obtain ⟨k, rfl⟩ : ∃ m, k = m + 1 := ⟨k - 1, by omega⟩
  have hj : ∀ b : Bool, cred_May.j0 (k + 1) b d q n c w ao an bo bn = some (!b && (if c = 1 then mayB w && (eB ao && eB an) && (eB bo && eB bn) else if c = 2 then roleB ao an && (eB bo && eB bn) && eB w else if c = 3 then (eB ao && mayB an) && (eB bo && mayB bn) && eB w else if c = 4 then roleB ao an && roleB bo bn && eB w else false)) := by
    intro b
    simp only [cred_May.j0, beq_e, e_iff, names_May.f, names_Role_eq k _ _ (show 20 < k by omega), cred_bare.f, Option.bind_some]
    cases b
    · simp only [Bool.false_eq_true, if_false, Bool.not_false, Bool.true_and]
      by_cases h1 : c = 1
      · simp only [if_pos h1]
        cases mayB w <;> cases eB ao <;> cases eB an <;> simp
      · simp only [if_neg h1]
        by_cases h2 : c = 2
        · simp only [if_pos h2]
          cases roleB ao an <;> cases eB bo <;> cases eB bn <;> simp
        · simp only [if_neg h2]
          by_cases h3 : c = 3
          · simp only [if_pos h3]
            cases eB ao <;> cases mayB an <;> cases eB bo <;> cases mayB bn <;> simp
          · simp only [if_neg h3]
            by_cases h4 : c = 4
            · simp only [if_pos h4]
              cases roleB ao an <;> cases roleB bo bn <;> simp
            · simp only [if_neg h4]
    · simp
  unfold cred_May.f
  simp only [names_Domain_eq, Option.bind_some, dom_empty, names_May.f, hj]
  unfold credB
  by_cases hd : 1 ≤ d ∧ d ≤ 16
  · simp only [hd, not_true_eq_false, and_self, if_false, true_and]
    by_cases h1 : q < 1
    · rw [if_pos h1, decide_eq_false (by omega)]; simp
    · rw [if_neg h1]
      by_cases h2 : q > 4000
      · rw [if_pos h2, decide_eq_false (by omega)]; simp
      · rw [if_neg h2, decide_eq_true (by omega)]; simp
  · rw [if_pos hd, decide_eq_false (by omega)]; simp
/-! ### a credential's text -/
end Go.Proofs.YtpdcmdofojckdaaDoor.P
end
