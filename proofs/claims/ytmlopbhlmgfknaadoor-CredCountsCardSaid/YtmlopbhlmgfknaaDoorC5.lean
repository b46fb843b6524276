/- The plain law of layer 5: which credentials may be, their texts and their bytes, with no program in sight. -/
import Derived.Test.YtmlopbhlmgfknaaDoorNText
import Derived.Test.YtmlopbhlmgfknaaDoorWPut
import Derived.Test.YtmlopbhlmgfknaaDoorP12
import Derived.Test.YtmlopbhlmgfknaaDoorP19
import Derived.Test.YtmlopbhlmgfknaaDoorP10
import Derived.Test.YtmlopbhlmgfknaaDoorP7
import Derived.Test.YtmlopbhlmgfknaaDoorP21
namespace Go.Proofs.YtmlopbhlmgfknaaDoor.P
open Go.RowKit Go.Proofs.YtmlopbhlmgfknaaDoorW.PrintWords Go.Proofs.YtmlopbhlmgfknaaDoorW.PrintLast Go.Proofs.YtmlopbhlmgfknaaDoorW.PrintMore
set_option linter.unusedVariables false
set_option linter.unusedSimpArgs false
def eB (s : ByteArray) : Bool := decide (s.toList = [])
theorem beq_e (s : ByteArray) : (s.toList == ([] : List UInt8)) = eB s := by
  unfold eB
  rw [Bool.eq_iff_iff]
  simp
theorem e_iff (s : ByteArray) : (s.toList = ([] : List UInt8)) ↔ eB s = true := by unfold eB; simp
theorem eB_iff (s : ByteArray) : eB s = true ↔ s = ⟨#[]⟩ := by
  unfold eB
  rw [decide_eq_true_eq]
  constructor
  · intro h
    apply bytes_inj
    rw [h]
    decide +kernel
  · rintro rfl
    decide +kernel
/-- May a credential be? -/
def credB (d q : Int) (n : ByteArray) (k : Int) (w ao an bo bn : ByteArray) : Bool :=
  decide (1 ≤ d ∧ d ≤ 16 ∧ 1 ≤ q ∧ q ≤ 4000) && mayB n &&
    (if k = 1 then mayB w && (eB ao && eB an) && (eB bo && eB bn) else if k = 2 then roleB ao an && (eB bo && eB bn) && eB w else if k = 3 then (eB ao && mayB an) && (eB bo && mayB bn) && eB w else if k = 4 then roleB ao an && roleB bo bn && eB w else false)
theorem dom_empty (d : Int) : (domB d).toList = ([] : List UInt8) ↔ ¬ (1 ≤ d ∧ d ≤ 16) := by
  unfold domB
  constructor
  · intro h hd
    rw [if_pos hd] at h
    have e : ∀ m : Fin 17, (dn m.val).toList ≠ [] := by decide +kernel
    exact e ⟨d.toNat, by omega⟩ h
  · intro h
    rw [if_neg h]
    decide +kernel
theorem cred_May_eq (k : Nat) (d q : Int) (n : ByteArray) (c : Int) (w ao an bo bn : ByteArray) (hk : 21 < k) : cred_May.f k d q n c w ao an bo bn = some (credB d q n c w ao an bo bn) := by
  obtain ⟨k, rfl⟩ : ∃ m, k = m + 1 := ⟨k - 1, by omega⟩
  have hj : ∀ b : Bool, cred_May.j0 (k + 1) b d q n c w ao an bo bn = some (!b && (if c = 1 then mayB w && (eB ao && eB an) && (eB bo && eB bn) else if c = 2 then roleB ao an && (eB bo && eB bn) && eB w else if c = 3 then (eB ao && mayB an) && (eB bo && mayB bn) && eB w else if c = 4 then roleB ao an && roleB bo bn && eB w else false)) := by
    intro b
    simp only [cred_May.j0, beq_e, e_iff, names_May.f, names_Role_eq k _ _ (show 20 < k by omega), cred_bare.f, Option.bind_some]
    cases b
    · simp only [Bool.false_eq_true, if_false, Bool.not_false, Bool.true_and]
      by_cases h1 : c = 1
      · simp only [if_pos h1]
        cases mayB w <;> cases eB ao <;> cases eB an <;> simp
      · simp only [if_neg h1]
        by_cases h2 : c = 2
        · simp only [if_pos h2]
          cases roleB ao an <;> cases eB bo <;> cases eB bn <;> simp
        · simp only [if_neg h2]
          by_cases h3 : c = 3
          · simp only [if_pos h3]
            cases eB ao <;> cases mayB an <;> cases eB bo <;> cases mayB bn <;> simp
          · simp only [if_neg h3]
            by_cases h4 : c = 4
            · simp only [if_pos h4]
              cases roleB ao an <;> cases roleB bo bn <;> simp
            · simp only [if_neg h4]
    · simp
  unfold cred_May.f
  simp only [names_Domain_eq, Option.bind_some, dom_empty, names_May.f, hj]
  unfold credB
  by_cases hd : 1 ≤ d ∧ d ≤ 16
  · simp only [hd, not_true_eq_false, and_self, if_false, true_and]
    by_cases h1 : q < 1
    · rw [if_pos h1, decide_eq_false (by omega)]; simp
    · rw [if_neg h1]
      by_cases h2 : q > 4000
      · rw [if_pos h2, decide_eq_false (by omega)]; simp
      · rw [if_neg h2, decide_eq_true (by omega)]; simp
  · rw [if_pos hd, decide_eq_false (by omega)]; simp
/-! ### a credential's text -/
theorem may_size {s : ByteArray} (h : mayB s = true) : s.size ≤ 8 := by
  unfold mayB at h
  simp only [Bool.and_eq_true, decide_eq_true_eq] at h
  exact h.2
theorem dn_size : ∀ n : Fin 17, (dn n.val).size ≤ 3 := by decide +kernel
theorem dom_size (d : Int) : (domB d).size ≤ 3 := by
  unfold domB
  split
  · exact dn_size ⟨d.toNat, by omega⟩
  · decide
theorem role_size {o n : ByteArray} (h : roleB o n = true) : o.size ≤ 3 ∧ n.size ≤ 8 := by
  unfold roleB at h
  simp only [Bool.and_eq_true, decide_eq_true_eq] at h
  have hle := numR_le o
  refine ⟨?_, may_size h.2⟩
  rw [numR_back o (by omega)]
  exact dn_size ⟨(numR o).toNat, by omega⟩
theorem e_size {s : ByteArray} (h : eB s = true) : s.size ≤ 8 := by
  rw [eB_iff] at h
  subst h
  decide
/-- What may be is small. -/
theorem cred_small {d q : Int} {n : ByteArray} {c : Int} {w ao an bo bn : ByteArray} (h : credB d q n c w ao an bo bn = true) :
    (1 ≤ d ∧ d ≤ 16 ∧ 1 ≤ q ∧ q ≤ 4000) ∧ (1 ≤ c ∧ c ≤ 4) ∧ n.size ≤ 8 ∧ w.size ≤ 8 ∧ ao.size ≤ 8 ∧ an.size ≤ 8 ∧ bo.size ≤ 8 ∧ bn.size ≤ 8 := by
  unfold credB at h
  simp only [Bool.and_eq_true, decide_eq_true_eq] at h
  obtain ⟨⟨hd, hn⟩, hk⟩ := h
  refine ⟨hd, ?_⟩
  have hn' := may_size hn
  by_cases h1 : c = 1
  · rw [if_pos h1] at hk
    simp only [Bool.and_eq_true] at hk
    obtain ⟨⟨h2, h3, h4⟩, h5, h6⟩ := hk
    exact ⟨by omega, hn', may_size h2, e_size h3, e_size h4, e_size h5, e_size h6⟩
  rw [if_neg h1] at hk
  by_cases h2 : c = 2
  · rw [if_pos h2] at hk
    simp only [Bool.and_eq_true] at hk
    obtain ⟨⟨h3, h4, h5⟩, h6⟩ := hk
    have := role_size h3
    exact ⟨by omega, hn', e_size h6, by omega, by omega, e_size h4, e_size h5⟩
  rw [if_neg h2] at hk
  by_cases h3 : c = 3
  · rw [if_pos h3] at hk
    simp only [Bool.and_eq_true] at hk
    obtain ⟨⟨⟨h4, h5⟩, h6, h7⟩, h8⟩ := hk
    exact ⟨by omega, hn', e_size h8, e_size h4, may_size h5, e_size h6, may_size h7⟩
  rw [if_neg h3] at hk
  by_cases h4 : c = 4
  · rw [if_pos h4] at hk
    simp only [Bool.and_eq_true] at hk
    obtain ⟨⟨h5, h6⟩, h7⟩ := hk
    have := role_size h5
    have := role_size h6
    exact ⟨by omega, hn', e_size h7, by omega, by omega, by omega, by omega⟩
  · rw [if_neg h4] at hk
    cases hk
def arrow : ByteArray := ⟨#[32, 60, 45, 32]⟩
def amp : ByteArray := ⟨#[32, 38, 32]⟩
def tailT (d : Int) (c : Int) (w ao an bo bn : ByteArray) : ByteArray :=
  if c = 1 then w else if c = 3 then ((((domB d) ++ (⟨#[46]⟩ : ByteArray)) ++ an) ++ (⟨#[46]⟩ : ByteArray)) ++ bn else if c = 4 then (textR ao an ++ amp) ++ textR bo bn else textR ao an
def textC (d q : Int) (n : ByteArray) (c : Int) (w ao an bo bn : ByteArray) : ByteArray × Int :=
  if credB d q n c w ao an bo bn = true then ((textR (domB d) n ++ arrow) ++ tailT d c w ao an bo bn, 0) else (⟨#[]⟩, 11)
theorem asz1 : (⟨#[46]⟩ : ByteArray).size = 1 := rfl
theorem asz3 : (⟨#[32, 38, 32]⟩ : ByteArray).size = 3 := rfl
theorem asz4 : (⟨#[32, 60, 45, 32]⟩ : ByteArray).size = 4 := rfl
theorem appA (a b c : ByteArray) : a ++ b ++ c = a ++ (b ++ c) := ByteArray.append_assoc
theorem cred_Text_eq (k : Nat) (d q : Int) (n : ByteArray) (c : Int) (w ao an bo bn : ByteArray) (hk : 21 < k) : cred_Text.f k d q n c w ao an bo bn = some (textC d q n c w ao an bo bn) := by
  unfold cred_Text.f textC
  rw [cred_May_eq k d q n c w ao an bo bn hk]
  simp only [Option.bind_some]
  by_cases h : credB d q n c w ao an bo bn = true
  · obtain ⟨hd, hc, h1, h2, h3, h4, h5, h6⟩ := cred_small h
    have hds := dom_size d
    rw [if_pos h, if_pos h]
    simp only [cred_Role.f, names_Domain_eq, Option.bind_some]
    rw [names_Text_eq _ _ (by omega), names_Text_eq ao an (by omega), names_Text_eq bo bn (by omega)]
    simp only [Option.bind_some, bsize_append, textR_size, asz1, asz3, asz4]
    rw [if_pos (by omega)]
    unfold tailT
    by_cases k1 : c = 1
    · rw [if_pos k1, if_pos (by omega), if_pos k1]; rfl
    rw [if_neg k1, if_neg k1]
    by_cases k3 : c = 3
    · rw [if_pos k3, if_pos (by omega), if_pos (by omega), if_pos (by omega), if_pos (by omega), if_pos (by omega), if_pos k3]; rfl
    rw [if_neg k3, if_neg k3]
    by_cases k4 : c = 4
    · rw [if_pos k4, if_pos (by omega), if_pos (by omega), if_pos (by omega), if_pos k4]
      simp only [appA]; rfl
    rw [if_neg k4, if_neg k4, if_pos (by omega), if_pos (by omega)]
    rfl
  · rw [if_neg h, if_neg h]
/-! ### a credential's bytes -/
def roleP (o n : ByteArray) : List Int := numB (numR o) ++ textB n
def bodyP (c : Int) (w ao an bo bn : ByteArray) : List Int :=
  if c = 1 then textB w else if c = 2 then roleP ao an else if c = 3 then textB an ++ textB bn else roleP ao an ++ roleP bo bn
def putC (d q : Int) (n : ByteArray) (c : Int) (w ao an bo bn : ByteArray) : List Int :=
  numB d ++ (numB q ++ (textB n ++ (numB c ++ bodyP c w ao an bo bn)))
theorem textB_len (s : ByteArray) (h : s.size ≤ 8) : (textB s).length ≤ 17 := by
  unfold textB
  have := numB_length (s.size : Int) (by omega)
  rw [List.length_append, bytesOf_length]
  omega
theorem cred_role_eq (k : Nat) (l : List Int) (o n : ByteArray) (hl : l.length + n.size + 200 ≤ 140737488355328) (hk : 20 < k) : cred_role.f k l o n = some (l ++ roleP o n) := by
  have hle := numR_le o
  have hb := numB_length (numR o) (by omega)
  unfold cred_role.f
  rw [names_Number_eq k o hk]
  simp only [Option.bind_some]
  rw [prog_Number l _ (by omega) (by omega)]
  simp only [Option.bind_some]
  rw [prog_Text _ n (by rw [List.length_append]; omega)]
  simp only [Option.bind_some, roleP, List.append_assoc]
def putR (l : List Int) (d q : Int) (n : ByteArray) (c : Int) (w ao an bo bn : ByteArray) : List Int × Int :=
  if credB d q n c w ao an bo bn = true then (l ++ putC d q n c w ao an bo bn, 0) else ([], 11)
theorem cred_Put_eq (k : Nat) (l : List Int) (d q : Int) (n : ByteArray) (c : Int) (w ao an bo bn : ByteArray) (hl : l.length ≤ 1000000) (hk : 21 < k) : cred_Put.f k l d q n c w ao an bo bn = some (putR l d q n c w ao an bo bn) := by
  unfold cred_Put.f putR
  rw [cred_May_eq k d q n c w ao an bo bn hk]
  simp only [Option.bind_some]
  by_cases h : credB d q n c w ao an bo bn = true
  · obtain ⟨hd, hc, h1, h2, h3, h4, h5, h6⟩ := cred_small h
    have b1 := numB_length d (by omega)
    have b2 := numB_length q (by omega)
    have b3 := textB_len n h1
    have b4 := numB_length c (by omega)
    have b5 := textB_len w h2
    have b6 := textB_len an h4
    have b7 := textB_len bn h6
    have g1 := numR_le ao
    have g2 := numR_le bo
    have b8 := numB_length (numR ao) (by omega)
    have b9 := numB_length (numR bo) (by omega)
    have b10 : (roleP ao an).length ≤ 26 := by unfold roleP; rw [List.length_append]; omega
    rw [if_pos h, if_pos h, prog_Number l d (by omega) (by omega)]
    simp only [Option.bind_some]
    rw [prog_Number _ q (by simp only [List.length_append]; omega) (by omega)]
    simp only [Option.bind_some]
    rw [prog_Text _ n (by simp only [List.length_append]; omega)]
    simp only [Option.bind_some]
    rw [prog_Number _ c (by simp only [List.length_append]; omega) (by omega)]
    simp only [Option.bind_some]
    unfold putC bodyP
    by_cases k1 : c = 1
    · rw [if_pos k1, if_pos k1, prog_Text _ w (by simp only [List.length_append]; omega)]
      simp only [Option.bind_some, List.append_assoc]
    rw [if_neg k1, if_neg k1]
    by_cases k2 : c = 2
    · rw [if_pos k2, if_pos k2, cred_role_eq k _ ao an (by simp only [List.length_append]; omega) (by omega)]
      simp only [Option.bind_some, List.append_assoc]
    rw [if_neg k2, if_neg k2]
    by_cases k3 : c = 3
    · rw [if_pos k3, if_pos k3, prog_Text _ an (by simp only [List.length_append]; omega)]
      simp only [Option.bind_some]
      rw [prog_Text _ bn (by simp only [List.length_append]; omega)]
      simp only [Option.bind_some, List.append_assoc]
    rw [if_neg k3, if_neg k3, cred_role_eq k _ ao an (by simp only [List.length_append]; omega) (by omega)]
    simp only [Option.bind_some]
    rw [cred_role_eq k _ bo bn (by simp only [List.length_append]; omega) (by omega)]
    simp only [Option.bind_some, List.append_assoc]
  · rw [if_neg h, if_neg h]
theorem cred_Role_eq (d q : Int) (n : ByteArray) (c : Int) (w ao an bo bn : ByteArray) : cred_Role.f d q n c w ao an bo bn = some (domB d, n) := by
  unfold cred_Role.f
  rw [names_Domain_eq]
  rfl
theorem lives05 (k : Nat) (hk : 25 < k) : liverylaw05_lives.f k = some true := by
  unfold liverylaw05_lives.f
  rw [cred_Text_eq k _ _ _ _ _ _ _ _ _ (by omega), cred_Text_eq k _ _ _ _ _ _ _ _ _ (by omega), cred_Put_eq k [] _ _ _ _ _ _ _ _ _ (by decide) (by omega), cred_Role_eq]
  simp only [Option.bind_some]
  have e1 : textC 1 3 ⟨#[97]⟩ 1 ⟨#[97, 110, 110]⟩ ⟨#[]⟩ ⟨#[]⟩ ⟨#[]⟩ ⟨#[]⟩ = (⟨#[100, 49, 46, 97, 32, 60, 45, 32, 97, 110, 110]⟩, 0) := by decide +kernel
  have e2 : textC 1 3 ⟨#[114]⟩ 3 ⟨#[]⟩ ⟨#[]⟩ ⟨#[97]⟩ ⟨#[]⟩ ⟨#[98]⟩ = (⟨#[100, 49, 46, 114, 32, 60, 45, 32, 100, 49, 46, 97, 46, 98]⟩, 0) := by decide +kernel
  have e3 : putR [] 1 3 ⟨#[97]⟩ 1 ⟨#[97, 110, 110]⟩ ⟨#[]⟩ ⟨#[]⟩ ⟨#[]⟩ ⟨#[]⟩ = ([1, 1, 1, 3, 1, 1, 97, 1, 1, 1, 3, 97, 110, 110], 0) := by decide +kernel
  rw [e1, e2, e3, ref01_Same k _ _ (by decide) (by show 14 < k; omega)]
  have e4 : (domB 1).toList = [100, 49] := by decide +kernel
  have e5 : (⟨#[97]⟩ : ByteArray).toList = [97] := by decide +kernel
  have e6 : (⟨#[100, 49, 46, 97, 32, 60, 45, 32, 97, 110, 110]⟩ : ByteArray).toList = [100, 49, 46, 97, 32, 60, 45, 32, 97, 110, 110] := by decide +kernel
  have e7 : (⟨#[100, 49, 46, 114, 32, 60, 45, 32, 100, 49, 46, 97, 46, 98]⟩ : ByteArray).toList = [100, 49, 46, 114, 32, 60, 45, 32, 100, 49, 46, 97, 46, 98] := by decide +kernel
  simp only [e4, e5, e6, e7, Option.bind_some]
  decide
end Go.Proofs.YtmlopbhlmgfknaaDoor.P
