/- Texts of this claim, laid into one. -/
import Derived.Test.YtpdcmdofojckdaaDoorNPure
import Derived.Test.YtpdcmdofojckdaaDoorP18
import Derived.Test.YtpdcmdofojckdaaDoorP16
import Derived.Test.YtpdcmdofojckdaaDoorC5
import Derived.Test.YtpdcmdofojckdaaDoorP19
section
/- The plain law of layer 4: names and roles, by the document. -/
namespace Go.Proofs.YtpdcmdofojckdaaDoor.P
open Go.RowKit Go.Proofs.YtpdcmdofojckdaaDoorW.PrintWords Go.Proofs.YtpdcmdofojckdaaDoorW.PrintLast Go.Proofs.YtpdcmdofojckdaaDoorW.PrintMore
set_option linter.unusedVariables false
set_option linter.unusedSimpArgs false
/-! ### which texts are names -/
theorem ref04_May_loop (s : ByteArray) (hs : s.size ≤ 8) : ∀ (n k : Nat) (i : Nat), 1 ≤ i → i ≤ s.size → s.size - i = n → n < k →
    liveryref04_May.l0 k s (i : Int) = some ((List.range s.size).all (fun j => decide (j < i) || okAt (bt s j) j)) := by
  intro n
  induction n with
  | zero =>
    intro k i h1 hi hn hk
    obtain ⟨k, rfl⟩ : ∃ m, k = m + 1 := ⟨k - 1, by omega⟩
    simp only [liveryref04_May.l0]
    rw [if_neg (by omega)]
    congr 1
    symm
    rw [List.all_eq_true]
    intro j hj
    have := List.mem_range.1 hj
    simp
    left; omega
  | succ n ih =>
    intro k i h1 hi hn hk
    obtain ⟨k, rfl⟩ : ∃ m, k = m + 1 := ⟨k - 1, by omega⟩
    have hlt : i < s.size := by omega
    have hw : wrap64 ((i : Int) + 1) = ((i + 1 : Nat) : Int) := by rw [w64' (by omega) (by omega)]; omega
    have hgo := ih k (i + 1) (by omega) (by omega) (by omega) (by omega)
    have hyes : okAt (bt s i) i = true → (List.range s.size).all (fun j => decide (j < i + 1) || okAt (bt s j) j) = (List.range s.size).all (fun j => decide (j < i) || okAt (bt s j) j) := by
      intro ho
      rw [Bool.eq_iff_iff, List.all_eq_true, List.all_eq_true]
      constructor
      · intro h j hj
        have := h j hj
        by_cases e : j = i
        · subst e; simp [ho]
        · simp at this ⊢
          rcases this with h | h
          · left; omega
          · right; exact h
      · intro h j hj
        have := h j hj
        simp at this ⊢
        rcases this with h | h
        · left; omega
        · right; exact h
    have hno : okAt (bt s i) i = false → (List.range s.size).all (fun j => decide (j < i) || okAt (bt s j) j) = false := by
      intro ho
      rw [List.all_eq_false]
      exact ⟨i, List.mem_range.2 hlt, by simp [ho]⟩
    simp only [liveryref04_May.l0]
    rw [if_pos (by omega), if_pos (by omega)]
    rw [hw, hgo]
    have hr := bt_range s i
    have hi0 : i ≠ 0 := by omega
    by_cases h : okAt (bt s i) i = true
    · rw [hyes h]
      unfold okAt at h
      have h := of_decide_eq_true h
      repeat' split
      all_goals first | rfl | (exfalso; omega)
    · have h := Bool.eq_false_iff.2 h
      rw [hno h]
      unfold okAt at h
      have h := of_decide_eq_false h
      repeat' split
      all_goals first | rfl | (exfalso; omega)
theorem ref04_May (k : Nat) (s : ByteArray) (hk : 12 < k) : liveryref04_May.f k s = some (mayB s) := by
  obtain ⟨k, rfl⟩ : ∃ m, k = m + 1 := ⟨k - 1, by omega⟩
  unfold liveryref04_May.f
  simp only [liveryref04_May.j0]
  by_cases h0 : s.size = 0
  · rw [if_pos (by omega), if_pos trivial]
    simp [mayB, h0]
  rw [if_neg (by omega)]
  by_cases h8 : 8 < s.size
  · rw [if_pos (by omega), if_pos trivial]
    simp [mayB, h0]
    omega
  rw [if_neg (by omega), if_pos (by omega)]
  have hr := bt_range s 0
  by_cases hl : bt s 0 < 97
  · rw [if_pos hl, if_pos trivial]
    rw [mayB_no (s := s) (i := 0) (by omega) (by show okAt (bt s 0) 0 = false; unfold okAt; exact decide_eq_false (by omega))]
  rw [if_neg hl]
  by_cases hh : 122 < bt s 0
  · rw [if_pos (by simpa using hh)]
    rw [mayB_no (s := s) (i := 0) (by omega) (by show okAt (bt s 0) 0 = false; unfold okAt; exact decide_eq_false (by omega))]
  rw [if_neg (by simpa using hh)]
  have := ref04_May_loop s (by omega) (s.size - 1) k 1 (by omega) (by omega) rfl (by omega)
  rw [show ((1 : Nat) : Int) = 1 from rfl] at this
  rw [this]
  have e : (List.range s.size).all (fun j => decide (j < 1) || okAt (bt s j) j) = (List.range s.size).all (fun j => okAt (bt s j) j) := by
    rw [Bool.eq_iff_iff, List.all_eq_true, List.all_eq_true]
    constructor
    · intro h j hj
      have := h j hj
      simp at this
      rcases this with h | h
      · subst h; show okAt (bt s 0) 0 = true; unfold okAt; exact decide_eq_true (by omega)
      · exact h
    · intro h j hj
      have := h j hj
      simp [this]
  rw [e]
  unfold mayB
  simp [h0]
  omega
theorem ref04_Role_eq (k : Nat) (o n : ByteArray) (hk : 20 < k) : liveryref04_Role.f k o n = some (roleB o n) := by
  have hle := numR_le o
  unfold liveryref04_Role.f roleB
  rw [ref04_May k n (by omega)]
  simp only [Option.bind_some, liveryref04_Number.f]
  by_cases h : mayB n = true
  · rw [if_pos h, h, Bool.and_true]
    congr 1
    rw [Bool.eq_iff_iff]
    simp
    omega
  · rw [if_neg h]
    simp [Bool.eq_false_iff.2 h]
end Go.Proofs.YtpdcmdofojckdaaDoor.P
end
section
/- The plain law of layer 5: which credentials may be, by the document. -/
namespace Go.Proofs.YtpdcmdofojckdaaDoor.P
open Go.RowKit Go.Proofs.YtpdcmdofojckdaaDoorW.PrintWords Go.Proofs.YtpdcmdofojckdaaDoorW.PrintLast Go.Proofs.YtpdcmdofojckdaaDoorW.PrintMore
set_option linter.unusedVariables false
set_option linter.unusedSimpArgs false
theorem ref05_bare_eq (k : Nat) (o n : ByteArray) (hk : 12 < k) : liveryref05_bare.f k o n = some (eB o && mayB n) := by
  unfold liveryref05_bare.f
  rw [ref04_May k n hk]
  simp only [Option.bind_some, beq_e]
  cases mayB n <;> simp
theorem ref05_May_eq (k : Nat) (d q : Int) (n : ByteArray) (c : Int) (w ao an bo bn : ByteArray) (hk : 21 < k) : liveryref05_May.f k d q n c w ao an bo bn = some (credB d q n c w ao an bo bn) := by
  obtain ⟨k, rfl⟩ : ∃ m, k = m + 1 := ⟨k - 1, by omega⟩
  have hj : ∀ b : Bool, liveryref05_May.j0 (k + 1) (mayB w) (roleB ao an) (roleB bo bn) b d q n c w ao an bo bn = some (!b && (if c = 1 then mayB w && (eB ao && eB an) && (eB bo && eB bn) else if c = 2 then roleB ao an && (eB bo && eB bn) && eB w else if c = 3 then (eB ao && mayB an) && (eB bo && mayB bn) && eB w else if c = 4 then roleB ao an && roleB bo bn && eB w else false)) := by
    intro b
    simp only [liveryref05_May.j0, beq_e, e_iff, ref05_bare_eq k _ _ (show 12 < k by omega), Option.bind_some]
    cases b
    · simp only [Bool.false_eq_true, if_false, Bool.not_false, Bool.true_and]
      by_cases h1 : c = 1
      · simp only [if_pos h1]
        cases mayB w <;> cases eB ao <;> cases eB an <;> simp
      · simp only [if_neg h1]
        by_cases h2 : c = 2
        · simp only [if_pos h2]
          cases roleB ao an <;> cases eB w <;> cases eB bo <;> cases eB bn <;> simp
        · simp only [if_neg h2]
          by_cases h3 : c = 3
          · simp only [if_pos h3]
            cases eB w <;> cases eB ao <;> cases mayB an <;> cases eB bo <;> cases mayB bn <;> simp
          · simp only [if_neg h3]
            by_cases h4 : c = 4
            · simp only [if_pos h4]
              cases eB w <;> cases roleB ao an <;> cases roleB bo bn <;> simp
            · simp only [if_neg h4]
              cases eB w <;> simp
    · simp
  unfold liveryref05_May.f
  rw [ref04_May (k + 1) n (by omega), ref04_May (k + 1) w (by omega), ref04_Role_eq (k + 1) ao an (by omega), ref04_Role_eq (k + 1) bo bn (by omega)]
  simp only [Option.bind_some, hj]
  unfold credB
  by_cases h0 : d < 1
  · rw [if_pos h0, decide_eq_false (by omega)]; simp
  rw [if_neg h0]
  by_cases h1 : d > 16
  · rw [if_pos h1, decide_eq_false (by omega)]; simp
  rw [if_neg h1]
  by_cases h2 : q < 1
  · rw [if_pos h2, decide_eq_false (by omega)]; simp
  rw [if_neg h2]
  by_cases h3 : q > 4000
  · rw [if_pos h3, decide_eq_false (by omega)]; simp
  rw [if_neg h3, decide_eq_true (by omega)]
  simp
end Go.Proofs.YtpdcmdofojckdaaDoor.P
end
