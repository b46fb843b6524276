/- Written by a program of this session's, for this claim: the functions that the law reaches, their contracts, the law's row. Not trusted: it is checked as any text. -/
import Derived.Test.YtmlopbhlmgfknaaDoorP0
import Derived.Test.YtmlopbhlmgfknaaDoorP7
import Derived.Test.YtmlopbhlmgfknaaDoorP10
import Derived.Test.YtmlopbhlmgfknaaDoorNText
import Derived.Test.YtmlopbhlmgfknaaDoorHNames
namespace Go.Proofs.YtmlopbhlmgfknaaDoor.P
open Go.RowKit Go.Proofs.YtmlopbhlmgfknaaDoorW.PrintWords Go.Proofs.YtmlopbhlmgfknaaDoorW.PrintLast Go.Proofs.YtmlopbhlmgfknaaDoorW.PrintMore
attribute [local go_sem] max2_int min2_int max_two min_two max_three min_three max_four min_four   -- for this text's walks alone
set_option linter.unusedVariables false
set_option linter.unusedSimpArgs false

/-! ### cred_Text: function 17 -/
def cred_Text.f (k : Nat) (a0_0 : Int) (a0_1 : Int) (a0_2 : ByteArray) (a0_3 : Int) (a0_4 : ByteArray) (a0_5 : ByteArray) (a0_6 : ByteArray) (a0_7 : ByteArray) (a0_8 : ByteArray) : Option (ByteArray × Int) := (cred_May.f k a0_0 a0_1 a0_2 a0_3 a0_4 a0_5 a0_6 a0_7 a0_8).bind fun t133 => (if t133 = true then ((cred_Role.f a0_0 a0_1 a0_2 a0_3 a0_4 a0_5 a0_6 a0_7 a0_8).bind fun bt134 => ((names_Text.f bt134.1 bt134.2).bind fun t136 => (if t136.size + 4 ≤ 9223372036854775807 then (if a0_3 = 1 then (if (t136 ++ (⟨#[32, 60, 45, 32]⟩ : ByteArray)).size + a0_4.size ≤ 9223372036854775807 then (some ((t136 ++ (⟨#[32, 60, 45, 32]⟩ : ByteArray)) ++ a0_4, 0)) else (none)) else (if a0_3 = 3 then ((names_Domain.f a0_0).bind fun t137 => (if t137.size + 1 ≤ 9223372036854775807 then (if (t137 ++ (⟨#[46]⟩ : ByteArray)).size + a0_6.size ≤ 9223372036854775807 then (if ((t137 ++ (⟨#[46]⟩ : ByteArray)) ++ a0_6).size + 1 ≤ 9223372036854775807 then (if (((t137 ++ (⟨#[46]⟩ : ByteArray)) ++ a0_6) ++ (⟨#[46]⟩ : ByteArray)).size + a0_8.size ≤ 9223372036854775807 then (if (t136 ++ (⟨#[32, 60, 45, 32]⟩ : ByteArray)).size + ((((t137 ++ (⟨#[46]⟩ : ByteArray)) ++ a0_6) ++ (⟨#[46]⟩ : ByteArray)) ++ a0_8).size ≤ 9223372036854775807 then (some ((t136 ++ (⟨#[32, 60, 45, 32]⟩ : ByteArray)) ++ ((((t137 ++ (⟨#[46]⟩ : ByteArray)) ++ a0_6) ++ (⟨#[46]⟩ : ByteArray)) ++ a0_8), 0)) else (none)) else (none)) else (none)) else (none)) else (none))) else (if a0_3 = 4 then ((names_Text.f a0_5 a0_6).bind fun t138 => (if t138.size + 3 ≤ 9223372036854775807 then (if (t136 ++ (⟨#[32, 60, 45, 32]⟩ : ByteArray)).size + (t138 ++ (⟨#[32, 38, 32]⟩ : ByteArray)).size ≤ 9223372036854775807 then ((names_Text.f a0_7 a0_8).bind fun t139 => (if ((t136 ++ (⟨#[32, 60, 45, 32]⟩ : ByteArray)) ++ (t138 ++ (⟨#[32, 38, 32]⟩ : ByteArray))).size + t139.size ≤ 9223372036854775807 then (some (((t136 ++ (⟨#[32, 60, 45, 32]⟩ : ByteArray)) ++ (t138 ++ (⟨#[32, 38, 32]⟩ : ByteArray))) ++ t139, 0)) else (none))) else (none)) else (none))) else (if a0_3 = 2 then ((names_Text.f a0_5 a0_6).bind fun t140 => (if (t136 ++ (⟨#[32, 60, 45, 32]⟩ : ByteArray)).size + t140.size ≤ 9223372036854775807 then (some ((t136 ++ (⟨#[32, 60, 45, 32]⟩ : ByteArray)) ++ t140, 0)) else (none))) else (some (t136 ++ (⟨#[32, 60, 45, 32]⟩ : ByteArray), 0)))))) else (none)))) else (some ((⟨#[]⟩ : ByteArray), 11)))
def cred_Text.T10 : Bool × List (List Nat × List Nat) := (true, [([], []), ([], []), ([1], [1]), ([2], [2]), ([3], [3]), ([4], [4]), ([], []), ([6], [6]), ([7], [7]), ([5, 8], [5, 8]), ([9], [9]), ([], []), ([11], [11]), ([12], [12]), ([10, 13], [10, 13]), ([0, 14], [0, 14]), ([15, 4, 0, 1, 2, 3, 4, 5, 6, 7, 8, 9, 10, 11, 12, 13, 14, 15], [0, 15])])
def cred_Text.B10 : List Nat := [0, 0, 2, 6, 14, 30, 0, 64, 192, 510, 1022, 0, 2048, 6144, 16382, 32767, 65535]
theorem cred_Text.tab10 : rtab .any (opsOf Tryd.f17 10) = cred_Text.T10 := by kernel_rfl
theorem cred_Text.bits10 : waitsOk cred_Text.T10.2 cred_Text.B10 = true := by kernel_rfl
set_option maxHeartbeats 8000000 in
set_option maxRecDepth 100000 in
theorem cred_Text.calls (k : Nat) (a0_0 : Int) (a0_1 : Int) (a0_2 : ByteArray) (a0_3 : Int) (a0_4 : ByteArray) (a0_5 : ByteArray) (a0_6 : ByteArray) (a0_7 : ByteArray) (a0_8 : ByteArray) (r1 : ByteArray) (r2 : Int) (w : World) (h : cred_Text.f k a0_0 a0_1 a0_2 a0_3 a0_4 a0_5 a0_6 a0_7 a0_8 = some (r1, r2)) :
    Calls Tryd.prog 17 #[.agg #[.int .i64 a0_0, .int .i64 a0_1, .string a0_2, .int .i64 a0_3, .string a0_4, .string a0_5, .string a0_6, .string a0_7, .string a0_8]] w fun e w' => e = .returned (.tuple #[.string r1, .int .i64 r2]) ∧ Below w.heap.size w w' := by
  have hu30 := Tryd.underlying30
  have hu28 := Tryd.underlying28
  have HB := Aside0.mk (Below.refl w.heap.size w)
  have H : ((cred_May.f k a0_0 a0_1 a0_2 a0_3 a0_4 a0_5 a0_6 a0_7 a0_8).bind fun t133 => (if t133 = true then ((cred_Role.f a0_0 a0_1 a0_2 a0_3 a0_4 a0_5 a0_6 a0_7 a0_8).bind fun bt134 => ((names_Text.f bt134.1 bt134.2).bind fun t136 => (if t136.size + 4 ≤ 9223372036854775807 then (if a0_3 = 1 then (if (t136 ++ (⟨#[32, 60, 45, 32]⟩ : ByteArray)).size + a0_4.size ≤ 9223372036854775807 then (some ((t136 ++ (⟨#[32, 60, 45, 32]⟩ : ByteArray)) ++ a0_4, 0)) else (none)) else (if a0_3 = 3 then ((names_Domain.f a0_0).bind fun t137 => (if t137.size + 1 ≤ 9223372036854775807 then (if (t137 ++ (⟨#[46]⟩ : ByteArray)).size + a0_6.size ≤ 9223372036854775807 then (if ((t137 ++ (⟨#[46]⟩ : ByteArray)) ++ a0_6).size + 1 ≤ 9223372036854775807 then (if (((t137 ++ (⟨#[46]⟩ : ByteArray)) ++ a0_6) ++ (⟨#[46]⟩ : ByteArray)).size + a0_8.size ≤ 9223372036854775807 then (if (t136 ++ (⟨#[32, 60, 45, 32]⟩ : ByteArray)).size + ((((t137 ++ (⟨#[46]⟩ : ByteArray)) ++ a0_6) ++ (⟨#[46]⟩ : ByteArray)) ++ a0_8).size ≤ 9223372036854775807 then (some ((t136 ++ (⟨#[32, 60, 45, 32]⟩ : ByteArray)) ++ ((((t137 ++ (⟨#[46]⟩ : ByteArray)) ++ a0_6) ++ (⟨#[46]⟩ : ByteArray)) ++ a0_8), 0)) else (none)) else (none)) else (none)) else (none)) else (none))) else (if a0_3 = 4 then ((names_Text.f a0_5 a0_6).bind fun t138 => (if t138.size + 3 ≤ 9223372036854775807 then (if (t136 ++ (⟨#[32, 60, 45, 32]⟩ : ByteArray)).size + (t138 ++ (⟨#[32, 38, 32]⟩ : ByteArray)).size ≤ 9223372036854775807 then ((names_Text.f a0_7 a0_8).bind fun t139 => (if ((t136 ++ (⟨#[32, 60, 45, 32]⟩ : ByteArray)) ++ (t138 ++ (⟨#[32, 38, 32]⟩ : ByteArray))).size + t139.size ≤ 9223372036854775807 then (some (((t136 ++ (⟨#[32, 60, 45, 32]⟩ : ByteArray)) ++ (t138 ++ (⟨#[32, 38, 32]⟩ : ByteArray))) ++ t139, 0)) else (none))) else (none)) else (none))) else (if a0_3 = 2 then ((names_Text.f a0_5 a0_6).bind fun t140 => (if (t136 ++ (⟨#[32, 60, 45, 32]⟩ : ByteArray)).size + t140.size ≤ 9223372036854775807 then (some ((t136 ++ (⟨#[32, 60, 45, 32]⟩ : ByteArray)) ++ t140, 0)) else (none))) else (some (t136 ++ (⟨#[32, 60, 45, 32]⟩ : ByteArray), 0)))))) else (none)))) else (some ((⟨#[]⟩ : ByteArray), 11)))) = some (r1, r2) := h
  clear h
  replace H := Option.bind_eq_some_iff.mp H
  obtain ⟨t133, A20, H⟩ := H
  replace H : (if t133 = true then ((cred_Role.f a0_0 a0_1 a0_2 a0_3 a0_4 a0_5 a0_6 a0_7 a0_8).bind fun bt134 => ((names_Text.f bt134.1 bt134.2).bind fun t136 => (if t136.size + 4 ≤ 9223372036854775807 then (if a0_3 = 1 then (if (t136 ++ (⟨#[32, 60, 45, 32]⟩ : ByteArray)).size + a0_4.size ≤ 9223372036854775807 then (some ((t136 ++ (⟨#[32, 60, 45, 32]⟩ : ByteArray)) ++ a0_4, 0)) else (none)) else (if a0_3 = 3 then ((names_Domain.f a0_0).bind fun t137 => (if t137.size + 1 ≤ 9223372036854775807 then (if (t137 ++ (⟨#[46]⟩ : ByteArray)).size + a0_6.size ≤ 9223372036854775807 then (if ((t137 ++ (⟨#[46]⟩ : ByteArray)) ++ a0_6).size + 1 ≤ 9223372036854775807 then (if (((t137 ++ (⟨#[46]⟩ : ByteArray)) ++ a0_6) ++ (⟨#[46]⟩ : ByteArray)).size + a0_8.size ≤ 9223372036854775807 then (if (t136 ++ (⟨#[32, 60, 45, 32]⟩ : ByteArray)).size + ((((t137 ++ (⟨#[46]⟩ : ByteArray)) ++ a0_6) ++ (⟨#[46]⟩ : ByteArray)) ++ a0_8).size ≤ 9223372036854775807 then (some ((t136 ++ (⟨#[32, 60, 45, 32]⟩ : ByteArray)) ++ ((((t137 ++ (⟨#[46]⟩ : ByteArray)) ++ a0_6) ++ (⟨#[46]⟩ : ByteArray)) ++ a0_8), 0)) else (none)) else (none)) else (none)) else (none)) else (none))) else (if a0_3 = 4 then ((names_Text.f a0_5 a0_6).bind fun t138 => (if t138.size + 3 ≤ 9223372036854775807 then (if (t136 ++ (⟨#[32, 60, 45, 32]⟩ : ByteArray)).size + (t138 ++ (⟨#[32, 38, 32]⟩ : ByteArray)).size ≤ 9223372036854775807 then ((names_Text.f a0_7 a0_8).bind fun t139 => (if ((t136 ++ (⟨#[32, 60, 45, 32]⟩ : ByteArray)) ++ (t138 ++ (⟨#[32, 38, 32]⟩ : ByteArray))).size + t139.size ≤ 9223372036854775807 then (some (((t136 ++ (⟨#[32, 60, 45, 32]⟩ : ByteArray)) ++ (t138 ++ (⟨#[32, 38, 32]⟩ : ByteArray))) ++ t139, 0)) else (none))) else (none)) else (none))) else (if a0_3 = 2 then ((names_Text.f a0_5 a0_6).bind fun t140 => (if (t136 ++ (⟨#[32, 60, 45, 32]⟩ : ByteArray)).size + t140.size ≤ 9223372036854775807 then (some ((t136 ++ (⟨#[32, 60, 45, 32]⟩ : ByteArray)) ++ t140, 0)) else (none))) else (some (t136 ++ (⟨#[32, 60, 45, 32]⟩ : ByteArray), 0)))))) else (none)))) else (some ((⟨#[]⟩ : ByteArray), 11))) = some (r1, r2) := H
  have A2 := Aside0.mk A20
  clear A20
  by_cases c3 : t133 = true
  · subst c3
    have H1 : ((cred_Role.f a0_0 a0_1 a0_2 a0_3 a0_4 a0_5 a0_6 a0_7 a0_8).bind fun bt134 => ((names_Text.f bt134.1 bt134.2).bind fun t136 => (if t136.size + 4 ≤ 9223372036854775807 then (if a0_3 = 1 then (if (t136 ++ (⟨#[32, 60, 45, 32]⟩ : ByteArray)).size + a0_4.size ≤ 9223372036854775807 then (some ((t136 ++ (⟨#[32, 60, 45, 32]⟩ : ByteArray)) ++ a0_4, 0)) else (none)) else (if a0_3 = 3 then ((names_Domain.f a0_0).bind fun t137 => (if t137.size + 1 ≤ 9223372036854775807 then (if (t137 ++ (⟨#[46]⟩ : ByteArray)).size + a0_6.size ≤ 9223372036854775807 then (if ((t137 ++ (⟨#[46]⟩ : ByteArray)) ++ a0_6).size + 1 ≤ 9223372036854775807 then (if (((t137 ++ (⟨#[46]⟩ : ByteArray)) ++ a0_6) ++ (⟨#[46]⟩ : ByteArray)).size + a0_8.size ≤ 9223372036854775807 then (if (t136 ++ (⟨#[32, 60, 45, 32]⟩ : ByteArray)).size + ((((t137 ++ (⟨#[46]⟩ : ByteArray)) ++ a0_6) ++ (⟨#[46]⟩ : ByteArray)) ++ a0_8).size ≤ 9223372036854775807 then (some ((t136 ++ (⟨#[32, 60, 45, 32]⟩ : ByteArray)) ++ ((((t137 ++ (⟨#[46]⟩ : ByteArray)) ++ a0_6) ++ (⟨#[46]⟩ : ByteArray)) ++ a0_8), 0)) else (none)) else (none)) else (none)) else (none)) else (none))) else (if a0_3 = 4 then ((names_Text.f a0_5 a0_6).bind fun t138 => (if t138.size + 3 ≤ 9223372036854775807 then (if (t136 ++ (⟨#[32, 60, 45, 32]⟩ : ByteArray)).size + (t138 ++ (⟨#[32, 38, 32]⟩ : ByteArray)).size ≤ 9223372036854775807 then ((names_Text.f a0_7 a0_8).bind fun t139 => (if ((t136 ++ (⟨#[32, 60, 45, 32]⟩ : ByteArray)) ++ (t138 ++ (⟨#[32, 38, 32]⟩ : ByteArray))).size + t139.size ≤ 9223372036854775807 then (some (((t136 ++ (⟨#[32, 60, 45, 32]⟩ : ByteArray)) ++ (t138 ++ (⟨#[32, 38, 32]⟩ : ByteArray))) ++ t139, 0)) else (none))) else (none)) else (none))) else (if a0_3 = 2 then ((names_Text.f a0_5 a0_6).bind fun t140 => (if (t136 ++ (⟨#[32, 60, 45, 32]⟩ : ByteArray)).size + t140.size ≤ 9223372036854775807 then (some ((t136 ++ (⟨#[32, 60, 45, 32]⟩ : ByteArray)) ++ t140, 0)) else (none))) else (some (t136 ++ (⟨#[32, 60, 45, 32]⟩ : ByteArray), 0)))))) else (none)))) = some (r1, r2) := by rw [if_pos rfl] at H; exact H
    clear H
    have H := H1
    clear H1
    replace H := Option.bind_eq_some_iff.mp H
    obtain ⟨⟨t134, t135⟩, A40, H⟩ := H
    replace H : ((names_Text.f t134 t135).bind fun t136 => (if t136.size + 4 ≤ 9223372036854775807 then (if a0_3 = 1 then (if (t136 ++ (⟨#[32, 60, 45, 32]⟩ : ByteArray)).size + a0_4.size ≤ 9223372036854775807 then (some ((t136 ++ (⟨#[32, 60, 45, 32]⟩ : ByteArray)) ++ a0_4, 0)) else (none)) else (if a0_3 = 3 then ((names_Domain.f a0_0).bind fun t137 => (if t137.size + 1 ≤ 9223372036854775807 then (if (t137 ++ (⟨#[46]⟩ : ByteArray)).size + a0_6.size ≤ 9223372036854775807 then (if ((t137 ++ (⟨#[46]⟩ : ByteArray)) ++ a0_6).size + 1 ≤ 9223372036854775807 then (if (((t137 ++ (⟨#[46]⟩ : ByteArray)) ++ a0_6) ++ (⟨#[46]⟩ : ByteArray)).size + a0_8.size ≤ 9223372036854775807 then (if (t136 ++ (⟨#[32, 60, 45, 32]⟩ : ByteArray)).size + ((((t137 ++ (⟨#[46]⟩ : ByteArray)) ++ a0_6) ++ (⟨#[46]⟩ : ByteArray)) ++ a0_8).size ≤ 9223372036854775807 then (some ((t136 ++ (⟨#[32, 60, 45, 32]⟩ : ByteArray)) ++ ((((t137 ++ (⟨#[46]⟩ : ByteArray)) ++ a0_6) ++ (⟨#[46]⟩ : ByteArray)) ++ a0_8), 0)) else (none)) else (none)) else (none)) else (none)) else (none))) else (if a0_3 = 4 then ((names_Text.f a0_5 a0_6).bind fun t138 => (if t138.size + 3 ≤ 9223372036854775807 then (if (t136 ++ (⟨#[32, 60, 45, 32]⟩ : ByteArray)).size + (t138 ++ (⟨#[32, 38, 32]⟩ : ByteArray)).size ≤ 9223372036854775807 then ((names_Text.f a0_7 a0_8).bind fun t139 => (if ((t136 ++ (⟨#[32, 60, 45, 32]⟩ : ByteArray)) ++ (t138 ++ (⟨#[32, 38, 32]⟩ : ByteArray))).size + t139.size ≤ 9223372036854775807 then (some (((t136 ++ (⟨#[32, 60, 45, 32]⟩ : ByteArray)) ++ (t138 ++ (⟨#[32, 38, 32]⟩ : ByteArray))) ++ t139, 0)) else (none))) else (none)) else (none))) else (if a0_3 = 2 then ((names_Text.f a0_5 a0_6).bind fun t140 => (if (t136 ++ (⟨#[32, 60, 45, 32]⟩ : ByteArray)).size + t140.size ≤ 9223372036854775807 then (some ((t136 ++ (⟨#[32, 60, 45, 32]⟩ : ByteArray)) ++ t140, 0)) else (none))) else (some (t136 ++ (⟨#[32, 60, 45, 32]⟩ : ByteArray), 0)))))) else (none))) = some (r1, r2) := H
    have A4 := Aside0.mk A40
    clear A40
    replace H := Option.bind_eq_some_iff.mp H
    obtain ⟨t136, A50, H⟩ := H
    replace H : (if t136.size + 4 ≤ 9223372036854775807 then (if a0_3 = 1 then (if (t136 ++ (⟨#[32, 60, 45, 32]⟩ : ByteArray)).size + a0_4.size ≤ 9223372036854775807 then (some ((t136 ++ (⟨#[32, 60, 45, 32]⟩ : ByteArray)) ++ a0_4, 0)) else (none)) else (if a0_3 = 3 then ((names_Domain.f a0_0).bind fun t137 => (if t137.size + 1 ≤ 9223372036854775807 then (if (t137 ++ (⟨#[46]⟩ : ByteArray)).size + a0_6.size ≤ 9223372036854775807 then (if ((t137 ++ (⟨#[46]⟩ : ByteArray)) ++ a0_6).size + 1 ≤ 9223372036854775807 then (if (((t137 ++ (⟨#[46]⟩ : ByteArray)) ++ a0_6) ++ (⟨#[46]⟩ : ByteArray)).size + a0_8.size ≤ 9223372036854775807 then (if (t136 ++ (⟨#[32, 60, 45, 32]⟩ : ByteArray)).size + ((((t137 ++ (⟨#[46]⟩ : ByteArray)) ++ a0_6) ++ (⟨#[46]⟩ : ByteArray)) ++ a0_8).size ≤ 9223372036854775807 then (some ((t136 ++ (⟨#[32, 60, 45, 32]⟩ : ByteArray)) ++ ((((t137 ++ (⟨#[46]⟩ : ByteArray)) ++ a0_6) ++ (⟨#[46]⟩ : ByteArray)) ++ a0_8), 0)) else (none)) else (none)) else (none)) else (none)) else (none))) else (if a0_3 = 4 then ((names_Text.f a0_5 a0_6).bind fun t138 => (if t138.size + 3 ≤ 9223372036854775807 then (if (t136 ++ (⟨#[32, 60, 45, 32]⟩ : ByteArray)).size + (t138 ++ (⟨#[32, 38, 32]⟩ : ByteArray)).size ≤ 9223372036854775807 then ((names_Text.f a0_7 a0_8).bind fun t139 => (if ((t136 ++ (⟨#[32, 60, 45, 32]⟩ : ByteArray)) ++ (t138 ++ (⟨#[32, 38, 32]⟩ : ByteArray))).size + t139.size ≤ 9223372036854775807 then (some (((t136 ++ (⟨#[32, 60, 45, 32]⟩ : ByteArray)) ++ (t138 ++ (⟨#[32, 38, 32]⟩ : ByteArray))) ++ t139, 0)) else (none))) else (none)) else (none))) else (if a0_3 = 2 then ((names_Text.f a0_5 a0_6).bind fun t140 => (if (t136 ++ (⟨#[32, 60, 45, 32]⟩ : ByteArray)).size + t140.size ≤ 9223372036854775807 then (some ((t136 ++ (⟨#[32, 60, 45, 32]⟩ : ByteArray)) ++ t140, 0)) else (none))) else (some (t136 ++ (⟨#[32, 60, 45, 32]⟩ : ByteArray), 0)))))) else (none)) = some (r1, r2) := H
    have A5 := Aside0.mk A50
    clear A50
    by_cases c6 : t136.size + 4 ≤ 9223372036854775807
    · rw [if_pos c6] at H
      have c6b0 := eq_true c6
      have c6b1 : decide (t136.size + 4 ≤ 9223372036854775807) = true := decide_eq_true c6
      try have c6b2 : (9223372036854775807 < t136.size + 4) = False := eq_false (Nat.not_lt.2 c6)
      by_cases c7 : a0_3 = 1
      · rw [if_pos c7] at H
        have c7b0 : (a0_3 == 1) = true := beq_iff_eq.mpr c7
        have c7b1 : (a0_3 != 1) = false := bne_eq_false_iff_eq.mpr c7
        clear c7
        by_cases c8 : (t136 ++ (⟨#[32, 60, 45, 32]⟩ : ByteArray)).size + a0_4.size ≤ 9223372036854775807
        · rw [if_pos c8] at H
          have c8b0 := eq_true c8
          have c8b1 : decide ((t136 ++ (⟨#[32, 60, 45, 32]⟩ : ByteArray)).size + a0_4.size ≤ 9223372036854775807) = true := decide_eq_true c8
          try have c8b2 : (9223372036854775807 < (t136 ++ (⟨#[32, 60, 45, 32]⟩ : ByteArray)).size + a0_4.size) = False := eq_false (Nat.not_lt.2 c8)
          try (have c8b3 := c8; simp only [ByteArray.size_append, show (⟨#[32, 60, 45, 32]⟩ : ByteArray).size = 4 from rfl] at c8b3; have c8b4 := eq_false (Nat.not_lt.2 c8b3))
          simp only [Option.some.injEq, Prod.mk.injEq] at H
          obtain ⟨rfl, rfl⟩ := H
          go_enter Tryd.func17, Tryd.ntmps17
          go_wp2_with (first | ((with_reducible refine gate_dst (N := 1) rfl ?_); refine box_event ?hg (N := 1) ?hd (cs := #[.int .i64 a0_0, .int .i64 a0_1, .string a0_2, .int .i64 a0_3, .string a0_4, .string a0_5, .string a0_6, .string a0_7, .string a0_8]) (t := 30) ?hr ?_; (case hd => rfl); (case hg => rfl); (case hr => first | (go_simp; done) | (go_simp; rfl)); intro gb132 hg w9 hbox hb; have n0_ := aM (below_step (by repeat (first | (with_reducible first | exact HB.out | apply below_alloc | apply pw_below_drewN | apply below_drew1) | exact HB.out)) hb); have n1_ := aM (hbox); have n2_ := aM ((by rw [hg]; exact (below_size (by repeat (first | (with_reducible first | exact HB.out | apply below_alloc | apply pw_below_drewN | apply below_drew1) | exact HB.out))) : w.heap.size ≤ gb132)); have n3_ := n2_; clear HB; have HB := n0_; have BK132 := n1_; have GW132 := n2_; have GE132 := n3_; clear n0_ n1_ n2_ n3_; clear hb hbox hg; obtain ⟨hcz10_0, hcz10_1, hcz10_2, hcz10_3, hcz10_4, hcz10_5, hcz10_6, hcz10_7, hcz10_8, hfz10_0, hfz10_1, hfz10_2, hfz10_3, hfz10_4, hfz10_5, hfz10_6, hfz10_7, hfz10_8⟩ := blk_all9 BK132.out) | ((with_reducible refine gate_callee (f := 21) rfl ?_); refine goesL_ (some 6) rfl rfl Tryd.func21 (by kernel_rfl) rfl #[.agg #[.int .i64 a0_0, .int .i64 a0_1, .string a0_2, .int .i64 a0_3, .string a0_4, .string a0_5, .string a0_6, .string a0_7, .string a0_8]] rfl (by (try simp only [mA, mB, mC]); first | done | rfl | (simp only [List.length_drop, List.length_take]; rfl)) ?_; (with_reducible refine (cred_May.calls k a0_0 a0_1 a0_2 a0_3 a0_4 a0_5 a0_6 a0_7 a0_8 true _ A2.out).mono ?_); rintro e w11 ⟨rfl, hb⟩; refine ⟨_, rfl, ?_⟩; have n0_ := aM (blk_below (g := gb132) (o := .cells #[.int .i64 a0_0, .int .i64 a0_1, .string a0_2, .int .i64 a0_3, .string a0_4, .string a0_5, .string a0_6, .string a0_7, .string a0_8] 30 (0, 0)) (by (with_reducible repeat (first | refine bN ?_ _ | refine bD ?_ | refine bA ?_ _)); exact BK132.out) hb); have n1_ := aM (below_step (by repeat (first | (with_reducible first | exact HB.out | apply below_alloc | apply pw_below_drewN | apply below_drew1 | refine below_set ?_ GE132.out) | exact HB.out)) hb); clear BK132 HB; have BK132 := n0_; have HB := n1_; clear n0_ n1_; (try clear hb); (try clear hb2); (try clear hk); (try clear hi); obtain ⟨hcz12_0, hcz12_1, hcz12_2, hcz12_3, hcz12_4, hcz12_5, hcz12_6, hcz12_7, hcz12_8, hfz12_0, hfz12_1, hfz12_2, hfz12_3, hfz12_4, hfz12_5, hfz12_6, hfz12_7, hfz12_8⟩ := blk_all9 BK132.out) | ((with_reducible refine gate_callee (f := 20) rfl ?_); refine goesL_ (some 9) rfl rfl Tryd.func20 (by kernel_rfl) rfl #[.agg #[.int .i64 a0_0, .int .i64 a0_1, .string a0_2, .int .i64 a0_3, .string a0_4, .string a0_5, .string a0_6, .string a0_7, .string a0_8]] rfl (by (try simp only [mA, mB, mC]); first | done | rfl | (simp only [List.length_drop, List.length_take]; rfl)) ?_; (with_reducible refine (cred_Role.calls a0_0 a0_1 a0_2 a0_3 a0_4 a0_5 a0_6 a0_7 a0_8 t134 t135 _ A4.out).mono ?_); rintro e w13 ⟨rfl, hb⟩; refine ⟨_, rfl, ?_⟩; have n0_ := aM (blk_below (g := gb132) (o := .cells #[.int .i64 a0_0, .int .i64 a0_1, .string a0_2, .int .i64 a0_3, .string a0_4, .string a0_5, .string a0_6, .string a0_7, .string a0_8] 30 (0, 0)) (by (with_reducible repeat (first | refine bN ?_ _ | refine bD ?_ | refine bA ?_ _)); exact BK132.out) hb); have n1_ := aM (below_step (by repeat (first | (with_reducible first | exact HB.out | apply below_alloc | apply pw_below_drewN | apply below_drew1 | refine below_set ?_ GE132.out) | exact HB.out)) hb); clear BK132 HB; have BK132 := n0_; have HB := n1_; clear n0_ n1_; (try clear hb); (try clear hb2); (try clear hk); (try clear hi)) | ((with_reducible refine gate_callee (f := 25) rfl ?_); refine goesL_ (some 10) rfl rfl Tryd.func25 (by kernel_rfl) rfl #[.agg #[.string t134, .string t135]] rfl (by (try simp only [mA, mB, mC]); first | done | rfl | (simp only [List.length_drop, List.length_take]; rfl)) ?_; (with_reducible refine (names_Text.calls t134 t135 t136 _ A5.out).mono ?_); rintro e w14 ⟨rfl, hb⟩; refine ⟨_, rfl, ?_⟩; have n0_ := aM (blk_below (g := gb132) (o := .cells #[.int .i64 a0_0, .int .i64 a0_1, .string a0_2, .int .i64 a0_3, .string a0_4, .string a0_5, .string a0_6, .string a0_7, .string a0_8] 30 (0, 0)) (by (with_reducible repeat (first | refine bN ?_ _ | refine bD ?_ | refine bA ?_ _)); exact BK132.out) hb); have n1_ := aM (below_step (by repeat (first | (with_reducible first | exact HB.out | apply below_alloc | apply pw_below_drewN | apply below_drew1 | refine below_set ?_ GE132.out) | exact HB.out)) hb); clear BK132 HB; have BK132 := n0_; have HB := n1_; clear n0_ n1_; (try clear hb); (try clear hb2); (try clear hk); (try clear hi); obtain ⟨hcz15_0, hcz15_1, hcz15_2, hcz15_3, hcz15_4, hcz15_5, hcz15_6, hcz15_7, hcz15_8, hfz15_0, hfz15_1, hfz15_2, hfz15_3, hfz15_4, hfz15_5, hfz15_6, hfz15_7, hfz15_8⟩ := blk_all9 BK132.out))
          go_ret2
          exact ⟨by first | rfl | (simp [errW_none, errW_some] <;> rfl) | (simp [*, errW_none, errW_some] <;> rfl), by repeat (first | (with_reducible first | exact HB.out | apply below_alloc | apply pw_below_drewN | apply below_drew1 | refine below_set ?_ GE132.out) | exact HB.out)⟩
        · rw [if_neg c8] at H
          exact absurd H (by simp)
      · rw [if_neg c7] at H
        have c7b0 : (a0_3 == 1) = false := beq_eq_false_iff_ne.mpr c7
        have c7b1 : (a0_3 != 1) = true := bne_iff_ne.mpr c7
        by_cases c16 : a0_3 = 3
        · rw [if_pos c16] at H
          have c16b0 : (a0_3 == 3) = true := beq_iff_eq.mpr c16
          have c16b1 : (a0_3 != 3) = false := bne_eq_false_iff_eq.mpr c16
          clear c16
          replace H := Option.bind_eq_some_iff.mp H
          obtain ⟨t137, A170, H⟩ := H
          replace H : (if t137.size + 1 ≤ 9223372036854775807 then (if (t137 ++ (⟨#[46]⟩ : ByteArray)).size + a0_6.size ≤ 9223372036854775807 then (if ((t137 ++ (⟨#[46]⟩ : ByteArray)) ++ a0_6).size + 1 ≤ 9223372036854775807 then (if (((t137 ++ (⟨#[46]⟩ : ByteArray)) ++ a0_6) ++ (⟨#[46]⟩ : ByteArray)).size + a0_8.size ≤ 9223372036854775807 then (if (t136 ++ (⟨#[32, 60, 45, 32]⟩ : ByteArray)).size + ((((t137 ++ (⟨#[46]⟩ : ByteArray)) ++ a0_6) ++ (⟨#[46]⟩ : ByteArray)) ++ a0_8).size ≤ 9223372036854775807 then (some ((t136 ++ (⟨#[32, 60, 45, 32]⟩ : ByteArray)) ++ ((((t137 ++ (⟨#[46]⟩ : ByteArray)) ++ a0_6) ++ (⟨#[46]⟩ : ByteArray)) ++ a0_8), 0)) else (none)) else (none)) else (none)) else (none)) else (none)) = some (r1, r2) := H
          have A17 := Aside0.mk A170
          clear A170
          by_cases c18 : t137.size + 1 ≤ 9223372036854775807
          · rw [if_pos c18] at H
            have c18b0 := eq_true c18
            have c18b1 : decide (t137.size + 1 ≤ 9223372036854775807) = true := decide_eq_true c18
            try have c18b2 : (9223372036854775807 < t137.size + 1) = False := eq_false (Nat.not_lt.2 c18)
            by_cases c19 : (t137 ++ (⟨#[46]⟩ : ByteArray)).size + a0_6.size ≤ 9223372036854775807
            · rw [if_pos c19] at H
              have c19b0 := eq_true c19
              have c19b1 : decide ((t137 ++ (⟨#[46]⟩ : ByteArray)).size + a0_6.size ≤ 9223372036854775807) = true := decide_eq_true c19
              try have c19b2 : (9223372036854775807 < (t137 ++ (⟨#[46]⟩ : ByteArray)).size + a0_6.size) = False := eq_false (Nat.not_lt.2 c19)
              try (have c19b3 := c19; simp only [ByteArray.size_append, show (⟨#[46]⟩ : ByteArray).size = 1 from rfl] at c19b3; have c19b4 := eq_false (Nat.not_lt.2 c19b3))
              by_cases c20 : ((t137 ++ (⟨#[46]⟩ : ByteArray)) ++ a0_6).size + 1 ≤ 9223372036854775807
              · rw [if_pos c20] at H
                have c20b0 := eq_true c20
                have c20b1 : decide (((t137 ++ (⟨#[46]⟩ : ByteArray)) ++ a0_6).size + 1 ≤ 9223372036854775807) = true := decide_eq_true c20
                try have c20b2 : (9223372036854775807 < ((t137 ++ (⟨#[46]⟩ : ByteArray)) ++ a0_6).size + 1) = False := eq_false (Nat.not_lt.2 c20)
                try (have c20b3 := c20; simp only [ByteArray.size_append, show (⟨#[46]⟩ : ByteArray).size = 1 from rfl] at c20b3; have c20b4 := eq_false (Nat.not_lt.2 c20b3))
                by_cases c21 : (((t137 ++ (⟨#[46]⟩ : ByteArray)) ++ a0_6) ++ (⟨#[46]⟩ : ByteArray)).size + a0_8.size ≤ 9223372036854775807
                · rw [if_pos c21] at H
                  have c21b0 := eq_true c21
                  have c21b1 : decide ((((t137 ++ (⟨#[46]⟩ : ByteArray)) ++ a0_6) ++ (⟨#[46]⟩ : ByteArray)).size + a0_8.size ≤ 9223372036854775807) = true := decide_eq_true c21
                  try have c21b2 : (9223372036854775807 < (((t137 ++ (⟨#[46]⟩ : ByteArray)) ++ a0_6) ++ (⟨#[46]⟩ : ByteArray)).size + a0_8.size) = False := eq_false (Nat.not_lt.2 c21)
                  try (have c21b3 := c21; simp only [ByteArray.size_append, show (⟨#[46]⟩ : ByteArray).size = 1 from rfl] at c21b3; have c21b4 := eq_false (Nat.not_lt.2 c21b3))
                  by_cases c22 : (t136 ++ (⟨#[32, 60, 45, 32]⟩ : ByteArray)).size + ((((t137 ++ (⟨#[46]⟩ : ByteArray)) ++ a0_6) ++ (⟨#[46]⟩ : ByteArray)) ++ a0_8).size ≤ 9223372036854775807
                  · rw [if_pos c22] at H
                    have c22b0 := eq_true c22
                    have c22b1 : decide ((t136 ++ (⟨#[32, 60, 45, 32]⟩ : ByteArray)).size + ((((t137 ++ (⟨#[46]⟩ : ByteArray)) ++ a0_6) ++ (⟨#[46]⟩ : ByteArray)) ++ a0_8).size ≤ 9223372036854775807) = true := decide_eq_true c22
                    try have c22b2 : (9223372036854775807 < (t136 ++ (⟨#[32, 60, 45, 32]⟩ : ByteArray)).size + ((((t137 ++ (⟨#[46]⟩ : ByteArray)) ++ a0_6) ++ (⟨#[46]⟩ : ByteArray)) ++ a0_8).size) = False := eq_false (Nat.not_lt.2 c22)
                    try (have c22b3 := c22; simp only [ByteArray.size_append, show (⟨#[32, 60, 45, 32]⟩ : ByteArray).size = 4 from rfl, show (⟨#[46]⟩ : ByteArray).size = 1 from rfl] at c22b3; have c22b4 := eq_false (Nat.not_lt.2 c22b3))
                    simp only [Option.some.injEq, Prod.mk.injEq] at H
                    obtain ⟨rfl, rfl⟩ := H
                    go_enter Tryd.func17, Tryd.ntmps17
                    try go_wp2_with (first | ((with_reducible refine gate_dst (N := 1) rfl ?_); refine box_event ?hg (N := 1) ?hd (cs := #[.int .i64 a0_0, .int .i64 a0_1, .string a0_2, .int .i64 a0_3, .string a0_4, .string a0_5, .string a0_6, .string a0_7, .string a0_8]) (t := 30) ?hr ?_; (case hd => rfl); (case hg => rfl); (case hr => first | (go_simp; done) | (go_simp; rfl)); intro gb132 hg w23 hbox hb; have n0_ := aM (below_step (by repeat (first | (with_reducible first | exact HB.out | apply below_alloc | apply pw_below_drewN | apply below_drew1) | exact HB.out)) hb); have n1_ := aM (hbox); have n2_ := aM ((by rw [hg]; exact (below_size (by repeat (first | (with_reducible first | exact HB.out | apply below_alloc | apply pw_below_drewN | apply below_drew1) | exact HB.out))) : w.heap.size ≤ gb132)); have n3_ := n2_; clear HB; have HB := n0_; have BK132 := n1_; have GW132 := n2_; have GE132 := n3_; clear n0_ n1_ n2_ n3_; clear hb hbox hg; obtain ⟨hcz24_0, hcz24_1, hcz24_2, hcz24_3, hcz24_4, hcz24_5, hcz24_6, hcz24_7, hcz24_8, hfz24_0, hfz24_1, hfz24_2, hfz24_3, hfz24_4, hfz24_5, hfz24_6, hfz24_7, hfz24_8⟩ := blk_all9 BK132.out) | ((with_reducible refine gate_callee (f := 21) rfl ?_); refine goesL_ (some 6) rfl rfl Tryd.func21 (by kernel_rfl) rfl #[.agg #[.int .i64 a0_0, .int .i64 a0_1, .string a0_2, .int .i64 a0_3, .string a0_4, .string a0_5, .string a0_6, .string a0_7, .string a0_8]] rfl (by (try simp only [mA, mB, mC]); first | done | rfl | (simp only [List.length_drop, List.length_take]; rfl)) ?_; (with_reducible refine (cred_May.calls k a0_0 a0_1 a0_2 a0_3 a0_4 a0_5 a0_6 a0_7 a0_8 true _ A2.out).mono ?_); rintro e w25 ⟨rfl, hb⟩; refine ⟨_, rfl, ?_⟩; have n0_ := aM (blk_below (g := gb132) (o := .cells #[.int .i64 a0_0, .int .i64 a0_1, .string a0_2, .int .i64 a0_3, .string a0_4, .string a0_5, .string a0_6, .string a0_7, .string a0_8] 30 (0, 0)) (by (with_reducible repeat (first | refine bN ?_ _ | refine bD ?_ | refine bA ?_ _)); exact BK132.out) hb); have n1_ := aM (below_step (by repeat (first | (with_reducible first | exact HB.out | apply below_alloc | apply pw_below_drewN | apply below_drew1 | refine below_set ?_ GE132.out) | exact HB.out)) hb); clear BK132 HB; have BK132 := n0_; have HB := n1_; clear n0_ n1_; (try clear hb); (try clear hb2); (try clear hk); (try clear hi); obtain ⟨hcz26_0, hcz26_1, hcz26_2, hcz26_3, hcz26_4, hcz26_5, hcz26_6, hcz26_7, hcz26_8, hfz26_0, hfz26_1, hfz26_2, hfz26_3, hfz26_4, hfz26_5, hfz26_6, hfz26_7, hfz26_8⟩ := blk_all9 BK132.out) | ((with_reducible refine gate_callee (f := 20) rfl ?_); refine goesL_ (some 9) rfl rfl Tryd.func20 (by kernel_rfl) rfl #[.agg #[.int .i64 a0_0, .int .i64 a0_1, .string a0_2, .int .i64 a0_3, .string a0_4, .string a0_5, .string a0_6, .string a0_7, .string a0_8]] rfl (by (try simp only [mA, mB, mC]); first | done | rfl | (simp only [List.length_drop, List.length_take]; rfl)) ?_; (with_reducible refine (cred_Role.calls a0_0 a0_1 a0_2 a0_3 a0_4 a0_5 a0_6 a0_7 a0_8 t134 t135 _ A4.out).mono ?_); rintro e w27 ⟨rfl, hb⟩; refine ⟨_, rfl, ?_⟩; have n0_ := aM (blk_below (g := gb132) (o := .cells #[.int .i64 a0_0, .int .i64 a0_1, .string a0_2, .int .i64 a0_3, .string a0_4, .string a0_5, .string a0_6, .string a0_7, .string a0_8] 30 (0, 0)) (by (with_reducible repeat (first | refine bN ?_ _ | refine bD ?_ | refine bA ?_ _)); exact BK132.out) hb); have n1_ := aM (below_step (by repeat (first | (with_reducible first | exact HB.out | apply below_alloc | apply pw_below_drewN | apply below_drew1 | refine below_set ?_ GE132.out) | exact HB.out)) hb); clear BK132 HB; have BK132 := n0_; have HB := n1_; clear n0_ n1_; (try clear hb); (try clear hb2); (try clear hk); (try clear hi)) | ((with_reducible refine gate_callee (f := 25) rfl ?_); refine goesL_ (some 10) rfl rfl Tryd.func25 (by kernel_rfl) rfl #[.agg #[.string t134, .string t135]] rfl (by (try simp only [mA, mB, mC]); first | done | rfl | (simp only [List.length_drop, List.length_take]; rfl)) ?_; (with_reducible refine (names_Text.calls t134 t135 t136 _ A5.out).mono ?_); rintro e w28 ⟨rfl, hb⟩; refine ⟨_, rfl, ?_⟩; have n0_ := aM (blk_below (g := gb132) (o := .cells #[.int .i64 a0_0, .int .i64 a0_1, .string a0_2, .int .i64 a0_3, .string a0_4, .string a0_5, .string a0_6, .string a0_7, .string a0_8] 30 (0, 0)) (by (with_reducible repeat (first | refine bN ?_ _ | refine bD ?_ | refine bA ?_ _)); exact BK132.out) hb); have n1_ := aM (below_step (by repeat (first | (with_reducible first | exact HB.out | apply below_alloc | apply pw_below_drewN | apply below_drew1 | refine below_set ?_ GE132.out) | exact HB.out)) hb); clear BK132 HB; have BK132 := n0_; have HB := n1_; clear n0_ n1_; (try clear hb); (try clear hb2); (try clear hk); (try clear hi); obtain ⟨hcz29_0, hcz29_1, hcz29_2, hcz29_3, hcz29_4, hcz29_5, hcz29_6, hcz29_7, hcz29_8, hfz29_0, hfz29_1, hfz29_2, hfz29_3, hfz29_4, hfz29_5, hfz29_6, hfz29_7, hfz29_8⟩ := blk_all9 BK132.out))
                    have n0_ := aM (blk_drew BK132.out)
                    have n1_ := aM (below_drew1 HB.out)
                    clear BK132
                    clear HB
                    have BK132 := n0_
                    have HB := n1_
                    clear n0_ n1_
                    refine start_ (n := 17) (S := fun w' => w'.cell? ⟨gb132, 0, none⟩ = some (.int .i64 a0_0) ∧ w'.cell? ⟨gb132, 1, none⟩ = some (.int .i64 a0_1) ∧ w'.cell? ⟨gb132, 2, none⟩ = some (.string a0_2) ∧ w'.cell? ⟨gb132, 3, none⟩ = some (.int .i64 a0_3) ∧ w'.cell? ⟨gb132, 4, none⟩ = some (.string a0_4) ∧ w'.cell? ⟨gb132, 5, none⟩ = some (.string a0_5) ∧ w'.cell? ⟨gb132, 6, none⟩ = some (.string a0_6) ∧ w'.cell? ⟨gb132, 7, none⟩ = some (.string a0_7) ∧ w'.cell? ⟨gb132, 8, none⟩ = some (.string a0_8)) (ds := []) #[false, false, false, false, false, false, false, false, false, false, false, false, false, false, false, false, false] (by kernel_rfl) rfl rfl ⟨(blk_cell BK132.out 0).trans rfl, (blk_cell BK132.out 1).trans rfl, (blk_cell BK132.out 2).trans rfl, (blk_cell BK132.out 3).trans rfl, (blk_cell BK132.out 4).trans rfl, (blk_cell BK132.out 5).trans rfl, (blk_cell BK132.out 6).trans rfl, (blk_cell BK132.out 7).trans rfl, (blk_cell BK132.out 8).trans rfl⟩ (fun hHeld => ?_); refine with_tabW cred_Text.tab10 cred_Text.bits10 (fun HT_ HW_ => ?_)
                    generalize w28.drew = w30 at BK132 HB hHeld ⊢
                    refine pure_ (i := 0) (N := some 26) (v := ?_) (a' := ?_) #[true, false, false, false, false, false, false, false, false, false, false, false, false, false, false, false, false] rfl rfl (any_of HT_.out (by kernel_rfl)) (fun _ _ _ h => h) (Or.inl ⟨by rfl, ?_⟩) ?_ ?_
                    rotate_left
                    · intro w'
                      go_simp
                      with_reducible rfl
                    rotate_left
                    · simp only [Act.put, List.setIfInBounds_toArray, List.set_cons_zero, List.set_cons_succ, i64_w, i32_w]
                      rfl
                    refine pure_ (i := 1) (N := some 27) (v := ?_) (a' := ?_) #[true, true, false, false, false, false, false, false, false, false, false, false, false, false, false, false, false] rfl rfl (any_of HT_.out (by kernel_rfl)) (fun _ _ _ h => h) (Or.inl ⟨by rfl, ?_⟩) ?_ ?_
                    rotate_left
                    · intro w'
                      go_simp
                      with_reducible rfl
                    rotate_left
                    · simp only [Act.put, List.setIfInBounds_toArray, List.set_cons_zero, List.set_cons_succ, i64_w, i32_w]
                      rfl
                    refine pure_ (i := 2) (N := some 28) (v := ?_) (a' := ?_) #[true, true, true, false, false, false, false, false, false, false, false, false, false, false, false, false, false] rfl rfl (any_of HT_.out (by kernel_rfl)) (fun _ _ _ h => h) (Or.inl ⟨by rfl, ?_⟩) ?_ ?_
                    rotate_left
                    · intro w'
                      go_simp
                      with_reducible rfl
                    rotate_left
                    · simp only [Act.put, List.setIfInBounds_toArray, List.set_cons_zero, List.set_cons_succ, i64_w, i32_w]
                      rfl
                    refine pure_ (i := 6) (N := some 32) (v := ?_) (a' := ?_) #[true, true, true, false, false, false, true, false, false, false, false, false, false, false, false, false, false] rfl rfl (any_of HT_.out (by kernel_rfl)) (fun _ _ _ h => h) (Or.inl ⟨by rfl, ?_⟩) ?_ ?_
                    rotate_left
                    · intro w'
                      go_simp
                      with_reducible rfl
                    rotate_left
                    · simp only [Act.put, List.setIfInBounds_toArray, List.set_cons_zero, List.set_cons_succ, i64_w, i32_w]
                      rfl
                    refine pure_ (i := 7) (N := some 33) (v := ?_) (a' := ?_) #[true, true, true, false, false, false, true, true, false, false, false, false, false, false, false, false, false] rfl rfl (any_of HT_.out (by kernel_rfl)) (fun _ _ _ h => h) (Or.inl ⟨by rfl, ?_⟩) ?_ ?_
                    rotate_left
                    · intro w'
                      go_simp
                      with_reducible rfl
                    rotate_left
                    · simp only [Act.put, List.setIfInBounds_toArray, List.set_cons_zero, List.set_cons_succ, i64_w, i32_w]
                      rfl
                    refine pure_ (i := 11) (N := some 37) (v := ?_) (a' := ?_) #[true, true, true, false, false, false, true, true, false, false, false, true, false, false, false, false, false] rfl rfl (any_of HT_.out (by kernel_rfl)) (fun _ _ _ h => h) (Or.inl ⟨by rfl, ?_⟩) ?_ ?_
                    rotate_left
                    · intro w'
                      go_simp
                      with_reducible rfl
                    rotate_left
                    · simp only [Act.put, List.setIfInBounds_toArray, List.set_cons_zero, List.set_cons_succ, i64_w, i32_w]
                      rfl
                    refine pure_ (i := 12) (N := some 38) (v := ?_) (a' := ?_) #[true, true, true, false, false, false, true, true, false, false, false, true, true, false, false, false, false] rfl rfl (any_of HT_.out (by kernel_rfl)) (fun _ _ _ h => h) (Or.inl ⟨by rfl, ?_⟩) ?_ ?_
                    rotate_left
                    · intro w'
                      go_simp
                      with_reducible rfl
                    rotate_left
                    · simp only [Act.put, List.setIfInBounds_toArray, List.set_cons_zero, List.set_cons_succ, i64_w, i32_w]
                      rfl
                    refine take_ (i := 3) (N := some 29) (v := ?_) (a' := ?_) #[true, true, true, true, false, false, true, true, false, false, false, true, true, false, false, false, false] rfl rfl (take_ofW HT_.out HW_.out (by kernel_rfl)) (fun _ _ _ h => h) (Or.inl ⟨by rfl, ?_⟩) hHeld ?_ ?_
                    rotate_left
                    · rintro w' ⟨s0, s1, s2, s3, s4, s5, s6, s7, s8⟩
                      go_simp
                      with_reducible rfl
                    rotate_left
                    · simp only [Act.put, List.setIfInBounds_toArray, List.set_cons_zero, List.set_cons_succ, i64_w, i32_w]
                      rfl
                    refine take_ (i := 8) (N := some 34) (v := ?_) (a' := ?_) #[true, true, true, true, false, false, true, true, true, false, false, true, true, false, false, false, false] rfl rfl (take_ofW HT_.out HW_.out (by kernel_rfl)) (fun _ _ _ h => h) (Or.inl ⟨by rfl, ?_⟩) hHeld ?_ ?_
                    rotate_left
                    · rintro w' ⟨s0, s1, s2, s3, s4, s5, s6, s7, s8⟩
                      go_simp
                      with_reducible rfl
                    rotate_left
                    · simp only [Act.put, List.setIfInBounds_toArray, List.set_cons_zero, List.set_cons_succ, i64_w, i32_w]
                      rfl
                    refine take_ (i := 13) (N := some 39) (v := ?_) (a' := ?_) #[true, true, true, true, false, false, true, true, true, false, false, true, true, true, false, false, false] rfl rfl (take_ofW HT_.out HW_.out (by kernel_rfl)) (fun _ _ _ h => h) (Or.inl ⟨by rfl, ?_⟩) hHeld ?_ ?_
                    rotate_left
                    · rintro w' ⟨s0, s1, s2, s3, s4, s5, s6, s7, s8⟩
                      go_simp
                      with_reducible rfl
                    rotate_left
                    · simp only [Act.put, List.setIfInBounds_toArray, List.set_cons_zero, List.set_cons_succ, i64_w, i32_w]
                      rfl
                    refine one_ (i := 4) (N := some 30) #[true, true, true, true, true, false, true, true, true, false, false, true, true, true, false, false, false] rfl rfl (one_of HT_.out (by kernel_rfl)) (by decide) (fun K hK => ?_)
                    refine goes_ Tryd.func26 (by kernel_rfl) rfl #[.int .i64 a0_0] (by rfl) rfl rfl (by (try simp only [mA, mB, mC]); first | done | rfl | (simp only [List.length_drop, List.length_take]; rfl)) ?_
                    with_reducible refine (names_Domain.calls a0_0 t137 _ A17.out).mono ?_
                    rintro e w31 ⟨rfl, hb⟩
                    refine ⟨_, rfl, ?_⟩
                    have n0_ := aM (blk_below (g := gb132) (o := .cells #[.int .i64 a0_0, .int .i64 a0_1, .string a0_2, .int .i64 a0_3, .string a0_4, .string a0_5, .string a0_6, .string a0_7, .string a0_8] 30 (0, 0)) (by (with_reducible repeat (first | refine bN ?_ _ | refine bD ?_ | refine bA ?_ _)); exact BK132.out) hb)
                    have n1_ := aM (below_step (by repeat (first | (with_reducible first | exact HB.out | apply below_alloc | apply pw_below_drewN | apply below_drew1 | refine below_set ?_ GE132.out) | exact HB.out)) hb)
                    clear BK132
                    clear HB
                    have BK132 := n0_
                    have HB := n1_
                    clear n0_ n1_
                    (try clear hb)
                    (try clear hb2)
                    (try clear hk)
                    (try clear hi)
                    refine hK.out _ _ ⟨(blk_cell BK132.out 0).trans rfl, (blk_cell BK132.out 1).trans rfl, (blk_cell BK132.out 2).trans rfl, (blk_cell BK132.out 3).trans rfl, (blk_cell BK132.out 4).trans rfl, (blk_cell BK132.out 5).trans rfl, (blk_cell BK132.out 6).trans rfl, (blk_cell BK132.out 7).trans rfl, (blk_cell BK132.out 8).trans rfl⟩ (fun hHeld => ?_)
                    clear hK K
                    refine norm_ (a' := ?_) ?_ ?_
                    rotate_left
                    · show Act.put _ (some 30) _ = _
                      simp only [Act.put, List.setIfInBounds_toArray, List.set_cons_zero, List.set_cons_succ, i64_w, i32_w]
                      rfl
                    refine pure_ (i := 5) (N := some 31) (v := ?_) (a' := ?_) #[true, true, true, true, true, true, true, true, true, false, false, true, true, true, false, false, false] rfl rfl (any_of HT_.out (by kernel_rfl)) (fun _ _ _ h => h) (Or.inl ⟨by rfl, ?_⟩) ?_ ?_
                    rotate_left
                    · intro w'
                      go_simp
                      with_reducible rfl
                    rotate_left
                    · simp only [Act.put, List.setIfInBounds_toArray, List.set_cons_zero, List.set_cons_succ, i64_w, i32_w]
                      rfl
                    refine pure_ (i := 9) (N := some 35) (v := ?_) (a' := ?_) #[true, true, true, true, true, true, true, true, true, true, false, true, true, true, false, false, false] rfl rfl (any_of HT_.out (by kernel_rfl)) (fun _ _ _ h => h) (Or.inl ⟨by rfl, ?_⟩) ?_ ?_
                    rotate_left
                    · intro w'
                      go_simp
                      with_reducible rfl
                    rotate_left
                    · simp only [Act.put, List.setIfInBounds_toArray, List.set_cons_zero, List.set_cons_succ, i64_w, i32_w]
                      rfl
                    refine pure_ (i := 10) (N := some 36) (v := ?_) (a' := ?_) #[true, true, true, true, true, true, true, true, true, true, true, true, true, true, false, false, false] rfl rfl (any_of HT_.out (by kernel_rfl)) (fun _ _ _ h => h) (Or.inl ⟨by rfl, ?_⟩) ?_ ?_
                    rotate_left
                    · intro w'
                      go_simp
                      with_reducible rfl
                    rotate_left
                    · simp only [Act.put, List.setIfInBounds_toArray, List.set_cons_zero, List.set_cons_succ, i64_w, i32_w]
                      rfl
                    refine pure_ (i := 14) (N := some 40) (v := ?_) (a' := ?_) #[true, true, true, true, true, true, true, true, true, true, true, true, true, true, true, false, false] rfl rfl (any_of HT_.out (by kernel_rfl)) (fun _ _ _ h => h) (Or.inl ⟨by rfl, ?_⟩) ?_ ?_
                    rotate_left
                    · intro w'
                      go_simp
                      with_reducible rfl
                    rotate_left
                    · simp only [Act.put, List.setIfInBounds_toArray, List.set_cons_zero, List.set_cons_succ, i64_w, i32_w]
                      rfl
                    refine pure_ (i := 15) (N := some 41) (v := ?_) (a' := ?_) #[true, true, true, true, true, true, true, true, true, true, true, true, true, true, true, true, false] rfl rfl (any_of HT_.out (by kernel_rfl)) (fun _ _ _ h => h) (Or.inl ⟨by rfl, ?_⟩) ?_ ?_
                    rotate_left
                    · intro w'
                      go_simp
                      with_reducible rfl
                    rotate_left
                    · simp only [Act.put, List.setIfInBounds_toArray, List.set_cons_zero, List.set_cons_succ, i64_w, i32_w]
                      rfl
                    refine pure_ (i := 16) (N := some 4) (v := ?_) (a' := ?_) #[true, true, true, true, true, true, true, true, true, true, true, true, true, true, true, true, true] rfl rfl (any_of HT_.out (by kernel_rfl)) (fun _ _ _ h => h) (Or.inl ⟨by rfl, ?_⟩) ?_ ?_
                    rotate_left
                    · intro w'
                      go_simp
                      with_reducible rfl
                    rotate_left
                    · simp only [Act.put, List.setIfInBounds_toArray, List.set_cons_zero, List.set_cons_succ, i64_w, i32_w]
                      rfl
                    refine done_ (done_of HT_.out (by kernel_rfl)) ?_
                    try go_wp2
                    go_ret2
                    exact ⟨by first | rfl | (simp [errW_none, errW_some] <;> rfl) | (simp [*, errW_none, errW_some] <;> rfl), by repeat (first | (with_reducible first | exact HB.out | apply below_alloc | apply pw_below_drewN | apply below_drew1 | refine below_set ?_ GE132.out) | exact HB.out)⟩
                  · rw [if_neg c22] at H
                    exact absurd H (by simp)
                · rw [if_neg c21] at H
                  exact absurd H (by simp)
              · rw [if_neg c20] at H
                exact absurd H (by simp)
            · rw [if_neg c19] at H
              exact absurd H (by simp)
          · rw [if_neg c18] at H
            exact absurd H (by simp)
        · rw [if_neg c16] at H
          have c16b0 : (a0_3 == 3) = false := beq_eq_false_iff_ne.mpr c16
          have c16b1 : (a0_3 != 3) = true := bne_iff_ne.mpr c16
          by_cases c32 : a0_3 = 4
          · rw [if_pos c32] at H
            have c32b0 : (a0_3 == 4) = true := beq_iff_eq.mpr c32
            have c32b1 : (a0_3 != 4) = false := bne_eq_false_iff_eq.mpr c32
            clear c32
            replace H := Option.bind_eq_some_iff.mp H
            obtain ⟨t138, A330, H⟩ := H
            replace H : (if t138.size + 3 ≤ 9223372036854775807 then (if (t136 ++ (⟨#[32, 60, 45, 32]⟩ : ByteArray)).size + (t138 ++ (⟨#[32, 38, 32]⟩ : ByteArray)).size ≤ 9223372036854775807 then ((names_Text.f a0_7 a0_8).bind fun t139 => (if ((t136 ++ (⟨#[32, 60, 45, 32]⟩ : ByteArray)) ++ (t138 ++ (⟨#[32, 38, 32]⟩ : ByteArray))).size + t139.size ≤ 9223372036854775807 then (some (((t136 ++ (⟨#[32, 60, 45, 32]⟩ : ByteArray)) ++ (t138 ++ (⟨#[32, 38, 32]⟩ : ByteArray))) ++ t139, 0)) else (none))) else (none)) else (none)) = some (r1, r2) := H
            have A33 := Aside0.mk A330
            clear A330
            by_cases c34 : t138.size + 3 ≤ 9223372036854775807
            · rw [if_pos c34] at H
              have c34b0 := eq_true c34
              have c34b1 : decide (t138.size + 3 ≤ 9223372036854775807) = true := decide_eq_true c34
              try have c34b2 : (9223372036854775807 < t138.size + 3) = False := eq_false (Nat.not_lt.2 c34)
              by_cases c35 : (t136 ++ (⟨#[32, 60, 45, 32]⟩ : ByteArray)).size + (t138 ++ (⟨#[32, 38, 32]⟩ : ByteArray)).size ≤ 9223372036854775807
              · rw [if_pos c35] at H
                have c35b0 := eq_true c35
                have c35b1 : decide ((t136 ++ (⟨#[32, 60, 45, 32]⟩ : ByteArray)).size + (t138 ++ (⟨#[32, 38, 32]⟩ : ByteArray)).size ≤ 9223372036854775807) = true := decide_eq_true c35
                try have c35b2 : (9223372036854775807 < (t136 ++ (⟨#[32, 60, 45, 32]⟩ : ByteArray)).size + (t138 ++ (⟨#[32, 38, 32]⟩ : ByteArray)).size) = False := eq_false (Nat.not_lt.2 c35)
                try (have c35b3 := c35; simp only [ByteArray.size_append, show (⟨#[32, 38, 32]⟩ : ByteArray).size = 3 from rfl, show (⟨#[32, 60, 45, 32]⟩ : ByteArray).size = 4 from rfl] at c35b3; have c35b4 := eq_false (Nat.not_lt.2 c35b3))
                replace H := Option.bind_eq_some_iff.mp H
                obtain ⟨t139, A360, H⟩ := H
                replace H : (if ((t136 ++ (⟨#[32, 60, 45, 32]⟩ : ByteArray)) ++ (t138 ++ (⟨#[32, 38, 32]⟩ : ByteArray))).size + t139.size ≤ 9223372036854775807 then (some (((t136 ++ (⟨#[32, 60, 45, 32]⟩ : ByteArray)) ++ (t138 ++ (⟨#[32, 38, 32]⟩ : ByteArray))) ++ t139, 0)) else (none)) = some (r1, r2) := H
                have A36 := Aside0.mk A360
                clear A360
                by_cases c37 : ((t136 ++ (⟨#[32, 60, 45, 32]⟩ : ByteArray)) ++ (t138 ++ (⟨#[32, 38, 32]⟩ : ByteArray))).size + t139.size ≤ 9223372036854775807
                · rw [if_pos c37] at H
                  have c37b0 := eq_true c37
                  have c37b1 : decide (((t136 ++ (⟨#[32, 60, 45, 32]⟩ : ByteArray)) ++ (t138 ++ (⟨#[32, 38, 32]⟩ : ByteArray))).size + t139.size ≤ 9223372036854775807) = true := decide_eq_true c37
                  try have c37b2 : (9223372036854775807 < ((t136 ++ (⟨#[32, 60, 45, 32]⟩ : ByteArray)) ++ (t138 ++ (⟨#[32, 38, 32]⟩ : ByteArray))).size + t139.size) = False := eq_false (Nat.not_lt.2 c37)
                  try (have c37b3 := c37; simp only [ByteArray.size_append, show (⟨#[32, 38, 32]⟩ : ByteArray).size = 3 from rfl, show (⟨#[32, 60, 45, 32]⟩ : ByteArray).size = 4 from rfl] at c37b3; have c37b4 := eq_false (Nat.not_lt.2 c37b3))
                  simp only [Option.some.injEq, Prod.mk.injEq] at H
                  obtain ⟨rfl, rfl⟩ := H
                  go_enter Tryd.func17, Tryd.ntmps17
                  go_wp2_with (first | ((with_reducible refine gate_dst (N := 1) rfl ?_); refine box_event ?hg (N := 1) ?hd (cs := #[.int .i64 a0_0, .int .i64 a0_1, .string a0_2, .int .i64 a0_3, .string a0_4, .string a0_5, .string a0_6, .string a0_7, .string a0_8]) (t := 30) ?hr ?_; (case hd => rfl); (case hg => rfl); (case hr => first | (go_simp; done) | (go_simp; rfl)); intro gb132 hg w38 hbox hb; have n0_ := aM (below_step (by repeat (first | (with_reducible first | exact HB.out | apply below_alloc | apply pw_below_drewN | apply below_drew1) | exact HB.out)) hb); have n1_ := aM (hbox); have n2_ := aM ((by rw [hg]; exact (below_size (by repeat (first | (with_reducible first | exact HB.out | apply below_alloc | apply pw_below_drewN | apply below_drew1) | exact HB.out))) : w.heap.size ≤ gb132)); have n3_ := n2_; clear HB; have HB := n0_; have BK132 := n1_; have GW132 := n2_; have GE132 := n3_; clear n0_ n1_ n2_ n3_; clear hb hbox hg; obtain ⟨hcz39_0, hcz39_1, hcz39_2, hcz39_3, hcz39_4, hcz39_5, hcz39_6, hcz39_7, hcz39_8, hfz39_0, hfz39_1, hfz39_2, hfz39_3, hfz39_4, hfz39_5, hfz39_6, hfz39_7, hfz39_8⟩ := blk_all9 BK132.out) | ((with_reducible refine gate_callee (f := 21) rfl ?_); refine goesL_ (some 6) rfl rfl Tryd.func21 (by kernel_rfl) rfl #[.agg #[.int .i64 a0_0, .int .i64 a0_1, .string a0_2, .int .i64 a0_3, .string a0_4, .string a0_5, .string a0_6, .string a0_7, .string a0_8]] rfl (by (try simp only [mA, mB, mC]); first | done | rfl | (simp only [List.length_drop, List.length_take]; rfl)) ?_; (with_reducible refine (cred_May.calls k a0_0 a0_1 a0_2 a0_3 a0_4 a0_5 a0_6 a0_7 a0_8 true _ A2.out).mono ?_); rintro e w40 ⟨rfl, hb⟩; refine ⟨_, rfl, ?_⟩; have n0_ := aM (blk_below (g := gb132) (o := .cells #[.int .i64 a0_0, .int .i64 a0_1, .string a0_2, .int .i64 a0_3, .string a0_4, .string a0_5, .string a0_6, .string a0_7, .string a0_8] 30 (0, 0)) (by (with_reducible repeat (first | refine bN ?_ _ | refine bD ?_ | refine bA ?_ _)); exact BK132.out) hb); have n1_ := aM (below_step (by repeat (first | (with_reducible first | exact HB.out | apply below_alloc | apply pw_below_drewN | apply below_drew1 | refine below_set ?_ GE132.out) | exact HB.out)) hb); clear BK132 HB; have BK132 := n0_; have HB := n1_; clear n0_ n1_; (try clear hb); (try clear hb2); (try clear hk); (try clear hi); obtain ⟨hcz41_0, hcz41_1, hcz41_2, hcz41_3, hcz41_4, hcz41_5, hcz41_6, hcz41_7, hcz41_8, hfz41_0, hfz41_1, hfz41_2, hfz41_3, hfz41_4, hfz41_5, hfz41_6, hfz41_7, hfz41_8⟩ := blk_all9 BK132.out) | ((with_reducible refine gate_callee (f := 20) rfl ?_); refine goesL_ (some 9) rfl rfl Tryd.func20 (by kernel_rfl) rfl #[.agg #[.int .i64 a0_0, .int .i64 a0_1, .string a0_2, .int .i64 a0_3, .string a0_4, .string a0_5, .string a0_6, .string a0_7, .string a0_8]] rfl (by (try simp only [mA, mB, mC]); first | done | rfl | (simp only [List.length_drop, List.length_take]; rfl)) ?_; (with_reducible refine (cred_Role.calls a0_0 a0_1 a0_2 a0_3 a0_4 a0_5 a0_6 a0_7 a0_8 t134 t135 _ A4.out).mono ?_); rintro e w42 ⟨rfl, hb⟩; refine ⟨_, rfl, ?_⟩; have n0_ := aM (blk_below (g := gb132) (o := .cells #[.int .i64 a0_0, .int .i64 a0_1, .string a0_2, .int .i64 a0_3, .string a0_4, .string a0_5, .string a0_6, .string a0_7, .string a0_8] 30 (0, 0)) (by (with_reducible repeat (first | refine bN ?_ _ | refine bD ?_ | refine bA ?_ _)); exact BK132.out) hb); have n1_ := aM (below_step (by repeat (first | (with_reducible first | exact HB.out | apply below_alloc | apply pw_below_drewN | apply below_drew1 | refine below_set ?_ GE132.out) | exact HB.out)) hb); clear BK132 HB; have BK132 := n0_; have HB := n1_; clear n0_ n1_; (try clear hb); (try clear hb2); (try clear hk); (try clear hi)) | ((with_reducible refine gate_callee (f := 25) rfl ?_); refine goesL_ (some 10) rfl rfl Tryd.func25 (by kernel_rfl) rfl #[.agg #[.string t134, .string t135]] rfl (by (try simp only [mA, mB, mC]); first | done | rfl | (simp only [List.length_drop, List.length_take]; rfl)) ?_; (with_reducible refine (names_Text.calls t134 t135 t136 _ A5.out).mono ?_); rintro e w43 ⟨rfl, hb⟩; refine ⟨_, rfl, ?_⟩; have n0_ := aM (blk_below (g := gb132) (o := .cells #[.int .i64 a0_0, .int .i64 a0_1, .string a0_2, .int .i64 a0_3, .string a0_4, .string a0_5, .string a0_6, .string a0_7, .string a0_8] 30 (0, 0)) (by (with_reducible repeat (first | refine bN ?_ _ | refine bD ?_ | refine bA ?_ _)); exact BK132.out) hb); have n1_ := aM (below_step (by repeat (first | (with_reducible first | exact HB.out | apply below_alloc | apply pw_below_drewN | apply below_drew1 | refine below_set ?_ GE132.out) | exact HB.out)) hb); clear BK132 HB; have BK132 := n0_; have HB := n1_; clear n0_ n1_; (try clear hb); (try clear hb2); (try clear hk); (try clear hi); obtain ⟨hcz44_0, hcz44_1, hcz44_2, hcz44_3, hcz44_4, hcz44_5, hcz44_6, hcz44_7, hcz44_8, hfz44_0, hfz44_1, hfz44_2, hfz44_3, hfz44_4, hfz44_5, hfz44_6, hfz44_7, hfz44_8⟩ := blk_all9 BK132.out) | ((with_reducible refine gate_callee (f := 25) rfl ?_); refine goesL_ (some 45) rfl rfl Tryd.func25 (by kernel_rfl) rfl #[.agg #[.string a0_5, .string a0_6]] rfl (by (try simp only [mA, mB, mC]); first | done | rfl | (simp only [List.length_drop, List.length_take]; rfl)) ?_; (with_reducible refine (names_Text.calls a0_5 a0_6 t138 _ A33.out).mono ?_); rintro e w45 ⟨rfl, hb⟩; refine ⟨_, rfl, ?_⟩; have n0_ := aM (blk_below (g := gb132) (o := .cells #[.int .i64 a0_0, .int .i64 a0_1, .string a0_2, .int .i64 a0_3, .string a0_4, .string a0_5, .string a0_6, .string a0_7, .string a0_8] 30 (0, 0)) (by (with_reducible repeat (first | refine bN ?_ _ | refine bD ?_ | refine bA ?_ _)); exact BK132.out) hb); have n1_ := aM (below_step (by repeat (first | (with_reducible first | exact HB.out | apply below_alloc | apply pw_below_drewN | apply below_drew1 | refine below_set ?_ GE132.out) | exact HB.out)) hb); clear BK132 HB; have BK132 := n0_; have HB := n1_; clear n0_ n1_; (try clear hb); (try clear hb2); (try clear hk); (try clear hi); obtain ⟨hcz46_0, hcz46_1, hcz46_2, hcz46_3, hcz46_4, hcz46_5, hcz46_6, hcz46_7, hcz46_8, hfz46_0, hfz46_1, hfz46_2, hfz46_3, hfz46_4, hfz46_5, hfz46_6, hfz46_7, hfz46_8⟩ := blk_all9 BK132.out) | ((with_reducible refine gate_callee (f := 25) rfl ?_); refine goesL_ (some 54) rfl rfl Tryd.func25 (by kernel_rfl) rfl #[.agg #[.string a0_7, .string a0_8]] rfl (by (try simp only [mA, mB, mC]); first | done | rfl | (simp only [List.length_drop, List.length_take]; rfl)) ?_; (with_reducible refine (names_Text.calls a0_7 a0_8 t139 _ A36.out).mono ?_); rintro e w47 ⟨rfl, hb⟩; refine ⟨_, rfl, ?_⟩; have n0_ := aM (blk_below (g := gb132) (o := .cells #[.int .i64 a0_0, .int .i64 a0_1, .string a0_2, .int .i64 a0_3, .string a0_4, .string a0_7, .string a0_8, .string a0_7, .string a0_8] 30 (0, 0)) (by (with_reducible repeat (first | refine bN ?_ _ | refine bD ?_ | refine bA ?_ _)); refine blk_put (cs := #[.int .i64 a0_0, .int .i64 a0_1, .string a0_2, .int .i64 a0_3, .string a0_4, .string a0_7, .string a0_6, .string a0_7, .string a0_8]) ?_ 6 _ rfl; (with_reducible repeat (first | refine bN ?_ _ | refine bD ?_ | refine bA ?_ _)); refine blk_put (cs := #[.int .i64 a0_0, .int .i64 a0_1, .string a0_2, .int .i64 a0_3, .string a0_4, .string a0_5, .string a0_6, .string a0_7, .string a0_8]) ?_ 5 _ rfl; (with_reducible repeat (first | refine bN ?_ _ | refine bD ?_ | refine bA ?_ _)); exact BK132.out) hb); have n1_ := aM (below_step (by repeat (first | (with_reducible first | exact HB.out | apply below_alloc | apply pw_below_drewN | apply below_drew1 | refine below_set ?_ GE132.out) | exact HB.out)) hb); clear BK132 HB; have BK132 := n0_; have HB := n1_; clear n0_ n1_; (try clear hb); (try clear hb2); (try clear hk); (try clear hi)))
                  go_ret2
                  exact ⟨by first | rfl | (simp [errW_none, errW_some] <;> rfl) | (simp [*, errW_none, errW_some] <;> rfl), by repeat (first | (with_reducible first | exact HB.out | apply below_alloc | apply pw_below_drewN | apply below_drew1 | refine below_set ?_ GE132.out) | exact HB.out)⟩
                · rw [if_neg c37] at H
                  exact absurd H (by simp)
              · rw [if_neg c35] at H
                exact absurd H (by simp)
            · rw [if_neg c34] at H
              exact absurd H (by simp)
          · rw [if_neg c32] at H
            have c32b0 : (a0_3 == 4) = false := beq_eq_false_iff_ne.mpr c32
            have c32b1 : (a0_3 != 4) = true := bne_iff_ne.mpr c32
            by_cases c48 : a0_3 = 2
            · rw [if_pos c48] at H
              have c48b0 : (a0_3 == 2) = true := beq_iff_eq.mpr c48
              have c48b1 : (a0_3 != 2) = false := bne_eq_false_iff_eq.mpr c48
              clear c48
              replace H := Option.bind_eq_some_iff.mp H
              obtain ⟨t140, A490, H⟩ := H
              replace H : (if (t136 ++ (⟨#[32, 60, 45, 32]⟩ : ByteArray)).size + t140.size ≤ 9223372036854775807 then (some ((t136 ++ (⟨#[32, 60, 45, 32]⟩ : ByteArray)) ++ t140, 0)) else (none)) = some (r1, r2) := H
              have A49 := Aside0.mk A490
              clear A490
              by_cases c50 : (t136 ++ (⟨#[32, 60, 45, 32]⟩ : ByteArray)).size + t140.size ≤ 9223372036854775807
              · rw [if_pos c50] at H
                have c50b0 := eq_true c50
                have c50b1 : decide ((t136 ++ (⟨#[32, 60, 45, 32]⟩ : ByteArray)).size + t140.size ≤ 9223372036854775807) = true := decide_eq_true c50
                try have c50b2 : (9223372036854775807 < (t136 ++ (⟨#[32, 60, 45, 32]⟩ : ByteArray)).size + t140.size) = False := eq_false (Nat.not_lt.2 c50)
                try (have c50b3 := c50; simp only [ByteArray.size_append, show (⟨#[32, 60, 45, 32]⟩ : ByteArray).size = 4 from rfl] at c50b3; have c50b4 := eq_false (Nat.not_lt.2 c50b3))
                simp only [Option.some.injEq, Prod.mk.injEq] at H
                obtain ⟨rfl, rfl⟩ := H
                go_enter Tryd.func17, Tryd.ntmps17
                go_wp2_with (first | ((with_reducible refine gate_dst (N := 1) rfl ?_); refine box_event ?hg (N := 1) ?hd (cs := #[.int .i64 a0_0, .int .i64 a0_1, .string a0_2, .int .i64 a0_3, .string a0_4, .string a0_5, .string a0_6, .string a0_7, .string a0_8]) (t := 30) ?hr ?_; (case hd => rfl); (case hg => rfl); (case hr => first | (go_simp; done) | (go_simp; rfl)); intro gb132 hg w51 hbox hb; have n0_ := aM (below_step (by repeat (first | (with_reducible first | exact HB.out | apply below_alloc | apply pw_below_drewN | apply below_drew1) | exact HB.out)) hb); have n1_ := aM (hbox); have n2_ := aM ((by rw [hg]; exact (below_size (by repeat (first | (with_reducible first | exact HB.out | apply below_alloc | apply pw_below_drewN | apply below_drew1) | exact HB.out))) : w.heap.size ≤ gb132)); have n3_ := n2_; clear HB; have HB := n0_; have BK132 := n1_; have GW132 := n2_; have GE132 := n3_; clear n0_ n1_ n2_ n3_; clear hb hbox hg; obtain ⟨hcz52_0, hcz52_1, hcz52_2, hcz52_3, hcz52_4, hcz52_5, hcz52_6, hcz52_7, hcz52_8, hfz52_0, hfz52_1, hfz52_2, hfz52_3, hfz52_4, hfz52_5, hfz52_6, hfz52_7, hfz52_8⟩ := blk_all9 BK132.out) | ((with_reducible refine gate_callee (f := 21) rfl ?_); refine goesL_ (some 6) rfl rfl Tryd.func21 (by kernel_rfl) rfl #[.agg #[.int .i64 a0_0, .int .i64 a0_1, .string a0_2, .int .i64 a0_3, .string a0_4, .string a0_5, .string a0_6, .string a0_7, .string a0_8]] rfl (by (try simp only [mA, mB, mC]); first | done | rfl | (simp only [List.length_drop, List.length_take]; rfl)) ?_; (with_reducible refine (cred_May.calls k a0_0 a0_1 a0_2 a0_3 a0_4 a0_5 a0_6 a0_7 a0_8 true _ A2.out).mono ?_); rintro e w53 ⟨rfl, hb⟩; refine ⟨_, rfl, ?_⟩; have n0_ := aM (blk_below (g := gb132) (o := .cells #[.int .i64 a0_0, .int .i64 a0_1, .string a0_2, .int .i64 a0_3, .string a0_4, .string a0_5, .string a0_6, .string a0_7, .string a0_8] 30 (0, 0)) (by (with_reducible repeat (first | refine bN ?_ _ | refine bD ?_ | refine bA ?_ _)); exact BK132.out) hb); have n1_ := aM (below_step (by repeat (first | (with_reducible first | exact HB.out | apply below_alloc | apply pw_below_drewN | apply below_drew1 | refine below_set ?_ GE132.out) | exact HB.out)) hb); clear BK132 HB; have BK132 := n0_; have HB := n1_; clear n0_ n1_; (try clear hb); (try clear hb2); (try clear hk); (try clear hi); obtain ⟨hcz54_0, hcz54_1, hcz54_2, hcz54_3, hcz54_4, hcz54_5, hcz54_6, hcz54_7, hcz54_8, hfz54_0, hfz54_1, hfz54_2, hfz54_3, hfz54_4, hfz54_5, hfz54_6, hfz54_7, hfz54_8⟩ := blk_all9 BK132.out) | ((with_reducible refine gate_callee (f := 20) rfl ?_); refine goesL_ (some 9) rfl rfl Tryd.func20 (by kernel_rfl) rfl #[.agg #[.int .i64 a0_0, .int .i64 a0_1, .string a0_2, .int .i64 a0_3, .string a0_4, .string a0_5, .string a0_6, .string a0_7, .string a0_8]] rfl (by (try simp only [mA, mB, mC]); first | done | rfl | (simp only [List.length_drop, List.length_take]; rfl)) ?_; (with_reducible refine (cred_Role.calls a0_0 a0_1 a0_2 a0_3 a0_4 a0_5 a0_6 a0_7 a0_8 t134 t135 _ A4.out).mono ?_); rintro e w55 ⟨rfl, hb⟩; refine ⟨_, rfl, ?_⟩; have n0_ := aM (blk_below (g := gb132) (o := .cells #[.int .i64 a0_0, .int .i64 a0_1, .string a0_2, .int .i64 a0_3, .string a0_4, .string a0_5, .string a0_6, .string a0_7, .string a0_8] 30 (0, 0)) (by (with_reducible repeat (first | refine bN ?_ _ | refine bD ?_ | refine bA ?_ _)); exact BK132.out) hb); have n1_ := aM (below_step (by repeat (first | (with_reducible first | exact HB.out | apply below_alloc | apply pw_below_drewN | apply below_drew1 | refine below_set ?_ GE132.out) | exact HB.out)) hb); clear BK132 HB; have BK132 := n0_; have HB := n1_; clear n0_ n1_; (try clear hb); (try clear hb2); (try clear hk); (try clear hi)) | ((with_reducible refine gate_callee (f := 25) rfl ?_); refine goesL_ (some 10) rfl rfl Tryd.func25 (by kernel_rfl) rfl #[.agg #[.string t134, .string t135]] rfl (by (try simp only [mA, mB, mC]); first | done | rfl | (simp only [List.length_drop, List.length_take]; rfl)) ?_; (with_reducible refine (names_Text.calls t134 t135 t136 _ A5.out).mono ?_); rintro e w56 ⟨rfl, hb⟩; refine ⟨_, rfl, ?_⟩; have n0_ := aM (blk_below (g := gb132) (o := .cells #[.int .i64 a0_0, .int .i64 a0_1, .string a0_2, .int .i64 a0_3, .string a0_4, .string a0_5, .string a0_6, .string a0_7, .string a0_8] 30 (0, 0)) (by (with_reducible repeat (first | refine bN ?_ _ | refine bD ?_ | refine bA ?_ _)); exact BK132.out) hb); have n1_ := aM (below_step (by repeat (first | (with_reducible first | exact HB.out | apply below_alloc | apply pw_below_drewN | apply below_drew1 | refine below_set ?_ GE132.out) | exact HB.out)) hb); clear BK132 HB; have BK132 := n0_; have HB := n1_; clear n0_ n1_; (try clear hb); (try clear hb2); (try clear hk); (try clear hi); obtain ⟨hcz57_0, hcz57_1, hcz57_2, hcz57_3, hcz57_4, hcz57_5, hcz57_6, hcz57_7, hcz57_8, hfz57_0, hfz57_1, hfz57_2, hfz57_3, hfz57_4, hfz57_5, hfz57_6, hfz57_7, hfz57_8⟩ := blk_all9 BK132.out) | ((with_reducible refine gate_callee (f := 25) rfl ?_); refine goesL_ (some 54) rfl rfl Tryd.func25 (by kernel_rfl) rfl #[.agg #[.string a0_5, .string a0_6]] rfl (by (try simp only [mA, mB, mC]); first | done | rfl | (simp only [List.length_drop, List.length_take]; rfl)) ?_; (with_reducible refine (names_Text.calls a0_5 a0_6 t140 _ A49.out).mono ?_); rintro e w58 ⟨rfl, hb⟩; refine ⟨_, rfl, ?_⟩; have n0_ := aM (blk_below (g := gb132) (o := .cells #[.int .i64 a0_0, .int .i64 a0_1, .string a0_2, .int .i64 a0_3, .string a0_4, .string a0_5, .string a0_6, .string a0_7, .string a0_8] 30 (0, 0)) (by (with_reducible repeat (first | refine bN ?_ _ | refine bD ?_ | refine bA ?_ _)); exact BK132.out) hb); have n1_ := aM (below_step (by repeat (first | (with_reducible first | exact HB.out | apply below_alloc | apply pw_below_drewN | apply below_drew1 | refine below_set ?_ GE132.out) | exact HB.out)) hb); clear BK132 HB; have BK132 := n0_; have HB := n1_; clear n0_ n1_; (try clear hb); (try clear hb2); (try clear hk); (try clear hi)))
                go_ret2
                exact ⟨by first | rfl | (simp [errW_none, errW_some] <;> rfl) | (simp [*, errW_none, errW_some] <;> rfl), by repeat (first | (with_reducible first | exact HB.out | apply below_alloc | apply pw_below_drewN | apply below_drew1 | refine below_set ?_ GE132.out) | exact HB.out)⟩
              · rw [if_neg c50] at H
                exact absurd H (by simp)
            · rw [if_neg c48] at H
              have c48b0 : (a0_3 == 2) = false := beq_eq_false_iff_ne.mpr c48
              have c48b1 : (a0_3 != 2) = true := bne_iff_ne.mpr c48
              simp only [Option.some.injEq, Prod.mk.injEq] at H
              obtain ⟨rfl, rfl⟩ := H
              go_enter Tryd.func17, Tryd.ntmps17
              go_wp2_with (first | ((with_reducible refine gate_dst (N := 1) rfl ?_); refine box_event ?hg (N := 1) ?hd (cs := #[.int .i64 a0_0, .int .i64 a0_1, .string a0_2, .int .i64 a0_3, .string a0_4, .string a0_5, .string a0_6, .string a0_7, .string a0_8]) (t := 30) ?hr ?_; (case hd => rfl); (case hg => rfl); (case hr => first | (go_simp; done) | (go_simp; rfl)); intro gb132 hg w59 hbox hb; have n0_ := aM (below_step (by repeat (first | (with_reducible first | exact HB.out | apply below_alloc | apply pw_below_drewN | apply below_drew1) | exact HB.out)) hb); have n1_ := aM (hbox); have n2_ := aM ((by rw [hg]; exact (below_size (by repeat (first | (with_reducible first | exact HB.out | apply below_alloc | apply pw_below_drewN | apply below_drew1) | exact HB.out))) : w.heap.size ≤ gb132)); have n3_ := n2_; clear HB; have HB := n0_; have BK132 := n1_; have GW132 := n2_; have GE132 := n3_; clear n0_ n1_ n2_ n3_; clear hb hbox hg; obtain ⟨hcz60_0, hcz60_1, hcz60_2, hcz60_3, hcz60_4, hcz60_5, hcz60_6, hcz60_7, hcz60_8, hfz60_0, hfz60_1, hfz60_2, hfz60_3, hfz60_4, hfz60_5, hfz60_6, hfz60_7, hfz60_8⟩ := blk_all9 BK132.out) | ((with_reducible refine gate_callee (f := 21) rfl ?_); refine goesL_ (some 6) rfl rfl Tryd.func21 (by kernel_rfl) rfl #[.agg #[.int .i64 a0_0, .int .i64 a0_1, .string a0_2, .int .i64 a0_3, .string a0_4, .string a0_5, .string a0_6, .string a0_7, .string a0_8]] rfl (by (try simp only [mA, mB, mC]); first | done | rfl | (simp only [List.length_drop, List.length_take]; rfl)) ?_; (with_reducible refine (cred_May.calls k a0_0 a0_1 a0_2 a0_3 a0_4 a0_5 a0_6 a0_7 a0_8 true _ A2.out).mono ?_); rintro e w61 ⟨rfl, hb⟩; refine ⟨_, rfl, ?_⟩; have n0_ := aM (blk_below (g := gb132) (o := .cells #[.int .i64 a0_0, .int .i64 a0_1, .string a0_2, .int .i64 a0_3, .string a0_4, .string a0_5, .string a0_6, .string a0_7, .string a0_8] 30 (0, 0)) (by (with_reducible repeat (first | refine bN ?_ _ | refine bD ?_ | refine bA ?_ _)); exact BK132.out) hb); have n1_ := aM (below_step (by repeat (first | (with_reducible first | exact HB.out | apply below_alloc | apply pw_below_drewN | apply below_drew1 | refine below_set ?_ GE132.out) | exact HB.out)) hb); clear BK132 HB; have BK132 := n0_; have HB := n1_; clear n0_ n1_; (try clear hb); (try clear hb2); (try clear hk); (try clear hi); obtain ⟨hcz62_0, hcz62_1, hcz62_2, hcz62_3, hcz62_4, hcz62_5, hcz62_6, hcz62_7, hcz62_8, hfz62_0, hfz62_1, hfz62_2, hfz62_3, hfz62_4, hfz62_5, hfz62_6, hfz62_7, hfz62_8⟩ := blk_all9 BK132.out) | ((with_reducible refine gate_callee (f := 20) rfl ?_); refine goesL_ (some 9) rfl rfl Tryd.func20 (by kernel_rfl) rfl #[.agg #[.int .i64 a0_0, .int .i64 a0_1, .string a0_2, .int .i64 a0_3, .string a0_4, .string a0_5, .string a0_6, .string a0_7, .string a0_8]] rfl (by (try simp only [mA, mB, mC]); first | done | rfl | (simp only [List.length_drop, List.length_take]; rfl)) ?_; (with_reducible refine (cred_Role.calls a0_0 a0_1 a0_2 a0_3 a0_4 a0_5 a0_6 a0_7 a0_8 t134 t135 _ A4.out).mono ?_); rintro e w63 ⟨rfl, hb⟩; refine ⟨_, rfl, ?_⟩; have n0_ := aM (blk_below (g := gb132) (o := .cells #[.int .i64 a0_0, .int .i64 a0_1, .string a0_2, .int .i64 a0_3, .string a0_4, .string a0_5, .string a0_6, .string a0_7, .string a0_8] 30 (0, 0)) (by (with_reducible repeat (first | refine bN ?_ _ | refine bD ?_ | refine bA ?_ _)); exact BK132.out) hb); have n1_ := aM (below_step (by repeat (first | (with_reducible first | exact HB.out | apply below_alloc | apply pw_below_drewN | apply below_drew1 | refine below_set ?_ GE132.out) | exact HB.out)) hb); clear BK132 HB; have BK132 := n0_; have HB := n1_; clear n0_ n1_; (try clear hb); (try clear hb2); (try clear hk); (try clear hi)) | ((with_reducible refine gate_callee (f := 25) rfl ?_); refine goesL_ (some 10) rfl rfl Tryd.func25 (by kernel_rfl) rfl #[.agg #[.string t134, .string t135]] rfl (by (try simp only [mA, mB, mC]); first | done | rfl | (simp only [List.length_drop, List.length_take]; rfl)) ?_; (with_reducible refine (names_Text.calls t134 t135 t136 _ A5.out).mono ?_); rintro e w64 ⟨rfl, hb⟩; refine ⟨_, rfl, ?_⟩; have n0_ := aM (blk_below (g := gb132) (o := .cells #[.int .i64 a0_0, .int .i64 a0_1, .string a0_2, .int .i64 a0_3, .string a0_4, .string a0_5, .string a0_6, .string a0_7, .string a0_8] 30 (0, 0)) (by (with_reducible repeat (first | refine bN ?_ _ | refine bD ?_ | refine bA ?_ _)); exact BK132.out) hb); have n1_ := aM (below_step (by repeat (first | (with_reducible first | exact HB.out | apply below_alloc | apply pw_below_drewN | apply below_drew1 | refine below_set ?_ GE132.out) | exact HB.out)) hb); clear BK132 HB; have BK132 := n0_; have HB := n1_; clear n0_ n1_; (try clear hb); (try clear hb2); (try clear hk); (try clear hi); obtain ⟨hcz65_0, hcz65_1, hcz65_2, hcz65_3, hcz65_4, hcz65_5, hcz65_6, hcz65_7, hcz65_8, hfz65_0, hfz65_1, hfz65_2, hfz65_3, hfz65_4, hfz65_5, hfz65_6, hfz65_7, hfz65_8⟩ := blk_all9 BK132.out))
              go_ret2
              exact ⟨by first | rfl | (simp [errW_none, errW_some] <;> rfl) | (simp [*, errW_none, errW_some] <;> rfl), by repeat (first | (with_reducible first | exact HB.out | apply below_alloc | apply pw_below_drewN | apply below_drew1 | refine below_set ?_ GE132.out) | exact HB.out)⟩
    · rw [if_neg c6] at H
      exact absurd H (by simp)
  · replace c3 := Bool.eq_false_iff.mpr c3
    subst c3
    have H1 : (some ((⟨#[]⟩ : ByteArray), 11)) = some (r1, r2) := by rw [if_neg (show ¬ (false = true) by decide)] at H; exact H
    clear H
    have H := H1
    clear H1
    simp only [Option.some.injEq, Prod.mk.injEq] at H
    obtain ⟨rfl, rfl⟩ := H
    go_enter Tryd.func17, Tryd.ntmps17
    go_wp2_with (first | ((with_reducible refine gate_dst (N := 1) rfl ?_); refine box_event ?hg (N := 1) ?hd (cs := #[.int .i64 a0_0, .int .i64 a0_1, .string a0_2, .int .i64 a0_3, .string a0_4, .string a0_5, .string a0_6, .string a0_7, .string a0_8]) (t := 30) ?hr ?_; (case hd => rfl); (case hg => rfl); (case hr => first | (go_simp; done) | (go_simp; rfl)); intro gb132 hg w66 hbox hb; have n0_ := aM (below_step (by repeat (first | (with_reducible first | exact HB.out | apply below_alloc | apply pw_below_drewN | apply below_drew1) | exact HB.out)) hb); have n1_ := aM (hbox); have n2_ := aM ((by rw [hg]; exact (below_size (by repeat (first | (with_reducible first | exact HB.out | apply below_alloc | apply pw_below_drewN | apply below_drew1) | exact HB.out))) : w.heap.size ≤ gb132)); have n3_ := n2_; clear HB; have HB := n0_; have BK132 := n1_; have GW132 := n2_; have GE132 := n3_; clear n0_ n1_ n2_ n3_; clear hb hbox hg; obtain ⟨hcz67_0, hcz67_1, hcz67_2, hcz67_3, hcz67_4, hcz67_5, hcz67_6, hcz67_7, hcz67_8, hfz67_0, hfz67_1, hfz67_2, hfz67_3, hfz67_4, hfz67_5, hfz67_6, hfz67_7, hfz67_8⟩ := blk_all9 BK132.out) | ((with_reducible refine gate_callee (f := 21) rfl ?_); refine goesL_ (some 6) rfl rfl Tryd.func21 (by kernel_rfl) rfl #[.agg #[.int .i64 a0_0, .int .i64 a0_1, .string a0_2, .int .i64 a0_3, .string a0_4, .string a0_5, .string a0_6, .string a0_7, .string a0_8]] rfl (by (try simp only [mA, mB, mC]); first | done | rfl | (simp only [List.length_drop, List.length_take]; rfl)) ?_; (with_reducible refine (cred_May.calls k a0_0 a0_1 a0_2 a0_3 a0_4 a0_5 a0_6 a0_7 a0_8 false _ A2.out).mono ?_); rintro e w68 ⟨rfl, hb⟩; refine ⟨_, rfl, ?_⟩; have n0_ := aM (blk_below (g := gb132) (o := .cells #[.int .i64 a0_0, .int .i64 a0_1, .string a0_2, .int .i64 a0_3, .string a0_4, .string a0_5, .string a0_6, .string a0_7, .string a0_8] 30 (0, 0)) (by (with_reducible repeat (first | refine bN ?_ _ | refine bD ?_ | refine bA ?_ _)); exact BK132.out) hb); have n1_ := aM (below_step (by repeat (first | (with_reducible first | exact HB.out | apply below_alloc | apply pw_below_drewN | apply below_drew1 | refine below_set ?_ GE132.out) | exact HB.out)) hb); clear BK132 HB; have BK132 := n0_; have HB := n1_; clear n0_ n1_; (try clear hb); (try clear hb2); (try clear hk); (try clear hi)))
    go_ret2
    exact ⟨by first | rfl | (simp [errW_none, errW_some] <;> rfl) | (simp [*, errW_none, errW_some] <;> rfl), by repeat (first | (with_reducible first | exact HB.out | apply below_alloc | apply pw_below_drewN | apply below_drew1 | refine below_set ?_ GE132.out) | exact HB.out)⟩

end Go.Proofs.YtmlopbhlmgfknaaDoor.P
