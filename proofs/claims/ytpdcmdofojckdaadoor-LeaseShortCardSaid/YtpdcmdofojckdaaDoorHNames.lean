/- Contracts, typed by hand: a domain's name. -/
import Derived.Test.YtpdcmdofojckdaaDoorHShelf
import Derived.Test.YtpdcmdofojckdaaDoorP0
import Derived.Outline
import Derived.BigQuiet
import Derived.Deep.QuietTactic
namespace Go.Proofs.YtpdcmdofojckdaaDoor.P
open Go.RowKit Go.Proofs.YtpdcmdofojckdaaDoorW.PrintWords Go.Proofs.YtpdcmdofojckdaaDoorW.PrintLast Go.Proofs.YtpdcmdofojckdaaDoorW.PrintMore
set_option linter.unusedVariables false
set_option linter.unusedSimpArgs false
/-- The name of a domain, as the program makes it. -/
def dn (n : Nat) : ByteArray := ⟨#[100]⟩ ++ ⟨(Lib.decDigits n).toArray⟩
def names_Domain.f (a0 : Int) : Option ByteArray := some (if 1 ≤ a0 ∧ a0 ≤ 16 then dn a0.toNat else ⟨#[]⟩)
theorem names_Domain.calls (a0 : Int) (r : ByteArray) (w : World) (h : names_Domain.f a0 = some r) :
    Calls Tryd.prog 48 #[.int .i64 a0] w fun e w' => e = .returned (.string r) ∧ Below w.heap.size w w' := by
  cases h
  by_cases h1 : a0 < 1
  · rw [if_neg (by omega)]
    have c1 := decide_eq_true h1
    go_enter Tryd.func48, Tryd.ntmps48
    go_wp2_with fail
    go_ret
    exact ⟨rfl, Below.refl _ _⟩
  · by_cases h2 : 16 < a0
    · rw [if_neg (by omega)]
      have c1 := decide_eq_false h1
      have c2 := decide_eq_true h2
      go_enter Tryd.func48, Tryd.ntmps48
      go_wp2_with fail
      go_ret
      exact ⟨rfl, Below.refl _ _⟩
    · rw [if_pos (by omega)]
      obtain ⟨n, rfl⟩ : ∃ n : Nat, a0 = (n : Int) := ⟨a0.toNat, by omega⟩
      have c1 := decide_eq_false h1
      have c2 := decide_eq_false h2
      have hn : n < 100 := by omega
      have hs : (⟨(Lib.decDigits n).toArray⟩ : ByteArray).size ≤ 10 := by
        have : ∀ m : Fin 100, (⟨(Lib.decDigits m.val).toArray⟩ : ByteArray).size ≤ 10 := by decide +kernel
        exact this ⟨n, hn⟩
      rw [Int.toNat_natCast]
      unfold dn
      have HC := Aside0.mk (Tryd.strconv_Itoa_small n hn w)
      generalize (⟨(Lib.decDigits n).toArray⟩ : ByteArray) = s at hs HC ⊢
      go_enter Tryd.func48, Tryd.ntmps48
      go_wp2_with fail
      refine HC.out.mono ?_
      rintro e w' ⟨rfl, rfl⟩
      go_wp2_with fail
      go_ret
      exact ⟨rfl, Below.refl _ _⟩
end Go.Proofs.YtpdcmdofojckdaaDoor.P
