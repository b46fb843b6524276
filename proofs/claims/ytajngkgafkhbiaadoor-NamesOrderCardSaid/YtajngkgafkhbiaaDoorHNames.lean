/- Contracts, typed by hand: a domain's name; a text cut at a point. -/
import Derived.Test.YtajngkgafkhbiaaDoorHShelf
import Derived.Test.YtajngkgafkhbiaaDoorP0
import Derived.Outline
import Derived.BigQuiet
import Derived.Deep.QuietTactic
namespace Go.Proofs.YtajngkgafkhbiaaDoor.P
open Go.RowKit Go.Proofs.YtajngkgafkhbiaaDoorW.PrintWords Go.Proofs.YtajngkgafkhbiaaDoorW.PrintLast Go.Proofs.YtajngkgafkhbiaaDoorW.PrintMore
set_option linter.unusedVariables false
set_option linter.unusedSimpArgs false
/-- The name of a domain, as the program makes it. -/
def dn (n : Nat) : ByteArray := ⟨#[100]⟩ ++ ⟨(Lib.decDigits n).toArray⟩
def names_Domain.f (a0 : Int) : Option ByteArray := some (if 1 ≤ a0 ∧ a0 ≤ 16 then dn a0.toNat else ⟨#[]⟩)
theorem names_Domain.calls (a0 : Int) (r : ByteArray) (w : World) (h : names_Domain.f a0 = some r) :
    Calls Tryd.prog 16 #[.int .i64 a0] w fun e w' => e = .returned (.string r) ∧ Below w.heap.size w w' := by
  cases h
  by_cases h1 : a0 < 1
  · rw [if_neg (by omega)]
    have c1 := decide_eq_true h1
    go_enter Tryd.func16, Tryd.ntmps16
    go_wp2_with fail
    go_ret
    exact ⟨rfl, Below.refl _ _⟩
  · by_cases h2 : 16 < a0
    · rw [if_neg (by omega)]
      have c1 := decide_eq_false h1
      have c2 := decide_eq_true h2
      go_enter Tryd.func16, Tryd.ntmps16
      go_wp2_with fail
      go_ret
      exact ⟨rfl, Below.refl _ _⟩
    · rw [if_pos (by omega)]
      obtain ⟨n, rfl⟩ : ∃ n : Nat, a0 = (n : Int) := ⟨a0.toNat, by omega⟩
      have c1 := decide_eq_false h1
      have c2 := decide_eq_false h2
      have hn : n < 100 := by omega
      have hs : (⟨(Lib.decDigits n).toArray⟩ : ByteArray).size ≤ 10 := by
        have : ∀ m : Fin 100, (⟨(Lib.decDigits m.val).toArray⟩ : ByteArray).size ≤ 10 := by decide +kernel
        exact this ⟨n, hn⟩
      rw [Int.toNat_natCast]
      unfold dn
      have HC := Aside0.mk (Tryd.strconv_Itoa_small n hn w)
      generalize (⟨(Lib.decDigits n).toArray⟩ : ByteArray) = s at hs HC ⊢
      go_enter Tryd.func16, Tryd.ntmps16
      go_wp2_with fail
      refine HC.out.mono ?_
      rintro e w' ⟨rfl, rfl⟩
      go_wp2_with fail
      go_ret
      exact ⟨rfl, Below.refl _ _⟩
/-- A text cut at the first point. -/
def strings_Cut.f (a0 a1 : ByteArray) : Option (ByteArray × ByteArray × Bool) := if a1 = ⟨#[46]⟩ then (if a0.size ≤ 140737488355328 then some (if 0 ≤ Lib.indexByte a0.data.toList 46 then (a0.extract 0 (Lib.indexByte a0.data.toList 46).toNat, a0.extract ((Lib.indexByte a0.data.toList 46).toNat + 1) a0.size, true) else (a0, ⟨#[]⟩, false)) else none) else none
theorem indexByte_lt : ∀ (l : List UInt8) (c : UInt8), Lib.indexByte l c < (l.length : Int)
  | [], c => by simp [Lib.indexByte]
  | b :: l, c => by
    have h := indexByte_lt l c
    rw [Lib.indexByte, List.length_cons]
    split
    · omega
    · split <;> omega
theorem stringslite_Cut.calls (a0 : ByteArray) (w : World) (hs : a0.size ≤ 140737488355328) :
    Calls Tryd.prog 27 #[.string a0, .string ⟨#[46]⟩] w fun e w' => e = .returned (if 0 ≤ Lib.indexByte a0.data.toList 46 then .tuple #[.string (a0.extract 0 (Lib.indexByte a0.data.toList 46).toNat), .string (a0.extract ((Lib.indexByte a0.data.toList 46).toNat + 1) a0.size), .bool true] else .tuple #[.string a0, .string ⟨#[]⟩, .bool false]) ∧ Drawn0 w w' := by
  have HC := Aside0.mk (Tryd.stringslite_Index_one a0 46 w)
  have hg := Lib.indexByte_ge a0.data.toList 46
  have hl := indexByte_lt a0.data.toList 46
  have hsz : a0.data.toList.length = a0.size := Array.length_toList
  rw [hsz] at hl
  generalize Lib.indexByte a0.data.toList 46 = i at HC hg hl ⊢
  by_cases h : 0 ≤ i
  · obtain ⟨n, rfl⟩ : ∃ n : Nat, i = (n : Int) := ⟨i.toNat, by omega⟩
    rw [if_pos h, Int.toNat_natCast]
    have k1 := decide_eq_true h
    have c1 : (n : Int) ≤ (a0.size : Int) := by omega
    have c2 : (0 : Int) ≤ (n : Int) + 1 := by omega
    have c3 : (n : Int) + 1 ≤ (a0.size : Int) := by omega
    have c4 : wrap64 ((n : Int) + 1) = (n : Int) + 1 := by unfold wrap64; omega
    go_enter Tryd.func27, Tryd.ntmps27
    go_wp2_with fail
    refine HC.out.mono ?_
    rintro e w' ⟨rfl, rfl⟩
    go_wp2_with fail
    go_region
    go_wp2_with fail
    go_ret3
    exact ⟨rfl, ⟨⟨_, rfl⟩⟩⟩
  · rw [if_neg h]
    have k1 := decide_eq_false h
    go_enter Tryd.func27, Tryd.ntmps27
    go_wp2_with fail
    refine HC.out.mono ?_
    rintro e w' ⟨rfl, rfl⟩
    go_wp2_with fail
    go_ret3
    exact ⟨rfl, Drawn0.refl _⟩
theorem strings_Cut.calls (a0 a1 : ByteArray) (r1 r2 : ByteArray) (r3 : Bool) (w : World) (h : strings_Cut.f a0 a1 = some (r1, r2, r3)) :
    Calls Tryd.prog 25 #[.string a0, .string a1] w fun e w' => e = .returned (.tuple #[.string r1, .string r2, .bool r3]) ∧ Drawn0 w w' := by
  unfold strings_Cut.f at h
  by_cases h1 : a1 = ⟨#[46]⟩
  case neg => rw [if_neg h1] at h; cases h
  by_cases h2 : a0.size ≤ 140737488355328
  case neg => rw [if_pos h1, if_neg h2] at h; cases h
  rw [if_pos h1, if_pos h2] at h
  subst h1
  have HC := Aside0.mk (stringslite_Cut.calls a0 w h2)
  have e : (if 0 ≤ Lib.indexByte a0.data.toList 46 then Value.tuple #[.string (a0.extract 0 (Lib.indexByte a0.data.toList 46).toNat), .string (a0.extract ((Lib.indexByte a0.data.toList 46).toNat + 1) a0.size), .bool true] else .tuple #[.string a0, .string ⟨#[]⟩, .bool false]) = .tuple #[.string r1, .string r2, .bool r3] := by
    by_cases h3 : 0 ≤ Lib.indexByte a0.data.toList 46
    · rw [if_pos h3] at h ⊢; cases h; rfl
    · rw [if_neg h3] at h ⊢; cases h; rfl
  rw [e] at HC
  clear h e h2
  go_enter Tryd.func25, Tryd.ntmps25
  go_wp2_with fail
  refine HC.out.mono ?_
  rintro e w' ⟨rfl, ⟨⟨n, rfl⟩⟩⟩
  go_wp2_with fail
  go_ret3
  exact ⟨rfl, ⟨⟨_, rfl⟩⟩⟩
end Go.Proofs.YtajngkgafkhbiaaDoor.P
