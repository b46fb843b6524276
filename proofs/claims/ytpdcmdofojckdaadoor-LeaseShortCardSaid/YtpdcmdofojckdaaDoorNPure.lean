/- The plain law of layer 4, first part: domains and roles, with no program in sight. -/
import Derived.Test.YtpdcmdofojckdaaDoorHMay
import Derived.Test.YtpdcmdofojckdaaDoorHNumR
import Derived.Test.YtpdcmdofojckdaaDoorP10
import Derived.Test.YtpdcmdofojckdaaDoorP10
namespace Go.Proofs.YtpdcmdofojckdaaDoor.P
open Go.RowKit Go.Proofs.YtpdcmdofojckdaaDoorW.PrintWords Go.Proofs.YtpdcmdofojckdaaDoorW.PrintLast Go.Proofs.YtpdcmdofojckdaaDoorW.PrintMore
set_option linter.unusedVariables false
set_option linter.unusedSimpArgs false
theorem bytes_inj {a b : ByteArray} (h : a.toList = b.toList) : a = b := by
  rw [ByteArray.toList_eq, ByteArray.toList_eq] at h
  exact ByteArray.ext (Array.toList_inj.1 h)
theorem toList_iff {a b : ByteArray} : a.toList = b.toList ↔ a = b := ⟨bytes_inj, fun h => by rw [h]⟩
theorem w64' {x : Int} (h0 : -9223372036854775808 ≤ x) (h1 : x ≤ 9223372036854775807) : wrap64 x = x := by unfold wrap64; omega
/-! ### the domain of a name -/
theorem numR_dn : ∀ n : Fin 17, n.val ≠ 0 → numR (dn n.val) = (n.val : Int) := by decide +kernel
theorem dn_list : ∀ n : Fin 17, n.val ≠ 0 → (dn n.val).data.toList = if n.val < 10 then [100, UInt8.ofNat (48 + n.val)] else [100, 49, UInt8.ofNat (38 + n.val)] := by decide +kernel
theorem list_size (s : ByteArray) : s.data.toList.length = s.size := rfl
theorem bt_list (s : ByteArray) (i : Nat) (h : i < s.size) : s.data.toList[i]? = some (UInt8.ofNat (bt s i).toNat) := by
  have e : s.data.toList[i]? = some (s[i]'h) := by rw [List.getElem?_eq_getElem (show i < s.data.toList.length from h)]; rfl
  rw [e]
  have := bt_at s i (by simpa using h)
  simp only [Int.toNat_natCast] at this
  rw [← this]
  simp
theorem numR_le (s : ByteArray) : 0 ≤ numR s ∧ numR s ≤ 16 := by
  have b1 := bt_range s 1
  have b2 := bt_range s 2
  unfold numR
  repeat' split
  all_goals omega
theorem numR_back (s : ByteArray) (h : numR s ≠ 0) : s = dn (numR s).toNat := by
  have hle := numR_le s
  have hd := dn_list ⟨(numR s).toNat, by omega⟩ (by show (numR s).toNat ≠ 0; omega)
  simp only at hd
  apply ByteArray.ext
  apply Array.toList_inj.1
  rw [hd]
  have b1 := bt_range s 1
  have b2 := bt_range s 2
  clear hd
  by_cases h1 : s.size < 2 ∨ 3 < s.size
  · exfalso; apply h; unfold numR; rw [if_pos h1]
  by_cases h2 : bt s 0 ≠ 100 ∨ bt s 1 < 49 ∨ 57 < bt s 1
  · exfalso; apply h; unfold numR; rw [if_neg h1, if_pos h2]
  have g0 := bt_list s 0 (by omega)
  have g1 := bt_list s 1 (by omega)
  simp only [show ((0 : Nat) : Int) = 0 from rfl, show ((1 : Nat) : Int) = 1 from rfl] at g0 g1
  by_cases h3 : s.size = 3
  · by_cases h4 : bt s 2 < 48 ∨ 57 < bt s 2
    · exfalso; apply h; unfold numR; rw [if_neg h1, if_neg h2, if_pos h3, if_pos h4]
    by_cases h5 : 16 < 10 * (bt s 1 - 48) + (bt s 2 - 48)
    · exfalso; apply h; unfold numR; rw [if_neg h1, if_neg h2, if_pos h3, if_neg h4, if_pos h5]
    have e : numR s = 10 * (bt s 1 - 48) + (bt s 2 - 48) := by unfold numR; rw [if_neg h1, if_neg h2, if_pos h3, if_neg h4, if_neg h5]
    have g2 := bt_list s 2 (by omega)
    simp only [show ((2 : Nat) : Int) = 2 from rfl] at g2
    have e49 : bt s 1 = 49 := by omega
    rw [if_neg (by omega)]
    match hm : s.data.toList, (show s.data.toList.length = 3 from h3) with
    | [x, y, z], _ =>
      rw [hm] at g0 g1 g2
      simp at g0 g1 g2
      rw [g0, g1, g2, e49, show bt s 0 = 100 by omega]
      have : (numR s).toNat + 38 = (bt s 2).toNat := by omega
      rw [Nat.add_comm] at this
      rw [this]
      rfl
  · have e : numR s = bt s 1 - 48 := by unfold numR; rw [if_neg h1, if_neg h2, if_neg h3]
    rw [if_pos (by omega)]
    match hm : s.data.toList, (show s.data.toList.length = 2 by rw [list_size]; omega) with
    | [x, y], _ =>
      rw [hm] at g0 g1
      simp at g0 g1
      rw [g0, g1, show bt s 0 = 100 by omega]
      have : 48 + (numR s).toNat = (bt s 1).toNat := by omega
      rw [this]
      rfl
theorem dn_eq_iff (n : Nat) (h0 : 1 ≤ n) (h1 : n ≤ 16) (s : ByteArray) : dn n = s ↔ numR s = (n : Int) := by
  constructor
  · rintro rfl
    exact numR_dn ⟨n, by omega⟩ (by show n ≠ 0; omega)
  · intro h
    rw [numR_back s (by omega), h, Int.toNat_natCast]
theorem names_Number_loop (s : ByteArray) : ∀ (n k i : Nat), 1 ≤ i → i + n = 17 → n < k → names_Number.l0 k s (i : Int) = some (if (i : Int) ≤ numR s then numR s else 0) := by
  have hle := numR_le s
  intro n
  induction n with
  | zero =>
    intro k i h1 hn hk
    obtain ⟨k, rfl⟩ : ∃ m, k = m + 1 := ⟨k - 1, by omega⟩
    simp only [names_Number.l0]
    rw [if_neg (by omega), if_neg (by omega)]
  | succ n ih =>
    intro k i h1 hn hk
    obtain ⟨k, rfl⟩ : ∃ m, k = m + 1 := ⟨k - 1, by omega⟩
    simp only [names_Number.l0, names_Domain.f]
    rw [if_pos (by omega), if_pos (by omega)]
    simp only [Option.bind_some, Int.toNat_natCast, toList_iff, dn_eq_iff i (by omega) (by omega)]
    rw [w64' (by omega) (by omega), show (i : Int) + 1 = ((i + 1 : Nat) : Int) by omega, ih k (i + 1) (by omega) (by omega) (by omega)]
    repeat' split
    all_goals first | rfl | (congr 1; omega) | (exfalso; omega)
theorem names_Number_eq (k : Nat) (s : ByteArray) (hk : 20 < k) : names_Number.f k s = some (numR s) := by
  have hle := numR_le s
  unfold names_Number.f
  have := names_Number_loop s 16 k 1 (by omega) (by omega) (by omega)
  rw [show ((1 : Nat) : Int) = 1 from rfl] at this
  rw [this]
  congr 1
  split <;> omega
def roleB (o n : ByteArray) : Bool := decide (0 < numR o) && mayB n
theorem names_Role_eq (k : Nat) (o n : ByteArray) (hk : 20 < k) : names_Role.f k o n = some (roleB o n) := by
  unfold names_Role.f roleB
  rw [names_Number_eq k o hk]
  simp only [Option.bind_some, names_May.f]
  split
  · rename_i h
    have : 0 < numR o := h
    simp [this]
  · rename_i h
    have : ¬ 0 < numR o := h
    simp [this]
end Go.Proofs.YtpdcmdofojckdaaDoor.P
