/- The plain law of layer 5: a credential that is read, with no program in sight. -/
import Derived.Test.YtpnmmkoiemeodaaDoorC5
import Derived.Test.YtpnmmkoiemeodaaDoorNPure
import Derived.Test.YtpnmmkoiemeodaaDoorP0
import Derived.Test.YtpnmmkoiemeodaaDoorHArgs
import Derived.Test.YtpnmmkoiemeodaaDoorHNumR
import Derived.Test.YtpnmmkoiemeodaaDoorNText
import Derived.Test.YtpnmmkoiemeodaaDoorWReadP
import Derived.Test.YtpnmmkoiemeodaaDoorHCursorR
import Derived.Test.YtpnmmkoiemeodaaDoorP33
import Derived.Test.YtpnmmkoiemeodaaDoorP36
namespace Go.Proofs.YtpnmmkoiemeodaaDoor.P
open Go.RowKit Go.Proofs.YtpnmmkoiemeodaaDoorW.PrintWords Go.Proofs.YtpnmmkoiemeodaaDoorW.PrintLast Go.Proofs.YtpnmmkoiemeodaaDoorW.PrintMore
set_option linter.unusedVariables false
set_option linter.unusedSimpArgs false
abbrev CredT := Int × Int × ByteArray × Int × ByteArray × ByteArray × ByteArray × ByteArray × ByteArray × Int × Int
theorem textAt_place (b : List Int) (p e most : Int) (hb : okB b = true) (h0 : 0 ≤ p) (h1 : p ≤ (b.length : Int)) (hl : b.length ≤ 1000000000) : 0 ≤ (textAt b p e most).2.1 ∧ (textAt b p e most).2.1 ≤ (b.length : Int) := by
  have k1 := numAt_place b p e 0 most hb h0 h1 (by omega)
  have k2 := numAt_ok b p 0 most hb h0 h1 (by omega)
  by_cases he : e = 0
  · subst he
    unfold textAt
    by_cases hn : (numAt b p 0 0 most).2.2 = 0
    · rw [if_pos hn]
      have k3 := k2 hn
      split
      · exact ⟨h0, h1⟩
      · simp only
        rw [w64 (by omega) (by omega)]
        omega
    · rw [if_neg hn]; exact k1
  · rw [textAt_err b p e most he]; exact ⟨h0, h1⟩
theorem num_eq (b : List Int) (p e a1 a2 : Int) (hb : okB b = true) (h0 : 0 ≤ p) (h1 : p ≤ (b.length : Int)) : wire_Cursor_Number.f b p e a1 a2 = some (numAt b p e a1 a2) := by unfold wire_Cursor_Number.f; rw [if_pos hb, if_pos h0, if_pos h1]
theorem text_eq (b : List Int) (p e a1 : Int) (hb : okB b = true) (h0 : 0 ≤ p) (h1 : p ≤ (b.length : Int)) : wire_Cursor_Text.f b p e a1 = some (textAt b p e a1) := by unfold wire_Cursor_Text.f; rw [if_pos hb, if_pos h0, if_pos h1]
def nameAt (b : List Int) (p e : Int) : ByteArray × Int × Int := if mayB (textAt b p e 8).1 = true then textAt b p e 8 else ((textAt b p e 8).1, (textAt b p e 8).2.1, if (textAt b p e 8).2.2 = 0 then 2 else (textAt b p e 8).2.2)
theorem nameAt_place (b : List Int) (p e : Int) (hb : okB b = true) (h0 : 0 ≤ p) (h1 : p ≤ (b.length : Int)) (hl : b.length ≤ 1000000) : 0 ≤ (nameAt b p e).2.1 ∧ (nameAt b p e).2.1 ≤ (b.length : Int) := by
  have := textAt_place b p e 8 hb h0 h1 (by omega)
  unfold nameAt
  split <;> exact this
theorem name_eq (b : List Int) (p e : Int) (hb : okB b = true) (h0 : 0 ≤ p) (h1 : p ≤ (b.length : Int)) : cred_name.f b p e = some (nameAt b p e) := by
  unfold cred_name.f nameAt
  rw [text_eq b p e 8 hb h0 h1]
  simp only [Option.bind_some, names_May.f, wire_Cursor_Fail.f]
  split
  · rfl
  · split <;> rfl
def roleAt (b : List Int) (p e : Int) : ByteArray × ByteArray × Int × Int := (domB (numAt b p e 1 16).1, (nameAt b (numAt b p e 1 16).2.1 (numAt b p e 1 16).2.2).1, (nameAt b (numAt b p e 1 16).2.1 (numAt b p e 1 16).2.2).2.1, (nameAt b (numAt b p e 1 16).2.1 (numAt b p e 1 16).2.2).2.2)
theorem roleAt_place (b : List Int) (p e : Int) (hb : okB b = true) (h0 : 0 ≤ p) (h1 : p ≤ (b.length : Int)) (hl : b.length ≤ 1000000) : 0 ≤ (roleAt b p e).2.2.1 ∧ (roleAt b p e).2.2.1 ≤ (b.length : Int) := by
  have q := numAt_place b p e 1 16 hb h0 h1 (by omega)
  exact nameAt_place b _ _ hb q.1 q.2 hl
theorem role_eq (b : List Int) (p e : Int) (hb : okB b = true) (h0 : 0 ≤ p) (h1 : p ≤ (b.length : Int)) (hl : b.length ≤ 1000000) : cred_readRole.f b p e = some (roleAt b p e) := by
  have q := numAt_place b p e 1 16 hb h0 h1 (by omega)
  unfold cred_readRole.f roleAt
  rw [num_eq b p e 1 16 hb h0 h1]
  simp only [Option.bind_some, names_Domain_eq]
  rw [name_eq b _ _ hb q.1 q.2]
  rfl
def finR (d q : Int) (n : ByteArray) (k : Int) (w ao an bo bn : ByteArray) (p e : Int) : CredT := if e = 0 then (d, q, n, k, w, ao, an, bo, bn, p, e) else (0, 0, ⟨#[]⟩, 0, ⟨#[]⟩, ⟨#[]⟩, ⟨#[]⟩, ⟨#[]⟩, ⟨#[]⟩, p, e)
/-- What follows a credential's kind. -/
def restC (b : List Int) (d q : Int) (n : ByteArray) (k p e : Int) : CredT :=
  if k = 1 then finR d q n k (nameAt b p e).1 ⟨#[]⟩ ⟨#[]⟩ ⟨#[]⟩ ⟨#[]⟩ (nameAt b p e).2.1 (nameAt b p e).2.2
  else if k = 3 then finR d q n k ⟨#[]⟩ ⟨#[]⟩ (nameAt b p e).1 ⟨#[]⟩ (nameAt b (nameAt b p e).2.1 (nameAt b p e).2.2).1 (nameAt b (nameAt b p e).2.1 (nameAt b p e).2.2).2.1 (nameAt b (nameAt b p e).2.1 (nameAt b p e).2.2).2.2
  else if k = 4 then finR d q n k ⟨#[]⟩ (roleAt b p e).1 (roleAt b p e).2.1 (roleAt b (roleAt b p e).2.2.1 (roleAt b p e).2.2.2).1 (roleAt b (roleAt b p e).2.2.1 (roleAt b p e).2.2.2).2.1 (roleAt b (roleAt b p e).2.2.1 (roleAt b p e).2.2.2).2.2.1 (roleAt b (roleAt b p e).2.2.1 (roleAt b p e).2.2.2).2.2.2
  else if k = 2 then finR d q n k ⟨#[]⟩ (roleAt b p e).1 (roleAt b p e).2.1 ⟨#[]⟩ ⟨#[]⟩ (roleAt b p e).2.2.1 (roleAt b p e).2.2.2
  else finR d q n k ⟨#[]⟩ ⟨#[]⟩ ⟨#[]⟩ ⟨#[]⟩ ⟨#[]⟩ p e
def headC (b : List Int) (p e : Int) : (Int × Int × Int) × (Int × Int × Int) × (ByteArray × Int × Int) × (Int × Int × Int) :=
  (fun t1 => (fun t2 => (fun t3 => (t1, t2, t3, numAt b t3.2.1 t3.2.2 1 4)) (nameAt b t2.2.1 t2.2.2)) (numAt b t1.2.1 t1.2.2 1 4000)) (numAt b p e 1 16)
def readC (b : List Int) (p e : Int) : CredT := (fun h => restC b h.1.1 h.2.1.1 h.2.2.1.1 h.2.2.2.1 h.2.2.2.2.1 h.2.2.2.2.2) (headC b p e)
theorem cred_Read_eq (b : List Int) (p e : Int) (hb : okB b = true) (h0 : 0 ≤ p) (h1 : p ≤ (b.length : Int)) (hl : b.length ≤ 1000000) : cred_Read.f b p e = some (readC b p e) := by
  unfold readC headC cred_Read.f
  have q1 := numAt_place b p e 1 16 hb h0 h1 (by omega)
  rw [num_eq b p e 1 16 hb h0 h1]
  simp only [Option.bind_some]
  generalize numAt b p e 1 16 = t1 at *
  have q2 := numAt_place b t1.2.1 t1.2.2 1 4000 hb q1.1 q1.2 (by omega)
  rw [num_eq b _ _ 1 4000 hb q1.1 q1.2]
  simp only [Option.bind_some]
  generalize numAt b t1.2.1 t1.2.2 1 4000 = t2 at *
  have q3 := nameAt_place b t2.2.1 t2.2.2 hb q2.1 q2.2 hl
  rw [name_eq b _ _ hb q2.1 q2.2]
  simp only [Option.bind_some]
  generalize nameAt b t2.2.1 t2.2.2 = t3 at *
  have q4 := numAt_place b t3.2.1 t3.2.2 1 4 hb q3.1 q3.2 (by omega)
  rw [num_eq b _ _ 1 4 hb q3.1 q3.2]
  simp only [Option.bind_some]
  generalize numAt b t3.2.1 t3.2.2 1 4 = t4 at *
  have q5 := nameAt_place b t4.2.1 t4.2.2 hb q4.1 q4.2 hl
  have q6 := roleAt_place b t4.2.1 t4.2.2 hb q4.1 q4.2 hl
  unfold restC
  rw [name_eq b t4.2.1 t4.2.2 hb q4.1 q4.2, role_eq b t4.2.1 t4.2.2 hb q4.1 q4.2 hl]
  simp only [Option.bind_some]
  rw [name_eq b _ _ hb q5.1 q5.2, role_eq b _ _ hb q6.1 q6.2 hl]
  simp only [Option.bind_some, wire_Cursor_Err.f, finR]
  repeat' split
  all_goals first | rfl | (exfalso; omega)
end Go.Proofs.YtpnmmkoiemeodaaDoor.P
