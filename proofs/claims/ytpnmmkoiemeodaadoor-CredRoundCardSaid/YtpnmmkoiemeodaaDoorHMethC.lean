/- Cursors, two at once: the methods that a credential's reading calls. -/
import Derived.Test.YtpnmmkoiemeodaaDoorHWord
import Derived.Test.YtpnmmkoiemeodaaDoorHState
import Derived.Test.YtpnmmkoiemeodaaDoorP29
import Derived.Test.YtpnmmkoiemeodaaDoorP40
import Derived.Test.YtpnmmkoiemeodaaDoorP35
import Derived.Test.YtpnmmkoiemeodaaDoorP0
import Derived.Test.YtpnmmkoiemeodaaDoorP36
import Derived.Test.YtpnmmkoiemeodaaDoorHArgs
import Derived.Test.YtpnmmkoiemeodaaDoorHCursorR
namespace Go.Proofs.YtpnmmkoiemeodaaDoor.P
open Go.RowKit Go.Proofs.YtpnmmkoiemeodaaDoorW.PrintWords Go.Proofs.YtpnmmkoiemeodaaDoorW.PrintLast Go.Proofs.YtpnmmkoiemeodaaDoorW.PrintMore
set_option linter.unusedVariables false
set_option linter.unusedSimpArgs false
theorem C_keep {w w' : World} {A : Option Addr} {n : Nat} {l : List Int} (h : (Kd.int .u8).C w A n l) {g : Nat} (hs : StateBlk w g) (hk : KeepBut w w' g none) : (Kd.int .u8).C w' A n l :=
  C_blocks h (fun ad h0 h1 => hk.2 _ (C_lt h h0 h1) (fun e2 => C_not_state h hs h0 h1 e2 rfl) (by simp))
theorem below_keep {w0 w w' : World} {g : Nat} (h : Below w0.heap.size w0 w) (hb : Below g w w') (hg : w0.heap.size ≤ g) : Below w0.heap.size w0 w' := h.trans (hb.mono hg)
theorem CurP_Err {W : World} {g : Nat} {b : List Int} {p e : Int} (h : CurP W g b p e)  (r1 : Int) (p' e' : Int) (hf : wire_Cursor_Err.f b p e  = some (r1, p', e')) :
    Calls Tryd.prog 25 #[.pointer (some ⟨g, 0, none⟩)] W fun e2 w' => e2 = .returned (.int .i64 r1) ∧ CurP w' g b p' e' ∧ KeepBut W w' g none ∧ Below g W w' :=
  (wire_Cursor_Err.calls g b p e  r1 p' e' (upTo W g) W h.isS h.isB hf).mono fun _ _ hq => ⟨hq.1, (h.ofS hq.2.1 hq.2.2.1 hq.2.2.2).1, hq.2.2.2, (h.ofS hq.2.1 hq.2.2.1 hq.2.2.2).2⟩
theorem CurP_Place {W : World} {g : Nat} {b : List Int} {p e : Int} (h : CurP W g b p e)  (r1 : Int) (p' e' : Int) (hf : wire_Cursor_Place.f b p e  = some (r1, p', e')) :
    Calls Tryd.prog 24 #[.pointer (some ⟨g, 0, none⟩)] W fun e2 w' => e2 = .returned (.int .i64 r1) ∧ CurP w' g b p' e' ∧ KeepBut W w' g none ∧ Below g W w' :=
  (wire_Cursor_Place.calls g b p e  r1 p' e' (upTo W g) W h.isS h.isB hf).mono fun _ _ hq => ⟨hq.1, (h.ofS hq.2.1 hq.2.2.1 hq.2.2.2).1, hq.2.2.2, (h.ofS hq.2.1 hq.2.2.1 hq.2.2.2).2⟩
theorem CurP_CRead {W : World} {g : Nat} {b : List Int} {p e : Int} (h : CurP W g b p e)  (r1 : Int) (r2 : Int) (r3 : ByteArray) (r4 : Int) (r5 : ByteArray) (r6 : ByteArray) (r7 : ByteArray) (r8 : ByteArray) (r9 : ByteArray) (p' e' : Int) (hf : cred_Read.f b p e  = some (r1, r2, r3, r4, r5, r6, r7, r8, r9, p', e')) :
    Calls Tryd.prog 22 #[.pointer (some ⟨g, 0, none⟩)] W fun e2 w' => e2 = .returned (.agg #[.int .i64 r1, .int .i64 r2, .string r3, .int .i64 r4, .string r5, .string r6, .string r7, .string r8, .string r9]) ∧ CurP w' g b p' e' ∧ KeepBut W w' g none ∧ Below g W w' :=
  (cred_Read.calls g b p e  r1 r2 r3 r4 r5 r6 r7 r8 r9 p' e' (upTo W g) W h.isS h.isB hf).mono fun _ _ hq => ⟨hq.1, (h.ofS hq.2.1 hq.2.2.1 hq.2.2.2).1, hq.2.2.2, (h.ofS hq.2.1 hq.2.2.1 hq.2.2.2).2⟩
end Go.Proofs.YtpnmmkoiemeodaaDoor.P
