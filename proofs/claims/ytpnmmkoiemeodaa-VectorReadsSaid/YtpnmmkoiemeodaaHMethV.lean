/- Cursors, two at once: the methods that a vector's reading calls. -/
import Derived.Test.YtpnmmkoiemeodaaHState
import Derived.Test.YtpnmmkoiemeodaaP1
import Derived.Test.YtpnmmkoiemeodaaP7
import Derived.Test.YtpnmmkoiemeodaaP5
import Derived.Test.YtpnmmkoiemeodaaP7
namespace Go.Proofs.Ytpnmmkoiemeodaa.P
open Go.RowKit Go.Proofs.YtpnmmkoiemeodaaW.PrintWords Go.Proofs.YtpnmmkoiemeodaaW.PrintLast Go.Proofs.YtpnmmkoiemeodaaW.PrintMore
set_option linter.unusedVariables false
set_option linter.unusedSimpArgs false
/-- Bytes that are read are in no cursor's block. -/
theorem C_keep {w w' : World} {A : Option Addr} {n : Nat} {l : List Int} (h : (Kd.int .u8).C w A n l) {g : Nat} (hs : StateBlk w g) (hk : KeepBut w w' g none) : (Kd.int .u8).C w' A n l :=
  C_blocks h (fun ad h0 h1 => hk.2 _ (C_lt h h0 h1) (fun e2 => C_not_state h hs h0 h1 e2 rfl) (by simp))
theorem below_keep {w0 w w' : World} {g : Nat} (h : Below w0.heap.size w0 w) (hb : Below g w w') (hg : w0.heap.size ≤ g) : Below w0.heap.size w0 w' := h.trans (hb.mono hg)
theorem CurP_Err {W : World} {g : Nat} {b : List Int} {p e : Int} (h : CurP W g b p e)  (r1 : Int) (p' e' : Int) (hf : wire_Cursor_Err.f b p e  = some (r1, p', e')) :
    Calls Try.prog 9 #[.pointer (some ⟨g, 0, none⟩)] W fun e2 w' => e2 = .returned (.int .i64 r1) ∧ CurP w' g b p' e' ∧ KeepBut W w' g none ∧ Below g W w' :=
  (wire_Cursor_Err.calls g b p e  r1 p' e' (upTo W g) W h.isS h.isB hf).mono fun _ _ hq => ⟨hq.1, (h.ofS hq.2.1 hq.2.2.1 hq.2.2.2).1, hq.2.2.2, (h.ofS hq.2.1 hq.2.2.1 hq.2.2.2).2⟩
theorem CurP_Place {W : World} {g : Nat} {b : List Int} {p e : Int} (h : CurP W g b p e)  (r1 : Int) (p' e' : Int) (hf : wire_Cursor_Place.f b p e  = some (r1, p', e')) :
    Calls Try.prog 8 #[.pointer (some ⟨g, 0, none⟩)] W fun e2 w' => e2 = .returned (.int .i64 r1) ∧ CurP w' g b p' e' ∧ KeepBut W w' g none ∧ Below g W w' :=
  (wire_Cursor_Place.calls g b p e  r1 p' e' (upTo W g) W h.isS h.isB hf).mono fun _ _ hq => ⟨hq.1, (h.ofS hq.2.1 hq.2.2.1 hq.2.2.2).1, hq.2.2.2, (h.ofS hq.2.1 hq.2.2.1 hq.2.2.2).2⟩
theorem CurP_VRead {W : World} {g : Nat} {b : List Int} {p e : Int} (h : CurP W g b p e) (k : Nat) (r : List Int) (p' e' : Int) (hf : vector_Read.f k b p e = some (r, p', e')) :
    Calls Try.prog 5 #[.pointer (some ⟨g, 0, none⟩)] W fun e2 w' => ∃ v : Value, e2 = .returned (v) ∧ Kd.R (Kd.int .i64) 3 w' W.heap.size (fun _ => True) v r ∧ CurP w' g b p' e' ∧ KeepBut W w' g none ∧ Below g W w' :=
  (vector_Read.calls k g b p e r p' e' (upTo W g) W h.isS h.isB hf).mono fun _ _ ⟨v, h1, h2, h3, h4, h5⟩ => ⟨v, h1, h2, (h.ofS h3 h4 h5).1, h5, (h.ofS h3 h4 h5).2⟩
theorem CurR_VRead {W : World} {g : Nat} {b : List Int} {p e : Int} (h : CurR W g b p e) (k : Nat) (r : List Int) (p' e' : Int) (hf : liveryref10_Read.f k b p e = some (r, p', e')) :
    Calls Try.prog 7 #[.pointer (some ⟨g, 0, none⟩)] W fun e2 w' => ∃ v : Value, e2 = .returned (v) ∧ Kd.R (Kd.int .i64) 3 w' W.heap.size (fun _ => True) v r ∧ CurR w' g b p' e' ∧ KeepBut W w' g none ∧ Below g W w' :=
  (liveryref10_Read.calls k g b p e r p' e' (upTo W g) W h.isS h.isB hf).mono fun _ _ ⟨v, h1, h2, h3, h4, h5⟩ => ⟨v, h1, h2, (h.ofS h3 h4 h5).1, h5, (h.ofS h3 h4 h5).2⟩
theorem CurR.cellE {W : World} {g : Nat} {b : List Int} {p e : Int} (h : CurR W g b p e) : W.cell? ⟨g, 2, none⟩ = some (.int .i64 e) := by
  obtain ⟨A, c, hb, _⟩ := h
  rw [blk_cell hb]; rfl
theorem CurR.cellP {W : World} {g : Nat} {b : List Int} {p e : Int} (h : CurR W g b p e) : W.cell? ⟨g, 1, none⟩ = some (.int .i64 p) := by
  obtain ⟨A, c, hb, _⟩ := h
  rw [blk_cell hb]; rfl
end Go.Proofs.Ytpnmmkoiemeodaa.P
