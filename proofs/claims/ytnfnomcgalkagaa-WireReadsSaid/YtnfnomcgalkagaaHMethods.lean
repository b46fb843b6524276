/- Cursors, several at once: their methods. -/
import Derived.Test.YtnfnomcgalkagaaHState
import Derived.Test.YtnfnomcgalkagaaP18
import Derived.Test.YtnfnomcgalkagaaP18
import Derived.Test.YtnfnomcgalkagaaP27
import Derived.Test.YtnfnomcgalkagaaP29
import Derived.Test.YtnfnomcgalkagaaP27
namespace Go.Proofs.Ytnfnomcgalkagaa.P
open Go.RowKit Go.Proofs.YtnfnomcgalkagaaW.PrintWords Go.Proofs.YtnfnomcgalkagaaW.PrintLast Go.Proofs.YtnfnomcgalkagaaW.PrintMore
set_option linter.unusedVariables false
set_option linter.unusedSimpArgs false
/-- Bytes that are read are in no cursor's block. -/
theorem C_keep {w w' : World} {A : Option Addr} {n : Nat} {l : List Int} (h : (Kd.int .u8).C w A n l) {g : Nat} (hs : StateBlk w g) (hk : KeepBut w w' g none) : (Kd.int .u8).C w' A n l :=
  C_blocks h (fun ad h0 h1 => hk.2 _ (C_lt h h0 h1) (fun e2 => C_not_state h hs h0 h1 e2 rfl) (by simp))
theorem below_keep {w0 w w' : World} {g : Nat} (h : Below w0.heap.size w0 w) (hb : Below g w w') (hg : w0.heap.size ≤ g) : Below w0.heap.size w0 w' := h.trans (hb.mono hg)

theorem CurP_Number {W : World} {g : Nat} {b : List Int} {p e : Int} (h : CurP W g b p e) (a1 : Int) (a2 : Int) (r1 : Int) (r2 r3 : Int) (hf : wire_Cursor_Number.f b p e a1 a2 = some (r1, r2, r3)) :
    Calls Try.prog 40 #[.pointer (some ⟨g, 0, none⟩), .int .i64 a1, .int .i64 a2] W fun e w' => e = .returned (.int .i64 r1) ∧ CurP w' g b r2 r3 ∧ KeepBut W w' g none ∧ Below g W w' :=
  (wire_Cursor_Number.calls g b p e a1 a2 r1 r2 r3 (upTo W g) W h.isS h.isB hf).mono fun _ _ hq => ⟨hq.1, (h.ofS hq.2.1 hq.2.2.1 hq.2.2.2).1, hq.2.2.2, (h.ofS hq.2.1 hq.2.2.1 hq.2.2.2).2⟩

theorem CurP_Text {W : World} {g : Nat} {b : List Int} {p e : Int} (h : CurP W g b p e) (a1 : Int) (r1 : ByteArray) (r2 r3 : Int) (hf : wire_Cursor_Text.f b p e a1 = some (r1, r2, r3)) :
    Calls Try.prog 41 #[.pointer (some ⟨g, 0, none⟩), .int .i64 a1] W fun e w' => e = .returned (.string r1) ∧ CurP w' g b r2 r3 ∧ KeepBut W w' g none ∧ Below g W w' :=
  (wire_Cursor_Text.calls g b p e a1 r1 r2 r3 (upTo W g) W h.isS h.isB hf).mono fun _ _ hq => ⟨hq.1, (h.ofS hq.2.1 hq.2.2.1 hq.2.2.2).1, hq.2.2.2, (h.ofS hq.2.1 hq.2.2.1 hq.2.2.2).2⟩

theorem CurP_Err {W : World} {g : Nat} {b : List Int} {p e : Int} (h : CurP W g b p e) (r1 : Int) (r2 r3 : Int) (hf : wire_Cursor_Err.f b p e = some (r1, r2, r3)) :
    Calls Try.prog 42 #[.pointer (some ⟨g, 0, none⟩)] W fun e w' => e = .returned (.int .i64 r1) ∧ CurP w' g b r2 r3 ∧ KeepBut W w' g none ∧ Below g W w' :=
  (wire_Cursor_Err.calls g b p e r1 r2 r3 (upTo W g) W h.isS h.isB hf).mono fun _ _ hq => ⟨hq.1, (h.ofS hq.2.1 hq.2.2.1 hq.2.2.2).1, hq.2.2.2, (h.ofS hq.2.1 hq.2.2.1 hq.2.2.2).2⟩

theorem CurP_Place {W : World} {g : Nat} {b : List Int} {p e : Int} (h : CurP W g b p e) (r1 : Int) (r2 r3 : Int) (hf : wire_Cursor_Place.f b p e = some (r1, r2, r3)) :
    Calls Try.prog 43 #[.pointer (some ⟨g, 0, none⟩)] W fun e w' => e = .returned (.int .i64 r1) ∧ CurP w' g b r2 r3 ∧ KeepBut W w' g none ∧ Below g W w' :=
  (wire_Cursor_Place.calls g b p e r1 r2 r3 (upTo W g) W h.isS h.isB hf).mono fun _ _ hq => ⟨hq.1, (h.ofS hq.2.1 hq.2.2.1 hq.2.2.2).1, hq.2.2.2, (h.ofS hq.2.1 hq.2.2.1 hq.2.2.2).2⟩

theorem CurP_End {W : World} {g : Nat} {b : List Int} {p e : Int} (h : CurP W g b p e) (r1 : Int) (r2 r3 : Int) (hf : wire_Cursor_End.f b p e = some (r1, r2, r3)) :
    Calls Try.prog 48 #[.pointer (some ⟨g, 0, none⟩)] W fun e w' => e = .returned (.int .i64 r1) ∧ CurP w' g b r2 r3 ∧ KeepBut W w' g none ∧ Below g W w' :=
  (wire_Cursor_End.calls g b p e r1 r2 r3 (upTo W g) W h.isS h.isB hf).mono fun _ _ hq => ⟨hq.1, (h.ofS hq.2.1 hq.2.2.1 hq.2.2.2).1, hq.2.2.2, (h.ofS hq.2.1 hq.2.2.1 hq.2.2.2).2⟩

theorem CurP_Fail {W : World} {g : Nat} {b : List Int} {p e : Int} (h : CurP W g b p e) (a1 : Int) (r1 r2 : Int) (hf : wire_Cursor_Fail.f b p e a1 = some (r1, r2)) :
    Calls Try.prog 45 #[.pointer (some ⟨g, 0, none⟩), .int .i64 a1] W fun e w' => e = .returned (.tuple #[]) ∧ CurP w' g b r1 r2 ∧ KeepBut W w' g none ∧ Below g W w' :=
  (wire_Cursor_Fail.calls g b p e a1 r1 r2 (upTo W g) W h.isS h.isB hf).mono fun _ _ hq => ⟨hq.1, (h.ofS hq.2.1 hq.2.2.1 hq.2.2.2).1, hq.2.2.2, (h.ofS hq.2.1 hq.2.2.1 hq.2.2.2).2⟩

theorem CurR_Number {W : World} {g : Nat} {b : List Int} {p e : Int} (h : CurR W g b p e) (a1 : Int) (a2 : Int) (r1 : Int) (r2 r3 : Int) (hf : liveryref03_Cursor_Number.f b p e a1 a2 = some (r1, r2, r3)) :
    Calls Try.prog 47 #[.pointer (some ⟨g, 0, none⟩), .int .i64 a1, .int .i64 a2] W fun e w' => e = .returned (.int .i64 r1) ∧ CurR w' g b r2 r3 ∧ KeepBut W w' g none ∧ Below g W w' :=
  (liveryref03_Cursor_Number.calls g b p e a1 a2 r1 r2 r3 (upTo W g) W h.isS h.isB hf).mono fun _ _ hq => ⟨hq.1, (h.ofS hq.2.1 hq.2.2.1 hq.2.2.2).1, hq.2.2.2, (h.ofS hq.2.1 hq.2.2.1 hq.2.2.2).2⟩

theorem CurR_Text {W : World} {g : Nat} {b : List Int} {p e : Int} (h : CurR W g b p e) (a1 : Int) (r1 : ByteArray) (r2 r3 : Int) (hf : liveryref03_Cursor_Text.f b p e a1 = some (r1, r2, r3)) :
    Calls Try.prog 44 #[.pointer (some ⟨g, 0, none⟩), .int .i64 a1] W fun e w' => e = .returned (.string r1) ∧ CurR w' g b r2 r3 ∧ KeepBut W w' g none ∧ Below g W w' :=
  (liveryref03_Cursor_Text.calls g b p e a1 r1 r2 r3 (upTo W g) W h.isS h.isB hf).mono fun _ _ hq => ⟨hq.1, (h.ofS hq.2.1 hq.2.2.1 hq.2.2.2).1, hq.2.2.2, (h.ofS hq.2.1 hq.2.2.1 hq.2.2.2).2⟩

theorem CurR_End {W : World} {g : Nat} {b : List Int} {p e : Int} (h : CurR W g b p e) (r1 : Int) (r2 r3 : Int) (hf : liveryref03_Cursor_End.f b p e = some (r1, r2, r3)) :
    Calls Try.prog 49 #[.pointer (some ⟨g, 0, none⟩)] W fun e w' => e = .returned (.int .i64 r1) ∧ CurR w' g b r2 r3 ∧ KeepBut W w' g none ∧ Below g W w' :=
  (liveryref03_Cursor_End.calls g b p e r1 r2 r3 (upTo W g) W h.isS h.isB hf).mono fun _ _ hq => ⟨hq.1, (h.ofS hq.2.1 hq.2.2.1 hq.2.2.2).1, hq.2.2.2, (h.ofS hq.2.1 hq.2.2.1 hq.2.2.2).2⟩

theorem CurR_Fail {W : World} {g : Nat} {b : List Int} {p e : Int} (h : CurR W g b p e) (a1 : Int) (r1 r2 : Int) (hf : liveryref03_Cursor_Fail.f b p e a1 = some (r1, r2)) :
    Calls Try.prog 46 #[.pointer (some ⟨g, 0, none⟩), .int .i64 a1] W fun e w' => e = .returned (.tuple #[]) ∧ CurR w' g b r1 r2 ∧ KeepBut W w' g none ∧ Below g W w' :=
  (liveryref03_Cursor_Fail.calls g b p e a1 r1 r2 (upTo W g) W h.isS h.isB hf).mono fun _ _ hq => ⟨hq.1, (h.ofS hq.2.1 hq.2.2.1 hq.2.2.2).1, hq.2.2.2, (h.ofS hq.2.1 hq.2.2.1 hq.2.2.2).2⟩

end Go.Proofs.Ytnfnomcgalkagaa.P
