/- Texts of this claim, laid into one. -/
import Derived.Test.YtmfmoddaejoekaaP0
import Derived.Test.YtmfmoddaejoekaaHOpen
import Derived.Test.YtmfmoddaejoekaaHFew
import Derived.Test.YtmfmoddaejoekaaP15
section
/- Written by a program of this session's, for this claim: the functions that the law reaches, their contracts, the law's row. Not trusted: it is checked as any text. -/
namespace Go.Proofs.Ytmfmoddaejoekaa.P
open Go.RowKit Go.Proofs.YtmfmoddaejoekaaW.PrintWords Go.Proofs.YtmfmoddaejoekaaW.PrintLast Go.Proofs.YtmfmoddaejoekaaW.PrintMore
attribute [local go_sem] max2_int min2_int max_two min_two max_three min_three max_four min_four   -- for this text's walks alone
set_option linter.unusedVariables false
set_option linter.unusedSimpArgs false

def q33 (x : S33) : Prop := (Lit.int .i64 x.f0).wf = true ∧ (Lit.int .i64 x.f1).wf = true ∧ (x.f2.length ≤ maxLen ∧ x.f2.length * 1 ≤ 140737488351232 ∧ ∀ y0 ∈ x.f2, (Lit.int .u8 y0).wf = true) ∧ (x.f3.length ≤ maxLen ∧ x.f3.length * 24 ≤ 140737488351232 ∧ ∀ y0 ∈ x.f3, (y0.length ≤ maxLen ∧ y0.length * 1 ≤ 140737488351232 ∧ ∀ y1 ∈ y0, (Lit.int .u8 y1).wf = true))
theorem opens33 : Opens Try.prog 33 k33 q33 := by
  have h := opens_iso (d := (Kd.pair (Kd.int .i64) (Kd.pair (Kd.int .i64) (Kd.pair (Kd.slice 5 (Kd.int .u8)) (Kd.slice 30 (Kd.slice 5 (Kd.int .u8))))))) (fun x : S33 => (x.f0, x.f1, x.f2, x.f3)) (fun v => ⟨v.1, v.2.1, v.2.2.1, v.2.2.2⟩) (fun _ => rfl) (opens_struct Try.underlying33 (by kernel_rfl) (opensF_cons rfl (by kernel_rfl) (opens_int Try.underlying3) (opensF_cons rfl (by kernel_rfl) (opens_int Try.underlying3) (opensF_cons rfl (by kernel_rfl) (opens_slice (d := (Kd.int .u8)) (B := 1) Try.underlying30 (by kernel_rfl) (by kernel_rfl) (opens_int Try.underlying5)) (opensF_one rfl (by kernel_rfl) (opens_slice (d := (Kd.slice 5 (Kd.int .u8))) (B := 24) Try.underlying29 (by kernel_rfl) (by kernel_rfl) (opens_slice (d := (Kd.int .u8)) (B := 1) Try.underlying30 (by kernel_rfl) (by kernel_rfl) (opens_int Try.underlying5))))))))
  exact ⟨fun enc w base sp held fuel cs x hx hz => h.out enc w base sp held fuel cs x hx hz⟩
end Go.Proofs.Ytmfmoddaejoekaa.P
end
section
/- Cursors, several at once: their methods. -/
namespace Go.Proofs.Ytmfmoddaejoekaa.P
open Go.RowKit Go.Proofs.YtmfmoddaejoekaaW.PrintWords Go.Proofs.YtmfmoddaejoekaaW.PrintLast Go.Proofs.YtmfmoddaejoekaaW.PrintMore
set_option linter.unusedVariables false
set_option linter.unusedSimpArgs false
theorem below_keep {w0 w w' : World} {g : Nat} (h : Below w0.heap.size w0 w) (hb : Below g w w') (hg : w0.heap.size ≤ g) : Below w0.heap.size w0 w' := h.trans (hb.mono hg)

theorem CurP_Number {W : World} {g : Nat} {b : List Int} {p e : Int} (h : CurP W g b p e) (a1 : Int) (a2 : Int) (r1 : Int) (r2 r3 : Int) (hf : wire_Cursor_Number.f b p e a1 a2 = some (r1, r2, r3)) :
    Calls Try.prog 77 #[.pointer (some ⟨g, 0, none⟩), .int .i64 a1, .int .i64 a2] W fun e w' => e = .returned (.int .i64 r1) ∧ CurP w' g b r2 r3 ∧ KeepBut W w' g none ∧ Below g W w' :=
  (wire_Cursor_Number.calls g b p e a1 a2 r1 r2 r3 (upTo W g) W h.isS h.isB hf).mono fun _ _ hq => ⟨hq.1, (h.ofS hq.2.1 hq.2.2.1 hq.2.2.2).1, hq.2.2.2, (h.ofS hq.2.1 hq.2.2.1 hq.2.2.2).2⟩

theorem CurP_End {W : World} {g : Nat} {b : List Int} {p e : Int} (h : CurP W g b p e) (r1 : Int) (r2 r3 : Int) (hf : wire_Cursor_End.f b p e = some (r1, r2, r3)) :
    Calls Try.prog 78 #[.pointer (some ⟨g, 0, none⟩)] W fun e w' => e = .returned (.int .i64 r1) ∧ CurP w' g b r2 r3 ∧ KeepBut W w' g none ∧ Below g W w' :=
  (wire_Cursor_End.calls g b p e r1 r2 r3 (upTo W g) W h.isS h.isB hf).mono fun _ _ hq => ⟨hq.1, (h.ofS hq.2.1 hq.2.2.1 hq.2.2.2).1, hq.2.2.2, (h.ofS hq.2.1 hq.2.2.1 hq.2.2.2).2⟩

end Go.Proofs.Ytmfmoddaejoekaa.P
end
