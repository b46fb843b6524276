/- The laws' cuts: of a row that may be read. -/
import Derived.Test.YtnfnomcgalkagaaHState
import Derived.Test.YtnfnomcgalkagaaP15
import Derived.Test.YtnfnomcgalkagaaP1
namespace Go.Proofs.Ytnfnomcgalkagaa.P
open Go.RowKit Go.Proofs.YtnfnomcgalkagaaW.PrintWords Go.Proofs.YtnfnomcgalkagaaW.PrintLast Go.Proofs.YtnfnomcgalkagaaW.PrintMore
set_option linter.unusedVariables false
set_option linter.unusedSimpArgs false
theorem F_of_C {k : IntKind} {w : World} {A : Option Addr} {l : List Int} (h : (Kd.int k).C w A l.length l) : Kd.F (Kd.int k) w (fun _ => True) A l.length l :=
  fun W' hW => C_blocks h (fun ad h0 h1 => hW _ trivial (C_lt h h0 h1))
theorem V_of_C {k : IntKind} {w : World} {A : Option Addr} {c : Nat} {l : List Int} (e base : Nat) (h : (Kd.int k).C w A l.length l) (hc : l.length ≤ c) : Kd.V (Kd.int k) e w base (fun _ => True) (.slice A l.length c) l :=
  Kd.V_mk hc (F_of_C h)
theorem few3_C (A0 : Option Addr) (c0 : Nat) (l0 : List Int) (a1 : Int) (r : List Int) (w : World) (hr : (Kd.int .u8).C w A0 l0.length l0) (hc : l0.length ≤ c0) (h : liverylaw03_few.f l0 a1 = some r) :
    Calls Try.prog 33 #[.slice A0 l0.length c0, .int .i64 a1] w fun e w' => ∃ v0_ : Value, e = .returned (v0_) ∧ Kd.V (Kd.int .u8) 5 w' w.heap.size (fun k_ => (True ∨ w.heap.size ≤ k_)) v0_ r ∧ Below w.heap.size w w' :=
  liverylaw03_few.calls (fun _ => True) A0 c0 l0 a1 r w (V_of_C _ _ hr hc) h
theorem few10_C (A0 : Option Addr) (c0 : Nat) (l0 : List Int) (r : List Int) (w : World) (hr : (Kd.int .i64).C w A0 l0.length l0) (hc : l0.length ≤ c0) (h : liverylaw10_few.f l0 = some r) :
    Calls Try.prog 15 #[.slice A0 l0.length c0] w fun e w' => ∃ v0_ : Value, e = .returned (v0_) ∧ Kd.V (Kd.int .i64) 3 w' w.heap.size (fun k_ => (True ∨ w.heap.size ≤ k_)) v0_ r ∧ Below w.heap.size w w' :=
  liverylaw10_few.calls (fun _ => True) A0 c0 l0 r w (V_of_C _ _ hr hc) h
theorem hcut_to (q : Nat) (A : Option Addr) (n c : Nat) (h : q ≤ n) (hc : n ≤ c) : ∀ W : World, (Instr.slice 32 (.slice A n c) none (some (.int .i64 (q : Int))) none).run Try.prog W = .ok (.slice A q c) W := by
  obtain ⟨i06, hi06, _, _, _⟩ := info_parts info5
  have := cut_to (P := Try.prog) 32 5 .i64 Try.underlying32 hi06 A n c (q : Int) (by omega) (by omega) hc
  rwa [Int.toNat_natCast] at this
end Go.Proofs.Ytnfnomcgalkagaa.P
