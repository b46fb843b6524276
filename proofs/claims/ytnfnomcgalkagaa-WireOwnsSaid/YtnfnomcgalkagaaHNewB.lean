/- Contracts, typed by hand: a cursor that begins, with its bytes' place; rows that are written over beside it. -/
import Derived.Test.YtnfnomcgalkagaaHNew
import Derived.Test.YtnfnomcgalkagaaHHas
namespace Go.Proofs.Ytnfnomcgalkagaa.P
open Go.RowKit Go.Proofs.YtnfnomcgalkagaaW.PrintWords Go.Proofs.YtnfnomcgalkagaaW.PrintLast Go.Proofs.YtnfnomcgalkagaaW.PrintMore
set_option linter.unusedVariables false
set_option linter.unusedSimpArgs false
def NewPostB (l : List Int) (w : World) (e : Ending) (w' : World) : Prop := ∃ (g : Nat) (A : Option Addr) (c : Nat), e = .returned (.pointer (some ⟨g, 0, none⟩)) ∧ w.heap.size ≤ g ∧ w'.heap[g]? = some (.cells #[.slice A l.length c, .int .i64 0, .int .i64 0] 66 (0, 0)) ∧ l.length ≤ c ∧ Kd.C (Kd.int .u8) w' A l.length l ∧ (∀ ad, A = some ad → w.heap.size ≤ ad.block) ∧ (∀ ad, A = some ad → 0 < l.length → ad.block < g) ∧ Below w.heap.size w w'
theorem wire_New.callsB (A : Option Addr) (c : Nat) (l : List Int) (w : World) (hr : Kd.C (Kd.int .u8) w A l.length l) (hl : l.length ≤ 140737488355327) :
    Calls Try.prog 39 #[.slice A l.length c] w (NewPostB l w) := by
  have HC := Aside0.mk (slices_Clone.calls A c l w hr hl)
  clear hr
  go_enter Try.func39, Try.ntmps39
  go_wp2_with fail
  refine HC.out.mono ?_
  rintro e w1 ⟨A', c', rfl, hc, hC, hB, hlo, hhi⟩
  have HH := Aside0.mk (And.intro hc (And.intro hC (And.intro hB (And.intro hlo hhi))))
  clear hc hC hB hlo hhi
  go_wp2_with fail
  go_ret
  have hh := HH.out
  exact ⟨w1.heap.size, A', c', rfl, hh.2.2.1.size, heap_alloc_new w1 _, hh.1, Kd.C_alloc hh.2.1 _, hh.2.2.2.1, hh.2.2.2.2, below_alloc hh.2.2.1 _⟩
theorem CurP.of {W : World} {g : Nat} {A : Option Addr} {c : Nat} {b : List Int} {p e : Int} (hg : W.heap[g]? = some (.cells #[.slice A b.length c, .int .i64 p, .int .i64 e] 66 (0, 0))) (hc : b.length ≤ c) (hr : Kd.C (Kd.int .u8) W A b.length b) (hb : ∀ ad, A = some ad → 0 < b.length → ad.block < g) : CurP W g b p e :=
  ⟨A, c, hg, hc, C_blocks hr (fun ad h0 h1 => upTo_block _ _ _ (hb ad h0 h1))⟩
theorem CurR.of {W : World} {g : Nat} {A : Option Addr} {c : Nat} {b : List Int} {p e : Int} (hg : W.heap[g]? = some (.cells #[.slice A b.length c, .int .i64 p, .int .i64 e] 53 (0, 0))) (hc : b.length ≤ c) (hr : Kd.C (Kd.int .u8) W A b.length b) (hb : ∀ ad, A = some ad → 0 < b.length → ad.block < g) : CurR W g b p e :=
  ⟨A, c, hg, hc, C_blocks hr (fun ad h0 h1 => upTo_block _ _ _ (hb ad h0 h1))⟩
theorem C_keepB {k : IntKind} {w w' : World} {A : Option Addr} {l : List Int} {g : Nat} (h : (Kd.int k).C w A l.length l) (hk : KeepBut w w' g none) (hne : ∀ ad, A = some ad → 0 < l.length → ad.block ≠ g) : (Kd.int k).C w' A l.length l :=
  C_blocks h (fun ad h0 h1 => hk.2 _ (C_lt h h0 h1) (hne ad h0 h1) (by simp))
end Go.Proofs.Ytnfnomcgalkagaa.P
