/- Contracts, typed by hand: a cursor that begins. -/
import Derived.Test.YtpnmmkoiemeodaaDoorHState
import Derived.Lib.SliceRun
namespace Go.Proofs.YtpnmmkoiemeodaaDoor.P
open Go.RowKit Go.Proofs.YtpnmmkoiemeodaaDoorW.PrintWords Go.Proofs.YtpnmmkoiemeodaaDoorW.PrintLast Go.Proofs.YtpnmmkoiemeodaaDoorW.PrintMore
set_option linter.unusedVariables false
set_option linter.unusedSimpArgs false

theorem slices_Clone.calls (A : Option Addr) (c : Nat) (l : List Int) (w : World) (hr : Kd.C (Kd.int .u8) w A l.length l) (hl : l.length ≤ 140737488355327) :
    Calls Tryd.prog 43 #[.slice A l.length c] w fun e w' => ∃ A' c', e = .returned (.slice A' l.length c') ∧ l.length ≤ c' ∧ Kd.C (Kd.int .u8) w' A' l.length l ∧ Below w.heap.size w w' ∧ (∀ ad, A' = some ad → w.heap.size ≤ ad.block) ∧ (∀ ad, A' = some ad → 0 < l.length → ad.block < w'.heap.size) := by
  have hnil := fun W : World => Lib.run_eql_slice_nil (P := Tryd.prog) W 34 5 A l.length c 0 0 Tryd.underlying34
  have HR := Aside0.mk hr
  cases A with
  | none =>
    have h0 := C_none hr
    obtain rfl : l = [] := List.eq_nil_of_length_eq_zero h0
    clear hr h0 hnil
    have hnil := fun W : World => Lib.run_eql_slice_nil (P := Tryd.prog) W 34 5 none 0 c 0 0 Tryd.underlying34
    go_enter Tryd.func43, Tryd.ntmps43
    go_wp2_with fail
    go_ret
    exact ⟨none, 0, rfl, Nat.le_refl _, HR.out, Below.refl _ _, (fun ad h => by cases h), (fun ad h => by cases h)⟩
  | some ad =>
    clear hr
    go_enter Tryd.func43, Tryd.ntmps43
    have HO := Aside0.mk (own_lit w w.heap.size 5 .u8 [] (Nat.le_refl _) (by decide))
    go_wp2_with (at_builtin; refine print_append_row (w0 := w) w.heap.size rfl (.tmp 5) (.tmp 6) 34 5 .u8 1 rfl Tryd.underlying34 hinfo5 (by decide) (.slice (some ⟨w.heap.size, 0, none⟩) 0 0) [] l (some ad) l.length c rfl rfl HO.out ?c1 (below_alloc (Below.refl _ _) _) (by simp) ?c2 ?_)
    case c1 => exact Kd.reads_of_C (enc := Value.int .u8) (d := (0 : Int)) (h1 := fun _ => rfl) (Kd.C_alloc HR.out _)
    case c2 => simp only [List.length_nil]; omega
    intro v1 w1 hown hB hg hat
    clear hg hat HO
    obtain ⟨A1, c1, hv⟩ := own_slice hown
    subst hv
    have HR1 := Aside0.mk (Kd.R_reads' (R_of_ownsRow hown))
    have HBL := Aside0.mk (fun k hk => own_base hown k hk)
    have HLT := Aside0.mk (fun k hk => own_lt hown k hk)
    have HB := Aside0.mk hB
    clear hown hB
    go_wp2_with fail
    go_ret
    exact ⟨A1, c1, rfl, HR1.out.2.1, HR1.out.2.2, HB.out, (fun ad h => HBL.out ad.block (by rw [h]; rfl)), (fun ad h _ => HLT.out ad.block (by rw [h]; rfl))⟩
/-- The post of 'New'. -/
def NewPost (l : List Int) (w : World) (e : Ending) (w' : World) : Prop := ∃ g : Nat, e = .returned (.pointer (some ⟨g, 0, none⟩)) ∧ w.heap.size ≤ g ∧ CurP w' g l 0 0 ∧ Below w.heap.size w w'
theorem wire_New.calls (A : Option Addr) (c : Nat) (l : List Int) (w : World) (hr : Kd.C (Kd.int .u8) w A l.length l) (hl : l.length ≤ 140737488355327) :
    Calls Tryd.prog 21 #[.slice A l.length c] w (NewPost l w) := by
  have HC := Aside0.mk (slices_Clone.calls A c l w hr hl)
  clear hr
  go_enter Tryd.func21, Tryd.ntmps21
  go_wp2_with fail
  refine HC.out.mono ?_
  rintro e w1 ⟨A', c', rfl, hc, hC, hB, hlo, hhi⟩
  have HH := Aside0.mk (And.intro hc (And.intro hC (And.intro hB (And.intro hlo hhi))))
  clear hc hC hB hlo hhi
  go_wp2_with fail
  go_ret
  have hh := HH.out
  exact ⟨w1.heap.size, rfl, hh.2.2.1.size, CurP.new w1 A' c' l 0 0 hh.2.1 hh.1, below_alloc hh.2.2.1 _⟩
end Go.Proofs.YtpnmmkoiemeodaaDoor.P
