/- What the laws of leases share further: the first IDs, rows that are the same, states that are told as less. -/
import Derived.Test.YtpdcmdofojckdaaDoorHLive13
set_option linter.unusedVariables false
set_option linter.unusedSimpArgs false
namespace Go.Proofs.YtpdcmdofojckdaaDoor.P
open Go.RowKit Go.Proofs.YtpdcmdofojckdaaDoor.Pure Go.Proofs.YtpdcmdofojckdaaDoorW.PrintWords Go.Proofs.YtpdcmdofojckdaaDoorW.PrintLast Go.Proofs.YtpdcmdofojckdaaDoorW.PrintMore
theorem few13.calls (A : Option Addr) (c : Nat) (l : List SD) (w : World) (hc : l.length ≤ c) :
    Calls Tryd.prog 16 #[.slice A l.length c] w fun e W' => e = .returned (.slice A (l.take 20).length c) ∧ W' = w := by
  go_enter Tryd.func16, Tryd.ntmps16
  by_cases h : 20 < l.length
  · have h2 : decide ((20 : Int) < (l.length : Int)) = true := decide_eq_true (by omega)
    have h3 : (20 : Int) ≤ (c : Int) := by omega
    go_wp2_with fail
    go_ret
    refine ⟨?_, rfl⟩
    rw [List.length_take, Nat.min_eq_left (by omega)]
    try rfl
    try simp
  · have h2 : decide ((20 : Int) < (l.length : Int)) = false := decide_eq_false (by omega)
    go_wp2_with fail
    go_ret
    refine ⟨?_, rfl⟩
    rw [List.take_of_length_le (by omega)]
    rfl
section
variable {w0 W : World} {S : Nat → Prop} {Rs : List Res}
theorem row_C {A : Option Addr} {n c : Nat} {L : List SH} (h : St w0 S W Rs) (i : Nat) (hi : Rs[i]? = some (Res.row k42 42 (.slice A n c) L)) : k42.C W A L.length L := by
  obtain ⟨ok, hR⟩ := h.get i hi
  have hR' : k42.R 42 W 0 ok (.slice A n c) L := hR
  exact (Kd.R_reads' hR').2.2
theorem lives_at (h : St w0 S W Rs) : Calls Tryd.prog 8 #[] W fun e W' => e = .returned (.bool true) ∧ St w0 S W' Rs := (lives.calls W).mono fun e W' hh => ⟨hh.1, h.on hh.2⟩
theorem less3 {R0 R1 R2 : Res} {X : List Res} (h : St w0 S W (R0 :: R1 :: R2 :: X)) : St w0 S W [R0, R1, R2] := h.less fun i R' hi => by
  match i, hi with
  | 0, hi => cases hi; exact ⟨R0, rfl, fun _ hp => hp⟩
  | 1, hi => cases hi; exact ⟨R1, rfl, fun _ hp => hp⟩
  | 2, hi => cases hi; exact ⟨R2, rfl, fun _ hp => hp⟩
end
end Go.Proofs.YtpdcmdofojckdaaDoor.P
