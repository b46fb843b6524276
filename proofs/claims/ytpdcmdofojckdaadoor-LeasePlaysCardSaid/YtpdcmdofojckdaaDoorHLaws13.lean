/- What the laws of leases share further: the first IDs, rows that are the same, states that are told as less. -/
import Derived.Test.YtpdcmdofojckdaaDoorHLive13
set_option linter.unusedVariables false
set_option linter.unusedSimpArgs false
namespace Go.Proofs.YtpdcmdofojckdaaDoor.P
open Go.RowKit Go.Proofs.YtpdcmdofojckdaaDoor.Pure Go.Proofs.YtpdcmdofojckdaaDoorW.PrintWords Go.Proofs.YtpdcmdofojckdaaDoorW.PrintLast Go.Proofs.YtpdcmdofojckdaaDoorW.PrintMore
theorem few13.calls (A : Option Addr) (c : Nat) (l : List SD) (w : World) (hc : l.length ≤ c) :
    Calls Tryd.prog 16 #[.slice A l.length c] w fun e W' => e = .returned (.slice A (l.take 20).length c) ∧ W' = w := by
  go_enter Tryd.func16, Tryd.ntmps16
  by_cases h : 20 < l.length
  · have h2 : decide ((20 : Int) < (l.length : Int)) = true := decide_eq_true (by omega)
    have h3 : (20 : Int) ≤ (c : Int) := by omega
    go_wp2_with fail
    go_ret
    refine ⟨?_, rfl⟩
    rw [List.length_take, Nat.min_eq_left (by omega)]
    try rfl
    try simp
  · have h2 : decide ((20 : Int) < (l.length : Int)) = false := decide_eq_false (by omega)
    go_wp2_with fail
    go_ret
    refine ⟨?_, rfl⟩
    rw [List.take_of_length_le (by omega)]
    rfl
theorem same13_l0 (x : List SH) (hL : x.length < 4611686018427387904) : ∀ (n i k : Nat), x.length - i = n → i ≤ x.length → n < k → liverylaw13_same.l0 k x x (i : Int) = some true
  | 0, i, k, hn, hi, hk => by
    obtain ⟨k, rfl⟩ : ∃ m, k = m + 1 := ⟨k - 1, by omega⟩
    rw [liverylaw13_same.l0, if_neg (by omega)]
  | n + 1, i, k, hn, hi, hk => by
    obtain ⟨k, rfl⟩ : ∃ m, k = m + 1 := ⟨k - 1, by omega⟩
    rw [liverylaw13_same.l0, if_pos (by omega), if_pos (by omega), if_pos (by omega), if_neg (by simp), w1 (by omega)]
    exact same13_l0 x hL n (i + 1) k (by omega) (by omega) (by omega)
theorem same13_self (k : Nat) (x : List SH) (hl : x.length ≤ 1000) (hk : 1000 < k) : liverylaw13_same.f k x x = some true := by
  unfold liverylaw13_same.f
  rw [if_pos rfl]
  exact same13_l0 x (by omega) x.length 0 k (by omega) (by omega) (by omega)
section
variable {w0 W : World} {S : Nat → Prop} {Rs : List Res}
theorem row_C {A : Option Addr} {n c : Nat} {L : List SH} (h : St w0 S W Rs) (i : Nat) (hi : Rs[i]? = some (Res.row k42 42 (.slice A n c) L)) : k42.C W A L.length L := by
  obtain ⟨ok, hR⟩ := h.get i hi
  have hR' : k42.R 42 W 0 ok (.slice A n c) L := hR
  exact (Kd.R_reads' hR').2.2
theorem same_at (h : St w0 S W Rs) {L : List SH} {A1 A2 : Option Addr} {c1 c2 : Nat} (h1 : k42.C W A1 L.length L) (h2 : k42.C W A2 L.length L) (hc1 : L.length ≤ c1) (hc2 : L.length ≤ c2) (hl : L.length ≤ 1000) :
    Calls Tryd.prog 14 #[.slice A1 L.length c1, .slice A2 L.length c2] W fun e W' => e = .returned (.bool true) ∧ St w0 S W' Rs :=
  (liverylaw13_same.calls 1001 A1 c1 L A2 c2 L true W h1 hc1 h2 hc2 (same13_self 1001 L hl (by omega))).mono fun e W' hh => ⟨hh.1, h.on hh.2.below⟩
theorem lives_at (h : St w0 S W Rs) : Calls Tryd.prog 8 #[] W fun e W' => e = .returned (.bool true) ∧ St w0 S W' Rs := (lives.calls W).mono fun e W' hh => ⟨hh.1, h.on hh.2⟩
theorem less3 {R0 R1 R2 : Res} {X : List Res} (h : St w0 S W (R0 :: R1 :: R2 :: X)) : St w0 S W [R0, R1, R2] := h.less fun i R' hi => by
  match i, hi with
  | 0, hi => cases hi; exact ⟨R0, rfl, fun _ hp => hp⟩
  | 1, hi => cases hi; exact ⟨R1, rfl, fun _ hp => hp⟩
  | 2, hi => cases hi; exact ⟨R2, rfl, fun _ hp => hp⟩
end
end Go.Proofs.YtpdcmdofojckdaaDoor.P
