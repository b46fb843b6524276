/- Contract, printed by a program of this session's: the reference's domain of a name. -/
import Derived.Test.YtpdcmdofojckdaaDoorP0
import Derived.Outline
namespace Go.Proofs.YtpdcmdofojckdaaDoor.P
open Go.RowKit Go.Proofs.YtpdcmdofojckdaaDoorW.PrintWords Go.Proofs.YtpdcmdofojckdaaDoorW.PrintLast Go.Proofs.YtpdcmdofojckdaaDoorW.PrintMore
set_option linter.unusedVariables false
set_option linter.unusedSimpArgs false
def numR (s : ByteArray) : Int := if s.size < 2 ∨ 3 < s.size then 0 else if bt s 0 ≠ 100 ∨ bt s 1 < 49 ∨ 57 < bt s 1 then 0 else if s.size = 3 then (if bt s 2 < 48 ∨ 57 < bt s 2 then 0 else if 16 < 10 * (bt s 1 - 48) + (bt s 2 - 48) then 0 else 10 * (bt s 1 - 48) + (bt s 2 - 48)) else bt s 1 - 48
def liveryref04_Number.f (a0 : ByteArray) : Option Int := some (numR a0)
set_option maxHeartbeats 1000000 in
theorem liveryref04_Number.calls (a0 : ByteArray) (r : Int) (w : World) (h : liveryref04_Number.f a0 = some r) :
    Calls Tryd.prog 66 #[.string a0] w fun e w' => e = .returned (.int .i64 r) ∧ Drawn0 w w' := by
  cases h
  have b0 := bt_range a0 0
  have b1 := bt_range a0 1
  have b2 := bt_range a0 2
  have hx0 : ∀ h : 0 < a0.size, ((a0[0]'h).toNat : Int) = bt a0 0 := bt_at a0 0
  have hx1 : ∀ h : 1 < a0.size, ((a0[1]'h).toNat : Int) = bt a0 1 := bt_at a0 1
  have hx2 : ∀ h : 2 < a0.size, ((a0[2]'h).toNat : Int) = bt a0 2 := bt_at a0 2
  unfold numR
  generalize bt a0 0 = x at *
  generalize bt a0 1 = y at *
  generalize bt a0 2 = z at *
  by_cases k1 : a0.size < 2
  · rw [if_pos (.inl k1)]
    have slt2 := decide_eq_true (show (a0.size : Int) < 2 by omega)
    have tlt2 := decide_eq_true (show a0.size < 2 by omega)
    clear b0 b1 b2
    go_enter Tryd.func66, Tryd.ntmps66
    go_wp2_with fail
    go_ret
    exact ⟨by first | rfl | (simp; done) | (congr 2; omega), Drawn0.refl _⟩
  by_cases k2 : 3 < a0.size
  · rw [if_pos (.inr k2)]
    have slt2 := decide_eq_false (show ¬ ((a0.size : Int) < 2) by omega)
    have tlt2 := decide_eq_false (show ¬ (a0.size < 2) by omega)
    have sgt3 := decide_eq_true (show 3 < (a0.size : Int) by omega)
    have tgt3 := decide_eq_true (show 3 < a0.size by omega)
    clear b0 b1 b2
    go_enter Tryd.func66, Tryd.ntmps66
    go_wp2_with fail
    go_ret
    exact ⟨by first | rfl | (simp; done) | (congr 2; omega), Drawn0.refl _⟩
  rw [if_neg (by omega)]
  have slt2 := decide_eq_false (show ¬ ((a0.size : Int) < 2) by omega)
  have tlt2 := decide_eq_false (show ¬ (a0.size < 2) by omega)
  have sgt3 := decide_eq_false (show ¬ (3 < (a0.size : Int)) by omega)
  have tgt3 := decide_eq_false (show ¬ (3 < a0.size) by omega)
  have i0 := eq_true (show 0 < a0.size by omega)
  have i1 := eq_true (show 1 < a0.size by omega)
  have j0 := eq_true (show (0 : Int) < (a0.size : Int) by omega)
  have j1 := eq_true (show (1 : Int) < (a0.size : Int) by omega)
  by_cases k3 : x = 100
  case neg =>
    rw [if_pos (.inl k3)]
    have e1 := beq_eq_false_iff_ne.2 k3
    have e2 := bne_iff_ne.2 k3
    have e3 := decide_eq_false k3
    clear b0 b1 b2
    go_enter Tryd.func66, Tryd.ntmps66
    go_wp2_with fail
    go_ret
    exact ⟨by first | rfl | (simp; done) | (congr 2; omega), Drawn0.refl _⟩
  have e1 : (x == 100) = true := beq_iff_eq.2 k3
  have e2 : (x != 100) = false := by rw [k3]; rfl
  have e3 := decide_eq_true k3
  by_cases k4 : y < 49
  · rw [if_pos (.inr (.inl k4))]
    have f1 := decide_eq_true k4
    clear b0 b1 b2
    go_enter Tryd.func66, Tryd.ntmps66
    go_wp2_with fail
    go_ret
    exact ⟨by first | rfl | (simp; done) | (congr 2; omega), Drawn0.refl _⟩
  have f1 := decide_eq_false k4
  by_cases k5 : 57 < y
  · rw [if_pos (.inr (.inr k5))]
    have f2 := decide_eq_true k5
    clear b0 b1 b2
    go_enter Tryd.func66, Tryd.ntmps66
    go_wp2_with fail
    go_ret
    exact ⟨by first | rfl | (simp; done) | (congr 2; omega), Drawn0.refl _⟩
  have f2 := decide_eq_false k5
  rw [if_neg (by omega)]
  have g1 : (y - 48) % 256 = y - 48 := by omega
  by_cases k6 : a0.size = 3
  case neg =>
    rw [if_neg k6]
    have h1 := beq_eq_false_iff_ne.2 (show ¬ ((a0.size : Int) = 3) by omega)
    have h2 := decide_eq_false (show ¬ ((a0.size : Int) = 3) by omega)
    have h3 := decide_eq_false k6
    have h4 := beq_eq_false_iff_ne.2 k6
    have h5 := decide_eq_false (show ¬ (16 < y - 48) by omega)
    clear b0 b1 b2
    go_enter Tryd.func66, Tryd.ntmps66
    go_wp2_with fail
    go_ret
    exact ⟨by first | rfl | (simp; done) | (congr 2; omega), Drawn0.refl _⟩
  rw [if_pos k6]
  have h1 := beq_iff_eq.2 (show ((a0.size : Int) = 3) by omega)
  have h2 := decide_eq_true (show ((a0.size : Int) = 3) by omega)
  have h3 := decide_eq_true k6
  have h4 := beq_iff_eq.2 k6
  have i2 := eq_true (show 2 < a0.size by omega)
  have j2 := eq_true (show (2 : Int) < (a0.size : Int) by omega)
  by_cases k7 : z < 48
  · rw [if_pos (.inl k7)]
    have m1 := decide_eq_true k7
    clear b0 b1 b2
    go_enter Tryd.func66, Tryd.ntmps66
    go_wp2_with fail
    go_ret
    exact ⟨by first | rfl | (simp; done) | (congr 2; omega), Drawn0.refl _⟩
  have m1 := decide_eq_false k7
  by_cases k8 : 57 < z
  · rw [if_pos (.inr k8)]
    have m2 := decide_eq_true k8
    clear b0 b1 b2
    go_enter Tryd.func66, Tryd.ntmps66
    go_wp2_with fail
    go_ret
    exact ⟨by first | rfl | (simp; done) | (congr 2; omega), Drawn0.refl _⟩
  have m2 := decide_eq_false k8
  rw [if_neg (by omega)]
  have g2 : (z - 48) % 256 = z - 48 := by omega
  have g3 : wrap64 (10 * (y - 48)) = 10 * (y - 48) := by unfold wrap64; omega
  have g4 : wrap64 (10 * (y - 48) + (z - 48)) = 10 * (y - 48) + (z - 48) := by unfold wrap64; omega
  by_cases k9 : 16 < 10 * (y - 48) + (z - 48)
  · rw [if_pos k9]
    have n1 := decide_eq_true k9
    clear b0 b1 b2
    go_enter Tryd.func66, Tryd.ntmps66
    go_wp2_with fail
    go_ret
    exact ⟨by first | rfl | (simp; done) | (congr 2; omega), Drawn0.refl _⟩
  · rw [if_neg k9]
    have n1 := decide_eq_false k9
    clear b0 b1 b2
    go_enter Tryd.func66, Tryd.ntmps66
    go_wp2_with fail
    go_ret
    exact ⟨by first | rfl | (simp; done) | (congr 2; omega), Drawn0.refl _⟩
end Go.Proofs.YtpdcmdofojckdaaDoor.P
