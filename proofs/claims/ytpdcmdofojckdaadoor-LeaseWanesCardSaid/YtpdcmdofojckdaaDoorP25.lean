/- Written by a program of this session's, for this claim: the functions that the law reaches, their contracts, the law's row. Not trusted: it is checked as any text. -/
import Derived.Test.YtpdcmdofojckdaaDoorP0
import Derived.Test.YtpdcmdofojckdaaDoorP3
import Derived.Test.YtpdcmdofojckdaaDoorP15
namespace Go.Proofs.YtpdcmdofojckdaaDoor.P
open Go.RowKit Go.Proofs.YtpdcmdofojckdaaDoorW.PrintWords Go.Proofs.YtpdcmdofojckdaaDoorW.PrintLast Go.Proofs.YtpdcmdofojckdaaDoorW.PrintMore
attribute [local go_sem] max2_int min2_int max_two min_two max_three min_three max_four min_four   -- for this text's walks alone
set_option linter.unusedVariables false
set_option linter.unusedSimpArgs false

attribute [local go_sem high] eqA42
/-! ### liverylaw13_same: function 14 -/
def liverylaw13_same.l0 : Nat → List (S42) → List (S42) → Int → Option (Bool)
  | 0, _, _, _ => none
  | k + 1, x0, x1, x5 => if x5 < (x0.length : Int) then (if 0 ≤ x5 then (if x5 < (x1.length : Int) then (if (((!(((rd_T42 x0 x5).f0.f0.f0) == ((rd_T42 x1 x5).f0.f0.f0)) || (!(((rd_T42 x0 x5).f0.f0.f1) == ((rd_T42 x1 x5).f0.f0.f1)))) || (!((((rd_T42 x0 x5).f0.f1).toList) == (((rd_T42 x1 x5).f0.f1).toList)) || (!(((rd_T42 x0 x5).f0.f2) == ((rd_T42 x1 x5).f0.f2)) || (!((((rd_T42 x0 x5).f0.f3).toList) == (((rd_T42 x1 x5).f0.f3).toList)) || ((!((((rd_T42 x0 x5).f0.f4.f0).toList) == (((rd_T42 x1 x5).f0.f4.f0).toList)) || (!((((rd_T42 x0 x5).f0.f4.f1).toList) == (((rd_T42 x1 x5).f0.f4.f1).toList)))) || ((!((((rd_T42 x0 x5).f0.f5.f0).toList) == (((rd_T42 x1 x5).f0.f5.f0).toList)) || (!((((rd_T42 x0 x5).f0.f5.f1).toList) == (((rd_T42 x1 x5).f0.f5.f1).toList)))))))))) || (!(((rd_T42 x0 x5).f1) == ((rd_T42 x1 x5).f1)))) = true then (some false) else (liverylaw13_same.l0 k x0 x1 (wrap64 (x5 + 1)))) else (none)) else (none)) else (some true)
def liverylaw13_same.f (k : Nat) (l0 : List (S42)) (l1 : List (S42)) : Option (Bool) := if (l0.length : Int) = (l1.length : Int) then (liverylaw13_same.l0 k l0 l1 0) else (some false)
set_option maxHeartbeats 8000000 in
set_option maxRecDepth 100000 in
theorem liverylaw13_same.calls (k : Nat) (A0 : Option Addr) (c0 : Nat) (l0 : List (S42)) (A1 : Option Addr) (c1 : Nat) (l1 : List (S42)) (r : Bool) (w : World) (hr0 : Kd.C k42 w A0 l0.length l0) (hc0 : l0.length ≤ c0) (hr1 : Kd.C k42 w A1 l1.length l1) (hc1 : l1.length ≤ c1) (h : liverylaw13_same.f k l0 l1 = some r) :
    Calls Tryd.prog 14 #[.slice A0 l0.length c0, .slice A1 l1.length c1] w fun e w' => e = .returned (.bool r) ∧ Drawn0 w w' := by
  have hu42 := Tryd.underlying42
  have HR0 := Aside0.mk hr0
  have HC0 := Aside0.mk hc0
  clear hr0 hc0
  have HR1 := Aside0.mk hr1
  have HC1 := Aside0.mk hc1
  clear hr1 hc1
  have H : (if (l0.length : Int) = (l1.length : Int) then (liverylaw13_same.l0 k l0 l1 0) else (some false)) = some r := h
  clear h
  by_cases c3 : (l0.length : Int) = (l1.length : Int)
  · rw [if_pos c3] at H
    have c3b0 : ((l0.length : Int) == (l1.length : Int)) = true := beq_iff_eq.mpr c3
    have c3b1 : ((l0.length : Int) != (l1.length : Int)) = false := bne_eq_false_iff_eq.mpr c3
    have c3b2 : (l0.length == l1.length) = true := by first | simpa using c3 | (simp at c3 ⊢; omega)
    clear c3
    have H' := Aside0.mk H
    clear H
    go_enter Tryd.func14, Tryd.ntmps14
    go_wp2
    repeat (go_quiet (fail); try go_wp2)
    go_loopg [5] k (fun kq v5 w' => ∃ (x5_1 : Int), v5 = .int .i64 x5_1 ∧ Aside0 (liverylaw13_same.l0 kq l0 l1 x5_1 = some r) ∧ Aside0 (kq ≤ k) ∧ Drawn0 w w')
    case atStart => exact ⟨(0), (by first | rfl | (simp; done) | (simp [*]; done)), H', ⟨Nat.le_refl _⟩, by repeat (first | exact Drawn0.refl _ | apply Drawn0.step)⟩
    case round =>
      clear H'
      try clear c1
      try clear p2
      try clear c3
      try clear c3b0
      try clear c3b1
      try clear c3b2
      obtain ⟨x5_1, rfl, HA, HK1, ⟨m1, rfl⟩⟩ := hrel
      cases gk with
      | zero => exact absurd HA.out (by simp [liverylaw13_same.l0])
      | succ k1 =>
        have H := HA.out
        clear HA
        simp only [liverylaw13_same.l0] at H
        by_cases c4 : x5_1 < (l0.length : Int)
        · rw [if_pos c4] at H
          have c4b0 : decide (x5_1 < (l0.length : Int)) = true := decide_eq_true c4
          clear c4
          by_cases c5 : 0 ≤ x5_1
          · rw [if_pos c5] at H
            have c5b0 : decide (0 ≤ x5_1) = true := decide_eq_true c5
            clear c5
            by_cases c6 : x5_1 < (l1.length : Int)
            · rw [if_pos c6] at H
              have c6b0 : decide (x5_1 < (l1.length : Int)) = true := decide_eq_true c6
              clear c6
              by_cases c7 : (((!(((rd_T42 l0 x5_1).f0.f0.f0) == ((rd_T42 l1 x5_1).f0.f0.f0)) || (!(((rd_T42 l0 x5_1).f0.f0.f1) == ((rd_T42 l1 x5_1).f0.f0.f1)))) || (!((((rd_T42 l0 x5_1).f0.f1).toList) == (((rd_T42 l1 x5_1).f0.f1).toList)) || (!(((rd_T42 l0 x5_1).f0.f2) == ((rd_T42 l1 x5_1).f0.f2)) || (!((((rd_T42 l0 x5_1).f0.f3).toList) == (((rd_T42 l1 x5_1).f0.f3).toList)) || ((!((((rd_T42 l0 x5_1).f0.f4.f0).toList) == (((rd_T42 l1 x5_1).f0.f4.f0).toList)) || (!((((rd_T42 l0 x5_1).f0.f4.f1).toList) == (((rd_T42 l1 x5_1).f0.f4.f1).toList)))) || ((!((((rd_T42 l0 x5_1).f0.f5.f0).toList) == (((rd_T42 l1 x5_1).f0.f5.f0).toList)) || (!((((rd_T42 l0 x5_1).f0.f5.f1).toList) == (((rd_T42 l1 x5_1).f0.f5.f1).toList)))))))))) || (!(((rd_T42 l0 x5_1).f1) == ((rd_T42 l1 x5_1).f1)))) = true
              · rw [if_pos c7] at H
                have c7b0 : (((!(((rd_T42 l0 x5_1).f0.f0.f0) == ((rd_T42 l1 x5_1).f0.f0.f0)) || (!(((rd_T42 l0 x5_1).f0.f0.f1) == ((rd_T42 l1 x5_1).f0.f0.f1)))) || (!((((rd_T42 l0 x5_1).f0.f1).toList) == (((rd_T42 l1 x5_1).f0.f1).toList)) || (!(((rd_T42 l0 x5_1).f0.f2) == ((rd_T42 l1 x5_1).f0.f2)) || (!((((rd_T42 l0 x5_1).f0.f3).toList) == (((rd_T42 l1 x5_1).f0.f3).toList)) || ((!((((rd_T42 l0 x5_1).f0.f4.f0).toList) == (((rd_T42 l1 x5_1).f0.f4.f0).toList)) || (!((((rd_T42 l0 x5_1).f0.f4.f1).toList) == (((rd_T42 l1 x5_1).f0.f4.f1).toList)))) || ((!((((rd_T42 l0 x5_1).f0.f5.f0).toList) == (((rd_T42 l1 x5_1).f0.f5.f0).toList)) || (!((((rd_T42 l0 x5_1).f0.f5.f1).toList) == (((rd_T42 l1 x5_1).f0.f5.f1).toList)))))))))) || (!(((rd_T42 l0 x5_1).f1) == ((rd_T42 l1 x5_1).f1)))) = true := c7
                clear c7
                obtain rfl := Option.some.inj H
                have p238 : 0 ≤ (x5_1 : Int) := of_decide_eq_true (by first | (with_reducible assumption) | assumption)
                have q238 : x5_1 < (l0.length : Int) := of_decide_eq_true (by first | (with_reducible assumption) | assumption)
                obtain ⟨ad238, e238, hx238_0, hx238_1, hx238_2, hx238_3, hx238_4, hx238_5, hx238_6, hx238_7, hx238_8, hx238_9⟩ := at_T42 HR0.out x5_1 p238 q238
                cases e238
                replace p238 := eq_true p238
                replace q238 := eq_true q238
                have p239 : 0 ≤ (x5_1 : Int) := of_decide_eq_true (by first | (with_reducible assumption) | assumption)
                have q239 : x5_1 < (l1.length : Int) := of_decide_eq_true (by first | (with_reducible assumption) | assumption)
                obtain ⟨ad239, e239, hx239_0, hx239_1, hx239_2, hx239_3, hx239_4, hx239_5, hx239_6, hx239_7, hx239_8, hx239_9⟩ := at_T42 HR1.out x5_1 p239 q239
                cases e239
                replace p239 := eq_true p239
                replace q239 := eq_true q239
                go_wp2
                repeat (go_quiet (fail); try go_wp2)
                go_ret
                exact ⟨by first | rfl | (simp; done) | (simp [*]; done), by repeat (first | exact Drawn0.refl _ | apply Drawn0.step)⟩
              · rw [if_neg c7] at H
                have c7b0 : (((!(((rd_T42 l0 x5_1).f0.f0.f0) == ((rd_T42 l1 x5_1).f0.f0.f0)) || (!(((rd_T42 l0 x5_1).f0.f0.f1) == ((rd_T42 l1 x5_1).f0.f0.f1)))) || (!((((rd_T42 l0 x5_1).f0.f1).toList) == (((rd_T42 l1 x5_1).f0.f1).toList)) || (!(((rd_T42 l0 x5_1).f0.f2) == ((rd_T42 l1 x5_1).f0.f2)) || (!((((rd_T42 l0 x5_1).f0.f3).toList) == (((rd_T42 l1 x5_1).f0.f3).toList)) || ((!((((rd_T42 l0 x5_1).f0.f4.f0).toList) == (((rd_T42 l1 x5_1).f0.f4.f0).toList)) || (!((((rd_T42 l0 x5_1).f0.f4.f1).toList) == (((rd_T42 l1 x5_1).f0.f4.f1).toList)))) || ((!((((rd_T42 l0 x5_1).f0.f5.f0).toList) == (((rd_T42 l1 x5_1).f0.f5.f0).toList)) || (!((((rd_T42 l0 x5_1).f0.f5.f1).toList) == (((rd_T42 l1 x5_1).f0.f5.f1).toList)))))))))) || (!(((rd_T42 l0 x5_1).f1) == ((rd_T42 l1 x5_1).f1)))) = false := by simpa using c7
                clear c7
                have H' := Aside0.mk H
                clear H
                have p238 : 0 ≤ (x5_1 : Int) := of_decide_eq_true (by first | (with_reducible assumption) | assumption)
                have q238 : x5_1 < (l0.length : Int) := of_decide_eq_true (by first | (with_reducible assumption) | assumption)
                obtain ⟨ad238, e238, hx238_0, hx238_1, hx238_2, hx238_3, hx238_4, hx238_5, hx238_6, hx238_7, hx238_8, hx238_9⟩ := at_T42 HR0.out x5_1 p238 q238
                cases e238
                replace p238 := eq_true p238
                replace q238 := eq_true q238
                have p239 : 0 ≤ (x5_1 : Int) := of_decide_eq_true (by first | (with_reducible assumption) | assumption)
                have q239 : x5_1 < (l1.length : Int) := of_decide_eq_true (by first | (with_reducible assumption) | assumption)
                obtain ⟨ad239, e239, hx239_0, hx239_1, hx239_2, hx239_3, hx239_4, hx239_5, hx239_6, hx239_7, hx239_8, hx239_9⟩ := at_T42 HR1.out x5_1 p239 q239
                cases e239
                replace p239 := eq_true p239
                replace q239 := eq_true q239
                go_wp2
                repeat (go_quiet (fail); try go_wp2)
                go_roundg k1
                case measure => have := HK1.out; omega
                case rel => exact ⟨(wrap64 (x5_1 + 1)), (by first | rfl | (simp; done) | (simp [*]; done)), H', ⟨by have := HK1.out; omega⟩, by repeat (first | exact Drawn0.refl _ | apply Drawn0.step)⟩
            · rw [if_neg c6] at H
              exact absurd H (by simp)
          · rw [if_neg c5] at H
            exact absurd H (by simp)
        · rw [if_neg c4] at H
          have c4b0 : decide (x5_1 < (l0.length : Int)) = false := decide_eq_false c4
          clear c4
          obtain rfl := Option.some.inj H
          go_wp2
          repeat (go_quiet (fail); try go_wp2)
          go_ret
          exact ⟨by first | rfl | (simp; done) | (simp [*]; done), by repeat (first | exact Drawn0.refl _ | apply Drawn0.step)⟩
  · rw [if_neg c3] at H
    have c3b0 : ((l0.length : Int) == (l1.length : Int)) = false := beq_eq_false_iff_ne.mpr c3
    have c3b1 : ((l0.length : Int) != (l1.length : Int)) = true := bne_iff_ne.mpr c3
    have c3b2 : (l0.length == l1.length) = false := by first | simpa using c3 | (simp at c3 ⊢; omega)
    obtain rfl := Option.some.inj H
    go_enter Tryd.func14, Tryd.ntmps14
    go_wp2
    repeat (go_quiet (fail); try go_wp2)
    go_ret
    exact ⟨by first | rfl | (simp; done) | (simp [*]; done), by repeat (first | exact Drawn0.refl _ | apply Drawn0.step)⟩

/-! ### liveryref09_Over: function 29 -/
def liveryref09_Over.f (a0 : Int) (a1 : Int) : Option (Bool) := (liveryref09_Tick.f a0).bind fun t240 => ((liveryref09_Tick.f a1).bind fun t241 => (if t240 ≥ t241 then (some true) else ((liveryref09_Tick.f a0).bind fun t242 => (some (t242 == 1099511627776)))))
set_option maxHeartbeats 8000000 in
set_option maxRecDepth 100000 in
theorem liveryref09_Over.calls (a0 : Int) (a1 : Int) (r : Bool) (w : World) (h : liveryref09_Over.f a0 a1 = some r) :
    Calls Tryd.prog 29 #[.int .i64 a0, .int .i64 a1] w fun e w' => e = .returned (.bool r) ∧ Drawn0 w w' := by
  have H : ((liveryref09_Tick.f a0).bind fun t240 => ((liveryref09_Tick.f a1).bind fun t241 => (if t240 ≥ t241 then (some true) else ((liveryref09_Tick.f a0).bind fun t242 => (some (t242 == 1099511627776)))))) = some r := h
  clear h
  replace H := Option.bind_eq_some_iff.mp H
  obtain ⟨t240, A30, H⟩ := H
  replace H : ((liveryref09_Tick.f a1).bind fun t241 => (if t240 ≥ t241 then (some true) else ((liveryref09_Tick.f a0).bind fun t242 => (some (t242 == 1099511627776))))) = some r := H
  have A3 := Aside0.mk A30
  clear A30
  replace H := Option.bind_eq_some_iff.mp H
  obtain ⟨t241, A40, H⟩ := H
  replace H : (if t240 ≥ t241 then (some true) else ((liveryref09_Tick.f a0).bind fun t242 => (some (t242 == 1099511627776)))) = some r := H
  have A4 := Aside0.mk A40
  clear A40
  by_cases c5 : t240 ≥ t241
  · rw [if_pos c5] at H
    have c5b0 : decide (t241 ≤ t240) = true := decide_eq_true c5
    clear c5
    obtain rfl := Option.some.inj H
    go_enter Tryd.func29, Tryd.ntmps29
    go_wp2_with (first | ((with_reducible refine gate_callee (f := 41) rfl ?_); refine goesL_ (some 6) rfl rfl Tryd.func41 (by kernel_rfl) rfl #[.int .i64 a0] rfl (by (try simp only [mA, mB, mC]); first | done | rfl | (simp only [List.length_drop, List.length_take]; rfl)) ?_; (with_reducible refine (liveryref09_Tick.calls a0 t240 _ A3.out).mono ?_); rintro e w' ⟨rfl, ⟨nd, rfl⟩⟩; refine ⟨_, rfl, ?_⟩) | ((with_reducible refine gate_callee (f := 41) rfl ?_); refine goesL_ (some 8) rfl rfl Tryd.func41 (by kernel_rfl) rfl #[.int .i64 a1] rfl (by (try simp only [mA, mB, mC]); first | done | rfl | (simp only [List.length_drop, List.length_take]; rfl)) ?_; (with_reducible refine (liveryref09_Tick.calls a1 t241 _ A4.out).mono ?_); rintro e w' ⟨rfl, ⟨nd, rfl⟩⟩; refine ⟨_, rfl, ?_⟩))
    go_ret
    exact ⟨by first | rfl | (simp; done) | (simp [*]; done), by repeat (first | exact Drawn0.refl _ | apply Drawn0.step)⟩
  · rw [if_neg c5] at H
    have c5b0 : decide (t241 ≤ t240) = false := decide_eq_false c5
    clear c5
    replace H := Option.bind_eq_some_iff.mp H
    obtain ⟨t242, A60, H⟩ := H
    replace H : (some (t242 == 1099511627776)) = some r := H
    have A6 := Aside0.mk A60
    clear A60
    obtain rfl := Option.some.inj H
    go_enter Tryd.func29, Tryd.ntmps29
    go_wp2_with (first | ((with_reducible refine gate_callee (f := 41) rfl ?_); refine goesL_ (some 6) rfl rfl Tryd.func41 (by kernel_rfl) rfl #[.int .i64 a0] rfl (by (try simp only [mA, mB, mC]); first | done | rfl | (simp only [List.length_drop, List.length_take]; rfl)) ?_; (with_reducible refine (liveryref09_Tick.calls a0 t240 _ A3.out).mono ?_); rintro e w' ⟨rfl, ⟨nd, rfl⟩⟩; refine ⟨_, rfl, ?_⟩) | ((with_reducible refine gate_callee (f := 41) rfl ?_); refine goesL_ (some 8) rfl rfl Tryd.func41 (by kernel_rfl) rfl #[.int .i64 a1] rfl (by (try simp only [mA, mB, mC]); first | done | rfl | (simp only [List.length_drop, List.length_take]; rfl)) ?_; (with_reducible refine (liveryref09_Tick.calls a1 t241 _ A4.out).mono ?_); rintro e w' ⟨rfl, ⟨nd, rfl⟩⟩; refine ⟨_, rfl, ?_⟩) | (go_at_call 41; (with_reducible refine (liveryref09_Tick.calls a0 t242 _ A6.out).mono ?_); rintro e w' ⟨rfl, ⟨nd, rfl⟩⟩))
    go_ret
    exact ⟨by first | rfl | (simp; done) | (simp [*]; done), by repeat (first | exact Drawn0.refl _ | apply Drawn0.step)⟩

end Go.Proofs.YtpdcmdofojckdaaDoor.P
