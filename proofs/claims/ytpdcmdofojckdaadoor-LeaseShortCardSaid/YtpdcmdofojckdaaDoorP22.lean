/- Written by a program of this session's, for this claim: the functions that the law reaches, their contracts, the law's row. Not trusted: it is checked as any text. -/
import Derived.Test.YtpdcmdofojckdaaDoorP0
import Derived.Test.YtpdcmdofojckdaaDoorP25
import Derived.Test.YtpdcmdofojckdaaDoorP19
import Derived.Test.YtpdcmdofojckdaaDoorP21
import Derived.Test.YtpdcmdofojckdaaDoorP15
namespace Go.Proofs.YtpdcmdofojckdaaDoor.P
open Go.RowKit Go.Proofs.YtpdcmdofojckdaaDoorW.PrintWords Go.Proofs.YtpdcmdofojckdaaDoorW.PrintLast Go.Proofs.YtpdcmdofojckdaaDoorW.PrintMore
attribute [local go_sem] max2_int min2_int max_two min_two max_three min_three max_four min_four   -- for this text's walks alone
set_option linter.unusedVariables false
set_option linter.unusedSimpArgs false

attribute [local go_sem high] eqA36
/-! ### liveryref05_Counts: function 40 -/
mutual
def liveryref05_Counts.l0 : Nat → List (S40) → List (S40) → Int → Option ((List (S40)))
  | 0, _, _, _ => none
  | k + 1, x0, x3, x4 => if x4 < (x0.length : Int) then (if 0 ≤ x4 then ((liveryref05_May.f k ((rd_T40 x0 x4).f0.f0) ((rd_T40 x0 x4).f0.f1) ((rd_T40 x0 x4).f1) ((rd_T40 x0 x4).f2) ((rd_T40 x0 x4).f3) ((rd_T40 x0 x4).f4.f0) ((rd_T40 x0 x4).f4.f1) ((rd_T40 x0 x4).f5.f0) ((rd_T40 x0 x4).f5.f1)).bind fun t207 => (liveryref05_Counts.l1 k x0 x3 x4 t207 false 0)) else (none)) else ((liveryref05_Sorted.f k x3).bind fun t203 => (some t203))
def liveryref05_Counts.l1 : Nat → List (S40) → List (S40) → Int → Bool → Bool → Int → Option ((List (S40)))
  | 0, _, _, _, _, _, _ => none
  | k + 1, x0, x3, x4, x5, x6, x7 => if x7 < (x3.length : Int) then (if x6 = true then (liveryref05_Counts.l1 k x0 x3 x4 x5 true (wrap64 (x7 + 1))) else (if 0 ≤ x7 then (if 0 ≤ x4 then (if x4 < (x0.length : Int) then (liveryref05_Counts.l1 k x0 x3 x4 x5 (((rd_T40 x3 x7).f0.f0) == ((rd_T40 x0 x4).f0.f0) && (((rd_T40 x3 x7).f0.f1) == ((rd_T40 x0 x4).f0.f1))) (wrap64 (x7 + 1))) else (none)) else (none)) else (none))) else (if x5 = true then (if x6 = true then (liveryref05_Counts.l0 k x0 x3 (wrap64 (x4 + 1))) else (if 0 ≤ x4 then (if x4 < (x0.length : Int) then (if x3.length < 1172812402961 then (liveryref05_Counts.l0 k x0 (x3 ++ [(⟨(⟨(rd_T40 x0 x4).f0.f0, (rd_T40 x0 x4).f0.f1⟩ : S36), (rd_T40 x0 x4).f1, (rd_T40 x0 x4).f2, (rd_T40 x0 x4).f3, (⟨(rd_T40 x0 x4).f4.f0, (rd_T40 x0 x4).f4.f1⟩ : S38), (⟨(rd_T40 x0 x4).f5.f0, (rd_T40 x0 x4).f5.f1⟩ : S38)⟩ : S40)]) (wrap64 (x4 + 1))) else (none)) else (none)) else (none))) else (liveryref05_Counts.l0 k x0 x3 (wrap64 (x4 + 1))))
end
def liveryref05_Counts.f (k : Nat) (l0 : List (S40)) : Option ((List (S40))) := liveryref05_Counts.l0 k l0 ([] : List (S40)) 0
set_option maxHeartbeats 8000000 in
set_option maxRecDepth 100000 in
theorem liveryref05_Counts.calls (k : Nat) (A0 : Option Addr) (c0 : Nat) (l0 : List (S40)) (r : List (S40)) (w : World) (hr0 : Kd.C k40 w A0 l0.length l0) (hc0 : l0.length ≤ c0) (h : liveryref05_Counts.f k l0 = some r) :
    Calls Tryd.prog 40 #[.slice A0 l0.length c0] w fun e w' => ∃ v0_ : Value, e = .returned (v0_) ∧ Kd.R k40 40 w' w.heap.size (fun _ => True) v0_ r ∧ Below w.heap.size w w' := by
  have hu40 := Tryd.underlying40
  have hu36 := Tryd.underlying36
  have HR0 := Aside0.mk hr0
  have HC0 := Aside0.mk hc0
  clear hr0 hc0
  have HB := Aside0.mk (Below.refl w.heap.size w)
  have H : (liveryref05_Counts.l0 k l0 ([] : List (S40)) 0) = some r := h
  clear h
  have H' := Aside0.mk H
  clear H
  go_enter Tryd.func40, Tryd.ntmps40
  go_wp2
  repeat (go_quiet (fail); try go_wp2)
  go_loopg [3, 4] k (fun kq v3 v4 w' => ∃ (x3_1 : List (S40)) (x4_1 : Int), v4 = .int .i64 x4_1 ∧ Aside0 (liveryref05_Counts.l0 kq l0 x3_1 x4_1 = some r) ∧ Aside0 (kq ≤ k) ∧ Aside0 (Kd.R k40 40 w' w.heap.size (fun _ => True) v3 x3_1) ∧ Aside0 (Below w.heap.size w w'))
  case atStart => exact ⟨(([] : List (S40))), (0), (by first | rfl | (simp; done) | (simp [*]; done)), H', ⟨Nat.le_refl _⟩, ⟨by first | exact Kd.R_nil _ _ _ _ _ | exact Kd.N_nil _ _ _ _ _ | exact Kd.V_nil _ _ _ _ _ | exact Kd.Q_nil _ _ _ _ _ | exact Kd.S_nil _ _ _ _ _⟩, ⟨by repeat (first | (with_reducible first | exact HB.out | apply below_alloc | apply pw_below_drewN | apply below_drew1) | exact HB.out)⟩⟩
  case round =>
    clear H'
    obtain ⟨x3_1, x4_1, rfl, HA, HK1, HO_3, HB⟩ := hrel
    cases gk with
    | zero => exact absurd HA.out (by simp [liveryref05_Counts.l0])
    | succ k1 =>
      have H := HA.out
      clear HA
      simp only [liveryref05_Counts.l0] at H
      by_cases c2 : x4_1 < (l0.length : Int)
      · rw [if_pos c2] at H
        have c2b0 : decide (x4_1 < (l0.length : Int)) = true := decide_eq_true c2
        clear c2
        by_cases c3 : 0 ≤ x4_1
        · rw [if_pos c3] at H
          have c3b0 : decide (0 ≤ x4_1) = true := decide_eq_true c3
          clear c3
          replace H := Option.bind_eq_some_iff.mp H
          obtain ⟨t207, A40, H⟩ := H
          replace H : (liveryref05_Counts.l1 k1 l0 x3_1 x4_1 t207 false 0) = some r := H
          have A4 := Aside0.mk A40
          clear A40
          have H' := Aside0.mk H
          clear H
          have p206 : 0 ≤ (x4_1 : Int) := of_decide_eq_true (by first | (with_reducible assumption) | assumption)
          have q206 : x4_1 < (l0.length : Int) := of_decide_eq_true (by first | (with_reducible assumption) | assumption)
          obtain ⟨ad206, e206, hx206_0, hx206_1, hx206_2, hx206_3, hx206_4, hx206_5, hx206_6, hx206_7, hx206_8⟩ := at_T40 HR0.out x4_1 p206 q206
          cases e206
          replace hx206_0 := (HB.out.cell (World.block_lt_of_cell? w _ hx206_0)).trans hx206_0
          replace hx206_1 := (HB.out.cell (World.block_lt_of_cell? w _ hx206_1)).trans hx206_1
          replace hx206_2 := (HB.out.cell (World.block_lt_of_cell? w _ hx206_2)).trans hx206_2
          replace hx206_3 := (HB.out.cell (World.block_lt_of_cell? w _ hx206_3)).trans hx206_3
          replace hx206_4 := (HB.out.cell (World.block_lt_of_cell? w _ hx206_4)).trans hx206_4
          replace hx206_5 := (HB.out.cell (World.block_lt_of_cell? w _ hx206_5)).trans hx206_5
          replace hx206_6 := (HB.out.cell (World.block_lt_of_cell? w _ hx206_6)).trans hx206_6
          replace hx206_7 := (HB.out.cell (World.block_lt_of_cell? w _ hx206_7)).trans hx206_7
          replace hx206_8 := (HB.out.cell (World.block_lt_of_cell? w _ hx206_8)).trans hx206_8
          replace p206 := eq_true p206
          replace q206 := eq_true q206
          go_wp2_with (first | (go_at_call 53; (with_reducible refine (liveryref05_May.calls k1 ((rd_T40 l0 x4_1).f0.f0) ((rd_T40 l0 x4_1).f0.f1) ((rd_T40 l0 x4_1).f1) ((rd_T40 l0 x4_1).f2) ((rd_T40 l0 x4_1).f3) ((rd_T40 l0 x4_1).f4.f0) ((rd_T40 l0 x4_1).f4.f1) ((rd_T40 l0 x4_1).f5.f0) ((rd_T40 l0 x4_1).f5.f1) t207 _ A4.out).mono ?_); rintro e w5 ⟨rfl, hb⟩; have n0_ := aM (Kd.R_below (by (with_reducible repeat (first | apply Kd.R_alloc | apply Kd.R_drewN | apply Kd.R_drew)); exact HO_3.out) hb); have n1_ := aM (below_step (by repeat (first | (with_reducible first | exact HB.out | apply below_alloc | apply pw_below_drewN | apply below_drew1) | exact HB.out)) hb); clear HO_3 HB; have HO_3 := n0_; have HB := n1_; clear n0_ n1_; (try clear hb); (try clear hb2); (try clear hk); (try clear hi)))
          repeat (go_quiet (first | (go_at_call 53; (with_reducible refine (liveryref05_May.calls k1 ((rd_T40 l0 x4_1).f0.f0) ((rd_T40 l0 x4_1).f0.f1) ((rd_T40 l0 x4_1).f1) ((rd_T40 l0 x4_1).f2) ((rd_T40 l0 x4_1).f3) ((rd_T40 l0 x4_1).f4.f0) ((rd_T40 l0 x4_1).f4.f1) ((rd_T40 l0 x4_1).f5.f0) ((rd_T40 l0 x4_1).f5.f1) t207 _ A4.out).mono ?_); rintro e w5 ⟨rfl, hb⟩; have n0_ := aM (Kd.R_below (by (with_reducible repeat (first | apply Kd.R_alloc | apply Kd.R_drewN | apply Kd.R_drew)); exact HO_3.out) hb); have n1_ := aM (below_step (by repeat (first | (with_reducible first | exact HB.out | apply below_alloc | apply pw_below_drewN | apply below_drew1) | exact HB.out)) hb); clear HO_3 HB; have HO_3 := n0_; have HB := n1_; clear n0_ n1_; (try clear hb); (try clear hb2); (try clear hk); (try clear hi))); try go_wp2_with (first | (go_at_call 53; (with_reducible refine (liveryref05_May.calls k1 ((rd_T40 l0 x4_1).f0.f0) ((rd_T40 l0 x4_1).f0.f1) ((rd_T40 l0 x4_1).f1) ((rd_T40 l0 x4_1).f2) ((rd_T40 l0 x4_1).f3) ((rd_T40 l0 x4_1).f4.f0) ((rd_T40 l0 x4_1).f4.f1) ((rd_T40 l0 x4_1).f5.f0) ((rd_T40 l0 x4_1).f5.f1) t207 _ A4.out).mono ?_); rintro e w5 ⟨rfl, hb⟩; have n0_ := aM (Kd.R_below (by (with_reducible repeat (first | apply Kd.R_alloc | apply Kd.R_drewN | apply Kd.R_drew)); exact HO_3.out) hb); have n1_ := aM (below_step (by repeat (first | (with_reducible first | exact HB.out | apply below_alloc | apply pw_below_drewN | apply below_drew1) | exact HB.out)) hb); clear HO_3 HB; have HO_3 := n0_; have HB := n1_; clear n0_ n1_; (try clear hb); (try clear hb2); (try clear hk); (try clear hi))))
          go_loopg [6, 7] k1 (fun kq v6 v7 w' => ∃ (x6_2 : Bool) (x7_2 : Int), v6 = .bool x6_2 ∧ v7 = .int .i64 x7_2 ∧ Aside0 (liveryref05_Counts.l1 kq l0 x3_1 x4_1 t207 x6_2 x7_2 = some r) ∧ Aside0 (kq ≤ k1) ∧ Aside0 (Kd.R k40 40 w' w.heap.size (fun _ => True) u3 x3_1) ∧ Aside0 (Below w.heap.size w w'))
          case atStart => exact ⟨(false), (0), (by first | rfl | (simp; done) | (simp [*]; done)), (by first | rfl | (simp; done) | (simp [*]; done)), H', ⟨Nat.le_refl _⟩, ⟨by (with_reducible repeat (first | apply Kd.R_alloc | apply Kd.R_drewN | apply Kd.R_drew)); exact HO_3.out⟩, ⟨by repeat (first | (with_reducible first | exact HB.out | apply below_alloc | apply pw_below_drewN | apply below_drew1) | exact HB.out)⟩⟩
          case round =>
            clear H'
            try clear c2
            try clear c2b0
            try clear p2
            try clear q2
            try clear hx2
            try clear c3
            try clear c3b0
            try clear c4
            try clear hx206_0
            try clear hx206_1
            try clear hx206_2
            try clear hx206_3
            try clear hx206_4
            try clear hx206_5
            try clear hx206_6
            try clear hx206_7
            try clear hx206_8
            try clear p206
            try clear q206
            obtain ⟨x6_2, x7_2, rfl, rfl, HA, HK2, HO_3, HB⟩ := hrel
            cases gk with
            | zero => exact absurd HA.out (by simp [liveryref05_Counts.l1])
            | succ k2 =>
              have H := HA.out
              clear HA
              simp only [liveryref05_Counts.l1] at H
              by_cases c6 : x7_2 < (x3_1.length : Int)
              · rw [if_pos c6] at H
                have c6b0 : decide (x7_2 < (x3_1.length : Int)) = true := decide_eq_true c6
                clear c6
                by_cases c7 : x6_2 = true
                · subst c7
                  have H1 : (liveryref05_Counts.l1 k2 l0 x3_1 x4_1 t207 true (wrap64 (x7_2 + 1))) = some r := by rw [if_pos rfl] at H; exact H
                  clear H
                  have H := H1
                  clear H1
                  have H' := Aside0.mk H
                  clear H
                  obtain ⟨Ao8, co8, eo8⟩ := Kd.R_slice HO_3.out
                  subst eo8
                  go_wp2
                  repeat (go_quiet (fail); try go_wp2)
                  go_roundg k2
                  case measure => have := HK1.out; have := HK2.out; omega
                  case rel => exact ⟨(true), (wrap64 (x7_2 + 1)), (by first | rfl | (simp; done) | (simp [*]; done)), (by first | rfl | (simp; done) | (simp [*]; done)), H', ⟨by have := HK1.out; have := HK2.out; omega⟩, ⟨by (with_reducible repeat (first | apply Kd.R_alloc | apply Kd.R_drewN | apply Kd.R_drew)); exact HO_3.out⟩, ⟨by repeat (first | (with_reducible first | exact HB.out | apply below_alloc | apply pw_below_drewN | apply below_drew1) | exact HB.out)⟩⟩
                · replace c7 := Bool.eq_false_iff.mpr c7
                  subst c7
                  have H1 : (if 0 ≤ x7_2 then (if 0 ≤ x4_1 then (if x4_1 < (l0.length : Int) then (liveryref05_Counts.l1 k2 l0 x3_1 x4_1 t207 (((rd_T40 x3_1 x7_2).f0.f0) == ((rd_T40 l0 x4_1).f0.f0) && (((rd_T40 x3_1 x7_2).f0.f1) == ((rd_T40 l0 x4_1).f0.f1))) (wrap64 (x7_2 + 1))) else (none)) else (none)) else (none)) = some r := by rw [if_neg (show ¬ (false = true) by decide)] at H; exact H
                  clear H
                  have H := H1
                  clear H1
                  by_cases c9 : 0 ≤ x7_2
                  · rw [if_pos c9] at H
                    have c9b0 : decide (0 ≤ x7_2) = true := decide_eq_true c9
                    clear c9
                    by_cases c10 : 0 ≤ x4_1
                    · rw [if_pos c10] at H
                      have c10b0 : decide (0 ≤ x4_1) = true := decide_eq_true c10
                      clear c10
                      by_cases c11 : x4_1 < (l0.length : Int)
                      · rw [if_pos c11] at H
                        have c11b0 : decide (x4_1 < (l0.length : Int)) = true := decide_eq_true c11
                        clear c11
                        have H' := Aside0.mk H
                        clear H
                        obtain ⟨Ao12, co12, eo12⟩ := Kd.R_slice HO_3.out
                        subst eo12
                        have p208 : 0 ≤ (x7_2 : Int) := of_decide_eq_true (by first | (with_reducible assumption) | assumption)
                        have q208 : x7_2 < (x3_1.length : Int) := of_decide_eq_true (by first | (with_reducible assumption) | assumption)
                        obtain ⟨ad208, e208, hx208_0, hx208_1, hx208_2, hx208_3, hx208_4, hx208_5, hx208_6, hx208_7, hx208_8⟩ := at_T40 (Kd.R_reads' HO_3.out).2.2 x7_2 p208 q208
                        cases e208
                        replace p208 := eq_true p208
                        replace q208 := eq_true q208
                        have p209 : 0 ≤ (x4_1 : Int) := of_decide_eq_true (by first | (with_reducible assumption) | assumption)
                        have q209 : x4_1 < (l0.length : Int) := of_decide_eq_true (by first | (with_reducible assumption) | assumption)
                        obtain ⟨ad209, e209, hx209_0, hx209_1, hx209_2, hx209_3, hx209_4, hx209_5, hx209_6, hx209_7, hx209_8⟩ := at_T40 HR0.out x4_1 p209 q209
                        obtain rfl : ad206 = ad209 := (by injection e209)
                        replace hx209_0 := (HB.out.cell (World.block_lt_of_cell? w _ hx209_0)).trans hx209_0
                        replace hx209_1 := (HB.out.cell (World.block_lt_of_cell? w _ hx209_1)).trans hx209_1
                        replace hx209_2 := (HB.out.cell (World.block_lt_of_cell? w _ hx209_2)).trans hx209_2
                        replace hx209_3 := (HB.out.cell (World.block_lt_of_cell? w _ hx209_3)).trans hx209_3
                        replace hx209_4 := (HB.out.cell (World.block_lt_of_cell? w _ hx209_4)).trans hx209_4
                        replace hx209_5 := (HB.out.cell (World.block_lt_of_cell? w _ hx209_5)).trans hx209_5
                        replace hx209_6 := (HB.out.cell (World.block_lt_of_cell? w _ hx209_6)).trans hx209_6
                        replace hx209_7 := (HB.out.cell (World.block_lt_of_cell? w _ hx209_7)).trans hx209_7
                        replace hx209_8 := (HB.out.cell (World.block_lt_of_cell? w _ hx209_8)).trans hx209_8
                        replace p209 := eq_true p209
                        replace q209 := eq_true q209
                        go_wp2
                        repeat (go_quiet (fail); try go_wp2)
                        go_roundg k2
                        case measure => have := HK1.out; have := HK2.out; omega
                        case rel => exact ⟨((((rd_T40 x3_1 x7_2).f0.f0) == ((rd_T40 l0 x4_1).f0.f0) && (((rd_T40 x3_1 x7_2).f0.f1) == ((rd_T40 l0 x4_1).f0.f1)))), (wrap64 (x7_2 + 1)), (by first | rfl | (simp; done) | (simp [*]; done)), (by first | rfl | (simp; done) | (simp [*]; done)), H', ⟨by have := HK1.out; have := HK2.out; omega⟩, ⟨by (with_reducible repeat (first | apply Kd.R_alloc | apply Kd.R_drewN | apply Kd.R_drew)); exact HO_3.out⟩, ⟨by repeat (first | (with_reducible first | exact HB.out | apply below_alloc | apply pw_below_drewN | apply below_drew1) | exact HB.out)⟩⟩
                      · rw [if_neg c11] at H
                        exact absurd H (by simp)
                    · rw [if_neg c10] at H
                      exact absurd H (by simp)
                  · rw [if_neg c9] at H
                    exact absurd H (by simp)
              · rw [if_neg c6] at H
                have c6b0 : decide (x7_2 < (x3_1.length : Int)) = false := decide_eq_false c6
                clear c6
                by_cases c13 : t207 = true
                · subst c13
                  have H1 : (if x6_2 = true then (liveryref05_Counts.l0 k2 l0 x3_1 (wrap64 (x4_1 + 1))) else (if 0 ≤ x4_1 then (if x4_1 < (l0.length : Int) then (if x3_1.length < 1172812402961 then (liveryref05_Counts.l0 k2 l0 (x3_1 ++ [(⟨(⟨(rd_T40 l0 x4_1).f0.f0, (rd_T40 l0 x4_1).f0.f1⟩ : S36), (rd_T40 l0 x4_1).f1, (rd_T40 l0 x4_1).f2, (rd_T40 l0 x4_1).f3, (⟨(rd_T40 l0 x4_1).f4.f0, (rd_T40 l0 x4_1).f4.f1⟩ : S38), (⟨(rd_T40 l0 x4_1).f5.f0, (rd_T40 l0 x4_1).f5.f1⟩ : S38)⟩ : S40)]) (wrap64 (x4_1 + 1))) else (none)) else (none)) else (none))) = some r := by rw [if_pos rfl] at H; exact H
                  clear H
                  have H := H1
                  clear H1
                  by_cases c14 : x6_2 = true
                  · subst c14
                    have H1 : (liveryref05_Counts.l0 k2 l0 x3_1 (wrap64 (x4_1 + 1))) = some r := by rw [if_pos rfl] at H; exact H
                    clear H
                    have H := H1
                    clear H1
                    have H' := Aside0.mk H
                    clear H
                    obtain ⟨Ao15, co15, eo15⟩ := Kd.R_slice HO_3.out
                    subst eo15
                    go_wp2
                    repeat (go_quiet (fail); try go_wp2)
                    go_roundg k2
                    case measure => have := HK1.out; have := HK2.out; omega
                    case rel => exact ⟨(x3_1), (wrap64 (x4_1 + 1)), (by first | rfl | (simp; done) | (simp [*]; done)), H', ⟨by have := HK1.out; have := HK2.out; omega⟩, ⟨by (with_reducible repeat (first | apply Kd.R_alloc | apply Kd.R_drewN | apply Kd.R_drew)); exact HO_3.out⟩, ⟨by repeat (first | (with_reducible first | exact HB.out | apply below_alloc | apply pw_below_drewN | apply below_drew1) | exact HB.out)⟩⟩
                  · replace c14 := Bool.eq_false_iff.mpr c14
                    subst c14
                    have H1 : (if 0 ≤ x4_1 then (if x4_1 < (l0.length : Int) then (if x3_1.length < 1172812402961 then (liveryref05_Counts.l0 k2 l0 (x3_1 ++ [(⟨(⟨(rd_T40 l0 x4_1).f0.f0, (rd_T40 l0 x4_1).f0.f1⟩ : S36), (rd_T40 l0 x4_1).f1, (rd_T40 l0 x4_1).f2, (rd_T40 l0 x4_1).f3, (⟨(rd_T40 l0 x4_1).f4.f0, (rd_T40 l0 x4_1).f4.f1⟩ : S38), (⟨(rd_T40 l0 x4_1).f5.f0, (rd_T40 l0 x4_1).f5.f1⟩ : S38)⟩ : S40)]) (wrap64 (x4_1 + 1))) else (none)) else (none)) else (none)) = some r := by rw [if_neg (show ¬ (false = true) by decide)] at H; exact H
                    clear H
                    have H := H1
                    clear H1
                    by_cases c16 : 0 ≤ x4_1
                    · rw [if_pos c16] at H
                      have c16b0 : decide (0 ≤ x4_1) = true := decide_eq_true c16
                      clear c16
                      by_cases c17 : x4_1 < (l0.length : Int)
                      · rw [if_pos c17] at H
                        have c17b0 : decide (x4_1 < (l0.length : Int)) = true := decide_eq_true c17
                        clear c17
                        by_cases c18 : x3_1.length < 1172812402961
                        · rw [if_pos c18] at H
                          have LMc18 := Aside0.mk c18
                          clear c18
                          obtain ⟨y211, hy211⟩ : ∃ y_ : List (S40), y_ = (x3_1 ++ [(⟨(⟨(rd_T40 l0 x4_1).f0.f0, (rd_T40 l0 x4_1).f0.f1⟩ : S36), (rd_T40 l0 x4_1).f1, (rd_T40 l0 x4_1).f2, (rd_T40 l0 x4_1).f3, (⟨(rd_T40 l0 x4_1).f4.f0, (rd_T40 l0 x4_1).f4.f1⟩ : S38), (⟨(rd_T40 l0 x4_1).f5.f0, (rd_T40 l0 x4_1).f5.f1⟩ : S38)⟩ : S40)]) := ⟨_, rfl⟩
                          replace H : (liveryref05_Counts.l0 k2 l0 y211 (wrap64 (x4_1 + 1))) = some r := by first | (rw [hy211]; with_reducible exact H) | (have H2_ := (Option.bind_some _ _).symm.trans H; rw [hy211]; with_reducible exact H2_) | (have H2_ := (Option.bind_some _ _).symm.trans H; with_reducible exact H2_) | with_reducible exact H | (rw [hy211]; exact H) | exact H
                          have Ny211 := Aside0.mk hy211
                          clear hy211
                          have H' := Aside0.mk H
                          clear H
                          obtain ⟨Ao19, co19, eo19⟩ := Kd.R_slice HO_3.out
                          subst eo19
                          have p210 : 0 ≤ (x4_1 : Int) := of_decide_eq_true (by first | (with_reducible assumption) | assumption)
                          have q210 : x4_1 < (l0.length : Int) := of_decide_eq_true (by first | (with_reducible assumption) | assumption)
                          obtain ⟨ad210, e210, hx210_0, hx210_1, hx210_2, hx210_3, hx210_4, hx210_5, hx210_6, hx210_7, hx210_8⟩ := at_T40 HR0.out x4_1 p210 q210
                          obtain rfl : ad206 = ad210 := (by injection e210)
                          replace hx210_0 := (HB.out.cell (World.block_lt_of_cell? w _ hx210_0)).trans hx210_0
                          replace hx210_1 := (HB.out.cell (World.block_lt_of_cell? w _ hx210_1)).trans hx210_1
                          replace hx210_2 := (HB.out.cell (World.block_lt_of_cell? w _ hx210_2)).trans hx210_2
                          replace hx210_3 := (HB.out.cell (World.block_lt_of_cell? w _ hx210_3)).trans hx210_3
                          replace hx210_4 := (HB.out.cell (World.block_lt_of_cell? w _ hx210_4)).trans hx210_4
                          replace hx210_5 := (HB.out.cell (World.block_lt_of_cell? w _ hx210_5)).trans hx210_5
                          replace hx210_6 := (HB.out.cell (World.block_lt_of_cell? w _ hx210_6)).trans hx210_6
                          replace hx210_7 := (HB.out.cell (World.block_lt_of_cell? w _ hx210_7)).trans hx210_7
                          replace hx210_8 := (HB.out.cell (World.block_lt_of_cell? w _ hx210_8)).trans hx210_8
                          replace p210 := eq_true p210
                          replace q210 := eq_true q210
                          go_wp2_with (first | ((with_reducible refine gate_builtin (b := .append) (xs := #[.tmp 44, .tmp 49]) rfl ?_); at_builtin; refine Kd.R_append k40 (w0 := w) w.heap.size rfl (.tmp 44) (.tmp 49) 27 40 (.agg #[(.int .i64 0), (.int .i64 0), (.string ⟨#[]⟩), (.int .i64 0), (.string ⟨#[]⟩), (.string ⟨#[]⟩), (.string ⟨#[]⟩), (.string ⟨#[]⟩), (.string ⟨#[]⟩)]) 120 rfl Tryd.underlying27 info40 rfl (by decide) (by omega) (.slice Ao19 x3_1.length co19) x3_1 (⟨(⟨(rd_T40 l0 x4_1).f0.f0, (rd_T40 l0 x4_1).f0.f1⟩ : S36), (rd_T40 l0 x4_1).f1, (rd_T40 l0 x4_1).f2, (rd_T40 l0 x4_1).f3, (⟨(rd_T40 l0 x4_1).f4.f0, (rd_T40 l0 x4_1).f4.f1⟩ : S38), (⟨(rd_T40 l0 x4_1).f5.f0, (rd_T40 l0 x4_1).f5.f1⟩ : S38)⟩ : S40) [.int .i64 ((rd_T40 l0 x4_1).f0.f0), .int .i64 ((rd_T40 l0 x4_1).f0.f1), .string ((rd_T40 l0 x4_1).f1), .int .i64 ((rd_T40 l0 x4_1).f2), .string ((rd_T40 l0 x4_1).f3), .string ((rd_T40 l0 x4_1).f4.f0), .string ((rd_T40 l0 x4_1).f4.f1), .string ((rd_T40 l0 x4_1).f5.f0), .string ((rd_T40 l0 x4_1).f5.f1)] (fun _ => True) (fun _ => False) rfl rfl ?aP (fun _ hk => hk.elim) ?aF ?aO ?aB ?aS ?aL ?_; (case aP => exact k40_mkM _ _ _ (⟨(⟨(rd_T40 l0 x4_1).f0.f0, (rd_T40 l0 x4_1).f0.f1⟩ : S36), (rd_T40 l0 x4_1).f1, (rd_T40 l0 x4_1).f2, (rd_T40 l0 x4_1).f3, (⟨(rd_T40 l0 x4_1).f4.f0, (rd_T40 l0 x4_1).f4.f1⟩ : S38), (⟨(rd_T40 l0 x4_1).f5.f0, (rd_T40 l0 x4_1).f5.f1⟩ : S38)⟩ : S40)); (case aB => exact (by repeat (first | (with_reducible first | exact HB.out | apply below_alloc | apply pw_below_drewN | apply below_drew1) | exact HB.out))); (case aF => exact (fun _ _ => trivial)); (case aO => exact (by (with_reducible repeat (first | apply Kd.R_alloc | apply Kd.R_drewN | apply Kd.R_drew)); exact HO_3.out)); (case aS => exact (below_size (by repeat (first | (with_reducible first | exact HB.out | apply below_alloc | apply pw_below_drewN | apply below_drew1) | exact HB.out)))); (case aL => have := LMc18.out; omega); intro v212 w20 ho hb hg hat; rw [← Ny211.out] at ho; have n0_ := aM (hb); have n1_ := aM (ho); clear HB HO_3; have HB := n0_; have HO213 := n1_; clear n0_ n1_; clear ho hb hg hat))
                          repeat (go_quiet (first | ((with_reducible refine gate_builtin (b := .append) (xs := #[.tmp 44, .tmp 49]) rfl ?_); at_builtin; refine Kd.R_append k40 (w0 := w) w.heap.size rfl (.tmp 44) (.tmp 49) 27 40 (.agg #[(.int .i64 0), (.int .i64 0), (.string ⟨#[]⟩), (.int .i64 0), (.string ⟨#[]⟩), (.string ⟨#[]⟩), (.string ⟨#[]⟩), (.string ⟨#[]⟩), (.string ⟨#[]⟩)]) 120 rfl Tryd.underlying27 info40 rfl (by decide) (by omega) (.slice Ao19 x3_1.length co19) x3_1 (⟨(⟨(rd_T40 l0 x4_1).f0.f0, (rd_T40 l0 x4_1).f0.f1⟩ : S36), (rd_T40 l0 x4_1).f1, (rd_T40 l0 x4_1).f2, (rd_T40 l0 x4_1).f3, (⟨(rd_T40 l0 x4_1).f4.f0, (rd_T40 l0 x4_1).f4.f1⟩ : S38), (⟨(rd_T40 l0 x4_1).f5.f0, (rd_T40 l0 x4_1).f5.f1⟩ : S38)⟩ : S40) [.int .i64 ((rd_T40 l0 x4_1).f0.f0), .int .i64 ((rd_T40 l0 x4_1).f0.f1), .string ((rd_T40 l0 x4_1).f1), .int .i64 ((rd_T40 l0 x4_1).f2), .string ((rd_T40 l0 x4_1).f3), .string ((rd_T40 l0 x4_1).f4.f0), .string ((rd_T40 l0 x4_1).f4.f1), .string ((rd_T40 l0 x4_1).f5.f0), .string ((rd_T40 l0 x4_1).f5.f1)] (fun _ => True) (fun _ => False) rfl rfl ?aP (fun _ hk => hk.elim) ?aF ?aO ?aB ?aS ?aL ?_; (case aP => exact k40_mkM _ _ _ (⟨(⟨(rd_T40 l0 x4_1).f0.f0, (rd_T40 l0 x4_1).f0.f1⟩ : S36), (rd_T40 l0 x4_1).f1, (rd_T40 l0 x4_1).f2, (rd_T40 l0 x4_1).f3, (⟨(rd_T40 l0 x4_1).f4.f0, (rd_T40 l0 x4_1).f4.f1⟩ : S38), (⟨(rd_T40 l0 x4_1).f5.f0, (rd_T40 l0 x4_1).f5.f1⟩ : S38)⟩ : S40)); (case aB => exact (by repeat (first | (with_reducible first | exact HB.out | apply below_alloc | apply pw_below_drewN | apply below_drew1) | exact HB.out))); (case aF => exact (fun _ _ => trivial)); (case aO => exact (by (with_reducible repeat (first | apply Kd.R_alloc | apply Kd.R_drewN | apply Kd.R_drew)); exact HO_3.out)); (case aS => exact (below_size (by repeat (first | (with_reducible first | exact HB.out | apply below_alloc | apply pw_below_drewN | apply below_drew1) | exact HB.out)))); (case aL => have := LMc18.out; omega); intro v212 w20 ho hb hg hat; rw [← Ny211.out] at ho; have n0_ := aM (hb); have n1_ := aM (ho); clear HB HO_3; have HB := n0_; have HO213 := n1_; clear n0_ n1_; clear ho hb hg hat)); try go_wp2_with (first | ((with_reducible refine gate_builtin (b := .append) (xs := #[.tmp 44, .tmp 49]) rfl ?_); at_builtin; refine Kd.R_append k40 (w0 := w) w.heap.size rfl (.tmp 44) (.tmp 49) 27 40 (.agg #[(.int .i64 0), (.int .i64 0), (.string ⟨#[]⟩), (.int .i64 0), (.string ⟨#[]⟩), (.string ⟨#[]⟩), (.string ⟨#[]⟩), (.string ⟨#[]⟩), (.string ⟨#[]⟩)]) 120 rfl Tryd.underlying27 info40 rfl (by decide) (by omega) (.slice Ao19 x3_1.length co19) x3_1 (⟨(⟨(rd_T40 l0 x4_1).f0.f0, (rd_T40 l0 x4_1).f0.f1⟩ : S36), (rd_T40 l0 x4_1).f1, (rd_T40 l0 x4_1).f2, (rd_T40 l0 x4_1).f3, (⟨(rd_T40 l0 x4_1).f4.f0, (rd_T40 l0 x4_1).f4.f1⟩ : S38), (⟨(rd_T40 l0 x4_1).f5.f0, (rd_T40 l0 x4_1).f5.f1⟩ : S38)⟩ : S40) [.int .i64 ((rd_T40 l0 x4_1).f0.f0), .int .i64 ((rd_T40 l0 x4_1).f0.f1), .string ((rd_T40 l0 x4_1).f1), .int .i64 ((rd_T40 l0 x4_1).f2), .string ((rd_T40 l0 x4_1).f3), .string ((rd_T40 l0 x4_1).f4.f0), .string ((rd_T40 l0 x4_1).f4.f1), .string ((rd_T40 l0 x4_1).f5.f0), .string ((rd_T40 l0 x4_1).f5.f1)] (fun _ => True) (fun _ => False) rfl rfl ?aP (fun _ hk => hk.elim) ?aF ?aO ?aB ?aS ?aL ?_; (case aP => exact k40_mkM _ _ _ (⟨(⟨(rd_T40 l0 x4_1).f0.f0, (rd_T40 l0 x4_1).f0.f1⟩ : S36), (rd_T40 l0 x4_1).f1, (rd_T40 l0 x4_1).f2, (rd_T40 l0 x4_1).f3, (⟨(rd_T40 l0 x4_1).f4.f0, (rd_T40 l0 x4_1).f4.f1⟩ : S38), (⟨(rd_T40 l0 x4_1).f5.f0, (rd_T40 l0 x4_1).f5.f1⟩ : S38)⟩ : S40)); (case aB => exact (by repeat (first | (with_reducible first | exact HB.out | apply below_alloc | apply pw_below_drewN | apply below_drew1) | exact HB.out))); (case aF => exact (fun _ _ => trivial)); (case aO => exact (by (with_reducible repeat (first | apply Kd.R_alloc | apply Kd.R_drewN | apply Kd.R_drew)); exact HO_3.out)); (case aS => exact (below_size (by repeat (first | (with_reducible first | exact HB.out | apply below_alloc | apply pw_below_drewN | apply below_drew1) | exact HB.out)))); (case aL => have := LMc18.out; omega); intro v212 w20 ho hb hg hat; rw [← Ny211.out] at ho; have n0_ := aM (hb); have n1_ := aM (ho); clear HB HO_3; have HB := n0_; have HO213 := n1_; clear n0_ n1_; clear ho hb hg hat)))
                          go_roundg k2
                          case measure => have := HK1.out; have := HK2.out; omega
                          case rel => exact ⟨(y211), (wrap64 (x4_1 + 1)), (by first | rfl | (simp; done) | (simp [*]; done)), H', ⟨by have := HK1.out; have := HK2.out; omega⟩, ⟨by (with_reducible repeat (first | apply Kd.R_alloc | apply Kd.R_drewN | apply Kd.R_drew)); exact HO213.out⟩, ⟨by repeat (first | (with_reducible first | exact HB.out | apply below_alloc | apply pw_below_drewN | apply below_drew1) | exact HB.out)⟩⟩
                        · rw [if_neg c18] at H
                          exact absurd H (by simp)
                      · rw [if_neg c17] at H
                        exact absurd H (by simp)
                    · rw [if_neg c16] at H
                      exact absurd H (by simp)
                · replace c13 := Bool.eq_false_iff.mpr c13
                  subst c13
                  have H1 : (liveryref05_Counts.l0 k2 l0 x3_1 (wrap64 (x4_1 + 1))) = some r := by rw [if_neg (show ¬ (false = true) by decide)] at H; exact H
                  clear H
                  have H := H1
                  clear H1
                  have H' := Aside0.mk H
                  clear H
                  obtain ⟨Ao21, co21, eo21⟩ := Kd.R_slice HO_3.out
                  subst eo21
                  go_wp2
                  repeat (go_quiet (fail); try go_wp2)
                  go_roundg k2
                  case measure => have := HK1.out; have := HK2.out; omega
                  case rel => exact ⟨(x3_1), (wrap64 (x4_1 + 1)), (by first | rfl | (simp; done) | (simp [*]; done)), H', ⟨by have := HK1.out; have := HK2.out; omega⟩, ⟨by (with_reducible repeat (first | apply Kd.R_alloc | apply Kd.R_drewN | apply Kd.R_drew)); exact HO_3.out⟩, ⟨by repeat (first | (with_reducible first | exact HB.out | apply below_alloc | apply pw_below_drewN | apply below_drew1) | exact HB.out)⟩⟩
        · rw [if_neg c3] at H
          exact absurd H (by simp)
      · rw [if_neg c2] at H
        have c2b0 : decide (x4_1 < (l0.length : Int)) = false := decide_eq_false c2
        clear c2
        replace H := Option.bind_eq_some_iff.mp H
        obtain ⟨t203, A220, H⟩ := H
        replace H : (some t203) = some r := H
        have A22 := Aside0.mk A220
        clear A220
        obtain rfl := Option.some.inj H
        obtain ⟨Ao23, co23, eo23⟩ := Kd.R_slice HO_3.out
        subst eo23
        go_wp2_with (first | (go_at_call 54; (with_reducible refine (liveryref05_Sorted.calls k1 (fun k_ => some k_ = (.slice Ao23 x3_1.length co23 : Value).ownBlock) _ _ x3_1 t203 _ ?side1 A22.out).mono ?_); (case side1 => exact Kd.R_V (Kd.R_tight rfl (HO_3.out))); rintro e w24 ⟨v204, rfl, ho0, hb⟩; have n0_ := aM (Kd.R_elder' (by (with_reducible repeat (first | apply Kd.R_alloc | apply Kd.R_drewN | apply Kd.R_drew)); exact HO_3.out) (Kd.R_base ho0) hb); have n1_ := aM (Kd.R_lower (Kd.R_new' (Kd.R_mono (ok' := fun k_ => True) ho0 (fun _ hk_ => trivial)) (Kd.R_lt (by (with_reducible repeat (first | apply Kd.R_alloc | apply Kd.R_drewN | apply Kd.R_drew)); exact HO_3.out))) (below_size (by repeat (first | (with_reducible first | exact HB.out | apply below_alloc | apply pw_below_drewN | apply below_drew1) | exact HB.out)))); have n2_ := aM (below_step (by repeat (first | (with_reducible first | exact HB.out | apply below_alloc | apply pw_below_drewN | apply below_drew1) | exact HB.out)) hb); clear HO_3 HB; have HO_3 := n0_; have HO205 := n1_; have HB := n2_; clear n0_ n1_ n2_; (try clear hb); (try clear hb2); (try clear hk); (try clear hi); (try clear ho0)))
        repeat (go_quiet (first | (go_at_call 54; (with_reducible refine (liveryref05_Sorted.calls k1 (fun k_ => some k_ = (.slice Ao23 x3_1.length co23 : Value).ownBlock) _ _ x3_1 t203 _ ?side1 A22.out).mono ?_); (case side1 => exact Kd.R_V (Kd.R_tight rfl (HO_3.out))); rintro e w24 ⟨v204, rfl, ho0, hb⟩; have n0_ := aM (Kd.R_elder' (by (with_reducible repeat (first | apply Kd.R_alloc | apply Kd.R_drewN | apply Kd.R_drew)); exact HO_3.out) (Kd.R_base ho0) hb); have n1_ := aM (Kd.R_lower (Kd.R_new' (Kd.R_mono (ok' := fun k_ => True) ho0 (fun _ hk_ => trivial)) (Kd.R_lt (by (with_reducible repeat (first | apply Kd.R_alloc | apply Kd.R_drewN | apply Kd.R_drew)); exact HO_3.out))) (below_size (by repeat (first | (with_reducible first | exact HB.out | apply below_alloc | apply pw_below_drewN | apply below_drew1) | exact HB.out)))); have n2_ := aM (below_step (by repeat (first | (with_reducible first | exact HB.out | apply below_alloc | apply pw_below_drewN | apply below_drew1) | exact HB.out)) hb); clear HO_3 HB; have HO_3 := n0_; have HO205 := n1_; have HB := n2_; clear n0_ n1_ n2_; (try clear hb); (try clear hb2); (try clear hk); (try clear hi); (try clear ho0))); try go_wp2_with (first | (go_at_call 54; (with_reducible refine (liveryref05_Sorted.calls k1 (fun k_ => some k_ = (.slice Ao23 x3_1.length co23 : Value).ownBlock) _ _ x3_1 t203 _ ?side1 A22.out).mono ?_); (case side1 => exact Kd.R_V (Kd.R_tight rfl (HO_3.out))); rintro e w24 ⟨v204, rfl, ho0, hb⟩; have n0_ := aM (Kd.R_elder' (by (with_reducible repeat (first | apply Kd.R_alloc | apply Kd.R_drewN | apply Kd.R_drew)); exact HO_3.out) (Kd.R_base ho0) hb); have n1_ := aM (Kd.R_lower (Kd.R_new' (Kd.R_mono (ok' := fun k_ => True) ho0 (fun _ hk_ => trivial)) (Kd.R_lt (by (with_reducible repeat (first | apply Kd.R_alloc | apply Kd.R_drewN | apply Kd.R_drew)); exact HO_3.out))) (below_size (by repeat (first | (with_reducible first | exact HB.out | apply below_alloc | apply pw_below_drewN | apply below_drew1) | exact HB.out)))); have n2_ := aM (below_step (by repeat (first | (with_reducible first | exact HB.out | apply below_alloc | apply pw_below_drewN | apply below_drew1) | exact HB.out)) hb); clear HO_3 HB; have HO_3 := n0_; have HO205 := n1_; have HB := n2_; clear n0_ n1_ n2_; (try clear hb); (try clear hb2); (try clear hk); (try clear hi); (try clear ho0))))
        go_ret
        exact ⟨_, by first | rfl | (simp [errW_none, errW_some] <;> rfl) | (simp [*, errW_none, errW_some] <;> rfl), by (with_reducible repeat (first | apply Kd.R_alloc | apply Kd.R_drewN | apply Kd.R_drew)); exact Kd.R_mono HO205.out (fun _ hk => trivial), by repeat (first | (with_reducible first | exact HB.out | apply below_alloc | apply pw_below_drewN | apply below_drew1) | exact HB.out)⟩

end Go.Proofs.YtpdcmdofojckdaaDoor.P
