/- Written by a program of this session's, for this claim: the functions that the law reaches, their contracts, the law's row. Not trusted: it is checked as any text. -/
import Derived.Test.YtmlopbhlmgfknaaDoorP0
import Derived.Test.YtmlopbhlmgfknaaDoorP3
import Derived.Test.YtmlopbhlmgfknaaDoorP15
import Derived.Test.YtmlopbhlmgfknaaDoorP27
import Derived.Test.YtmlopbhlmgfknaaDoorHArgs
namespace Go.Proofs.YtmlopbhlmgfknaaDoor.P
open Go.RowKit Go.Proofs.YtmlopbhlmgfknaaDoorW.PrintWords Go.Proofs.YtmlopbhlmgfknaaDoorW.PrintLast Go.Proofs.YtmlopbhlmgfknaaDoorW.PrintMore
attribute [local go_sem] max2_int min2_int max_two min_two max_three min_three max_four min_four   -- for this text's walks alone
set_option linter.unusedVariables false
set_option linter.unusedSimpArgs false

attribute [local go_sem high] eqA26
/-! ### liveryref05_Counts: function 10 -/
mutual
def liveryref05_Counts.l0 : Nat → List (S30) → List (S30) → Int → Option ((List (S30)))
  | 0, _, _, _ => none
  | k + 1, x0, x3, x4 => if x4 < (x0.length : Int) then (if 0 ≤ x4 then ((liveryref05_May.f k ((rd_T30 x0 x4).f0.f0) ((rd_T30 x0 x4).f0.f1) ((rd_T30 x0 x4).f1) ((rd_T30 x0 x4).f2) ((rd_T30 x0 x4).f3) ((rd_T30 x0 x4).f4.f0) ((rd_T30 x0 x4).f4.f1) ((rd_T30 x0 x4).f5.f0) ((rd_T30 x0 x4).f5.f1)).bind fun t279 => (liveryref05_Counts.l1 k x0 x3 x4 t279 false 0)) else (none)) else ((liveryref05_Sorted.f k x3).bind fun t275 => (some t275))
def liveryref05_Counts.l1 : Nat → List (S30) → List (S30) → Int → Bool → Bool → Int → Option ((List (S30)))
  | 0, _, _, _, _, _, _ => none
  | k + 1, x0, x3, x4, x5, x6, x7 => if x7 < (x3.length : Int) then (if x6 = true then (liveryref05_Counts.l1 k x0 x3 x4 x5 true (wrap64 (x7 + 1))) else (if 0 ≤ x7 then (if 0 ≤ x4 then (if x4 < (x0.length : Int) then (liveryref05_Counts.l1 k x0 x3 x4 x5 (((rd_T30 x3 x7).f0.f0) == ((rd_T30 x0 x4).f0.f0) && (((rd_T30 x3 x7).f0.f1) == ((rd_T30 x0 x4).f0.f1))) (wrap64 (x7 + 1))) else (none)) else (none)) else (none))) else (if x5 = true then (if x6 = true then (liveryref05_Counts.l0 k x0 x3 (wrap64 (x4 + 1))) else (if 0 ≤ x4 then (if x4 < (x0.length : Int) then (if x3.length < 1172812402961 then (liveryref05_Counts.l0 k x0 (x3 ++ [(⟨(⟨(rd_T30 x0 x4).f0.f0, (rd_T30 x0 x4).f0.f1⟩ : S26), (rd_T30 x0 x4).f1, (rd_T30 x0 x4).f2, (rd_T30 x0 x4).f3, (⟨(rd_T30 x0 x4).f4.f0, (rd_T30 x0 x4).f4.f1⟩ : S28), (⟨(rd_T30 x0 x4).f5.f0, (rd_T30 x0 x4).f5.f1⟩ : S28)⟩ : S30)]) (wrap64 (x4 + 1))) else (none)) else (none)) else (none))) else (liveryref05_Counts.l0 k x0 x3 (wrap64 (x4 + 1))))
end
def liveryref05_Counts.f (k : Nat) (l0 : List (S30)) : Option ((List (S30))) := liveryref05_Counts.l0 k l0 ([] : List (S30)) 0
set_option maxHeartbeats 8000000 in
set_option maxRecDepth 100000 in
theorem liveryref05_Counts.calls (k : Nat) (A0 : Option Addr) (c0 : Nat) (l0 : List (S30)) (r : List (S30)) (w : World) (hr0 : Kd.C k30 w A0 l0.length l0) (hc0 : l0.length ≤ c0) (h : liveryref05_Counts.f k l0 = some r) :
    Calls Tryd.prog 10 #[.slice A0 l0.length c0] w fun e w' => ∃ v0_ : Value, e = .returned (v0_) ∧ Kd.R k30 30 w' w.heap.size (fun _ => True) v0_ r ∧ Below w.heap.size w w' := by
  have hu30 := Tryd.underlying30
  have hu26 := Tryd.underlying26
  have HR0 := Aside0.mk hr0
  have HC0 := Aside0.mk hc0
  clear hr0 hc0
  have HB := Aside0.mk (Below.refl w.heap.size w)
  have H : (liveryref05_Counts.l0 k l0 ([] : List (S30)) 0) = some r := h
  clear h
  have H' := Aside0.mk H
  clear H
  go_enter Tryd.func10, Tryd.ntmps10
  go_wp2
  repeat (go_quiet (fail); try go_wp2)
  go_loopg [3, 4] k (fun kq v3 v4 w' => ∃ (x3_1 : List (S30)) (x4_1 : Int), v4 = .int .i64 x4_1 ∧ Aside0 (liveryref05_Counts.l0 kq l0 x3_1 x4_1 = some r) ∧ Aside0 (kq ≤ k) ∧ Aside0 (Kd.R k30 30 w' w.heap.size (fun _ => True) v3 x3_1) ∧ Aside0 (Below w.heap.size w w'))
  case atStart => exact ⟨(([] : List (S30))), (0), (by first | rfl | (simp; done) | (simp [*]; done)), H', ⟨Nat.le_refl _⟩, ⟨by first | exact Kd.R_nil _ _ _ _ _ | exact Kd.N_nil _ _ _ _ _ | exact Kd.V_nil _ _ _ _ _ | exact Kd.Q_nil _ _ _ _ _ | exact Kd.S_nil _ _ _ _ _⟩, ⟨by repeat (first | (with_reducible first | exact HB.out | apply below_alloc | apply pw_below_drewN | apply below_drew1) | exact HB.out)⟩⟩
  case round =>
    clear H'
    try clear c1
    obtain ⟨x3_1, x4_1, rfl, HA, HK1, HO_3, HB⟩ := hrel
    cases gk with
    | zero => exact absurd HA.out (by simp [liveryref05_Counts.l0])
    | succ k1 =>
      have H := HA.out
      clear HA
      simp only [liveryref05_Counts.l0] at H
      by_cases c2 : x4_1 < (l0.length : Int)
      · rw [if_pos c2] at H
        have c2b0 : decide (x4_1 < (l0.length : Int)) = true := decide_eq_true c2
        clear c2
        by_cases c3 : 0 ≤ x4_1
        · rw [if_pos c3] at H
          have c3b0 : decide (0 ≤ x4_1) = true := decide_eq_true c3
          clear c3
          replace H := Option.bind_eq_some_iff.mp H
          obtain ⟨t279, A40, H⟩ := H
          replace H : (liveryref05_Counts.l1 k1 l0 x3_1 x4_1 t279 false 0) = some r := H
          have A4 := Aside0.mk A40
          clear A40
          have H' := Aside0.mk H
          clear H
          have p278 : 0 ≤ (x4_1 : Int) := of_decide_eq_true (by first | (with_reducible assumption) | assumption)
          have q278 : x4_1 < (l0.length : Int) := of_decide_eq_true (by first | (with_reducible assumption) | assumption)
          obtain ⟨ad278, e278, hx278_0, hx278_1, hx278_2, hx278_3, hx278_4, hx278_5, hx278_6, hx278_7, hx278_8⟩ := at_T30 HR0.out x4_1 p278 q278
          cases e278
          replace hx278_0 := (HB.out.cell (World.block_lt_of_cell? w _ hx278_0)).trans hx278_0
          replace hx278_1 := (HB.out.cell (World.block_lt_of_cell? w _ hx278_1)).trans hx278_1
          replace hx278_2 := (HB.out.cell (World.block_lt_of_cell? w _ hx278_2)).trans hx278_2
          replace hx278_3 := (HB.out.cell (World.block_lt_of_cell? w _ hx278_3)).trans hx278_3
          replace hx278_4 := (HB.out.cell (World.block_lt_of_cell? w _ hx278_4)).trans hx278_4
          replace hx278_5 := (HB.out.cell (World.block_lt_of_cell? w _ hx278_5)).trans hx278_5
          replace hx278_6 := (HB.out.cell (World.block_lt_of_cell? w _ hx278_6)).trans hx278_6
          replace hx278_7 := (HB.out.cell (World.block_lt_of_cell? w _ hx278_7)).trans hx278_7
          replace hx278_8 := (HB.out.cell (World.block_lt_of_cell? w _ hx278_8)).trans hx278_8
          replace p278 := eq_true p278
          replace q278 := eq_true q278
          go_wp2_with (first | (go_at_call 22; (with_reducible refine (liveryref05_May.calls k1 ((rd_T30 l0 x4_1).f0.f0) ((rd_T30 l0 x4_1).f0.f1) ((rd_T30 l0 x4_1).f1) ((rd_T30 l0 x4_1).f2) ((rd_T30 l0 x4_1).f3) ((rd_T30 l0 x4_1).f4.f0) ((rd_T30 l0 x4_1).f4.f1) ((rd_T30 l0 x4_1).f5.f0) ((rd_T30 l0 x4_1).f5.f1) t279 _ A4.out).mono ?_); rintro e w5 ⟨rfl, hb⟩; have n0_ := aM (Kd.R_below (by (with_reducible repeat (first | apply Kd.R_alloc | apply Kd.R_drewN | apply Kd.R_drew)); exact HO_3.out) hb); have n1_ := aM (below_step (by repeat (first | (with_reducible first | exact HB.out | apply below_alloc | apply pw_below_drewN | apply below_drew1) | exact HB.out)) hb); clear HO_3 HB; have HO_3 := n0_; have HB := n1_; clear n0_ n1_; (try clear hb); (try clear hb2); (try clear hk); (try clear hi)))
          repeat (go_quiet (first | (go_at_call 22; (with_reducible refine (liveryref05_May.calls k1 ((rd_T30 l0 x4_1).f0.f0) ((rd_T30 l0 x4_1).f0.f1) ((rd_T30 l0 x4_1).f1) ((rd_T30 l0 x4_1).f2) ((rd_T30 l0 x4_1).f3) ((rd_T30 l0 x4_1).f4.f0) ((rd_T30 l0 x4_1).f4.f1) ((rd_T30 l0 x4_1).f5.f0) ((rd_T30 l0 x4_1).f5.f1) t279 _ A4.out).mono ?_); rintro e w5 ⟨rfl, hb⟩; have n0_ := aM (Kd.R_below (by (with_reducible repeat (first | apply Kd.R_alloc | apply Kd.R_drewN | apply Kd.R_drew)); exact HO_3.out) hb); have n1_ := aM (below_step (by repeat (first | (with_reducible first | exact HB.out | apply below_alloc | apply pw_below_drewN | apply below_drew1) | exact HB.out)) hb); clear HO_3 HB; have HO_3 := n0_; have HB := n1_; clear n0_ n1_; (try clear hb); (try clear hb2); (try clear hk); (try clear hi))); try go_wp2_with (first | (go_at_call 22; (with_reducible refine (liveryref05_May.calls k1 ((rd_T30 l0 x4_1).f0.f0) ((rd_T30 l0 x4_1).f0.f1) ((rd_T30 l0 x4_1).f1) ((rd_T30 l0 x4_1).f2) ((rd_T30 l0 x4_1).f3) ((rd_T30 l0 x4_1).f4.f0) ((rd_T30 l0 x4_1).f4.f1) ((rd_T30 l0 x4_1).f5.f0) ((rd_T30 l0 x4_1).f5.f1) t279 _ A4.out).mono ?_); rintro e w5 ⟨rfl, hb⟩; have n0_ := aM (Kd.R_below (by (with_reducible repeat (first | apply Kd.R_alloc | apply Kd.R_drewN | apply Kd.R_drew)); exact HO_3.out) hb); have n1_ := aM (below_step (by repeat (first | (with_reducible first | exact HB.out | apply below_alloc | apply pw_below_drewN | apply below_drew1) | exact HB.out)) hb); clear HO_3 HB; have HO_3 := n0_; have HB := n1_; clear n0_ n1_; (try clear hb); (try clear hb2); (try clear hk); (try clear hi))))
          go_loopg [6, 7] k1 (fun kq v6 v7 w' => ∃ (x6_2 : Bool) (x7_2 : Int), v6 = .bool x6_2 ∧ v7 = .int .i64 x7_2 ∧ Aside0 (liveryref05_Counts.l1 kq l0 x3_1 x4_1 t279 x6_2 x7_2 = some r) ∧ Aside0 (kq ≤ k1) ∧ Aside0 (Kd.R k30 30 w' w.heap.size (fun _ => True) u3 x3_1) ∧ Aside0 (Below w.heap.size w w'))
          case atStart => exact ⟨(false), (0), (by first | rfl | (simp; done) | (simp [*]; done)), (by first | rfl | (simp; done) | (simp [*]; done)), H', ⟨Nat.le_refl _⟩, ⟨by (with_reducible repeat (first | apply Kd.R_alloc | apply Kd.R_drewN | apply Kd.R_drew)); exact HO_3.out⟩, ⟨by repeat (first | (with_reducible first | exact HB.out | apply below_alloc | apply pw_below_drewN | apply below_drew1) | exact HB.out)⟩⟩
          case round =>
            clear H'
            try clear c1
            try clear c2
            try clear c2b0
            try clear p2
            try clear q2
            try clear hx2
            try clear c3
            try clear c3b0
            try clear hx278_0
            try clear hx278_1
            try clear hx278_2
            try clear hx278_3
            try clear hx278_4
            try clear hx278_5
            try clear hx278_6
            try clear hx278_7
            try clear hx278_8
            try clear p278
            try clear q278
            obtain ⟨x6_2, x7_2, rfl, rfl, HA, HK2, HO_3, HB⟩ := hrel
            cases gk with
            | zero => exact absurd HA.out (by simp [liveryref05_Counts.l1])
            | succ k2 =>
              have H := HA.out
              clear HA
              simp only [liveryref05_Counts.l1] at H
              by_cases c6 : x7_2 < (x3_1.length : Int)
              · rw [if_pos c6] at H
                have c6b0 : decide (x7_2 < (x3_1.length : Int)) = true := decide_eq_true c6
                clear c6
                by_cases c7 : x6_2 = true
                · subst c7
                  have H1 : (liveryref05_Counts.l1 k2 l0 x3_1 x4_1 t279 true (wrap64 (x7_2 + 1))) = some r := by rw [if_pos rfl] at H; exact H
                  clear H
                  have H := H1
                  clear H1
                  have H' := Aside0.mk H
                  clear H
                  obtain ⟨Ao8, co8, eo8⟩ := Kd.R_slice HO_3.out
                  subst eo8
                  go_wp2
                  repeat (go_quiet (fail); try go_wp2)
                  go_roundg k2
                  case measure => have := HK1.out; have := HK2.out; omega
                  case rel => exact ⟨(true), (wrap64 (x7_2 + 1)), (by first | rfl | (simp; done) | (simp [*]; done)), (by first | rfl | (simp; done) | (simp [*]; done)), H', ⟨by have := HK1.out; have := HK2.out; omega⟩, ⟨by (with_reducible repeat (first | apply Kd.R_alloc | apply Kd.R_drewN | apply Kd.R_drew)); exact HO_3.out⟩, ⟨by repeat (first | (with_reducible first | exact HB.out | apply below_alloc | apply pw_below_drewN | apply below_drew1) | exact HB.out)⟩⟩
                · replace c7 := Bool.eq_false_iff.mpr c7
                  subst c7
                  have H1 : (if 0 ≤ x7_2 then (if 0 ≤ x4_1 then (if x4_1 < (l0.length : Int) then (liveryref05_Counts.l1 k2 l0 x3_1 x4_1 t279 (((rd_T30 x3_1 x7_2).f0.f0) == ((rd_T30 l0 x4_1).f0.f0) && (((rd_T30 x3_1 x7_2).f0.f1) == ((rd_T30 l0 x4_1).f0.f1))) (wrap64 (x7_2 + 1))) else (none)) else (none)) else (none)) = some r := by rw [if_neg (show ¬ (false = true) by decide)] at H; exact H
                  clear H
                  have H := H1
                  clear H1
                  by_cases c9 : 0 ≤ x7_2
                  · rw [if_pos c9] at H
                    have c9b0 : decide (0 ≤ x7_2) = true := decide_eq_true c9
                    clear c9
                    by_cases c10 : 0 ≤ x4_1
                    · rw [if_pos c10] at H
                      have c10b0 : decide (0 ≤ x4_1) = true := decide_eq_true c10
                      clear c10
                      by_cases c11 : x4_1 < (l0.length : Int)
                      · rw [if_pos c11] at H
                        have c11b0 : decide (x4_1 < (l0.length : Int)) = true := decide_eq_true c11
                        clear c11
                        have H' := Aside0.mk H
                        clear H
                        obtain ⟨Ao12, co12, eo12⟩ := Kd.R_slice HO_3.out
                        subst eo12
                        have p280 : 0 ≤ (x7_2 : Int) := of_decide_eq_true (by first | (with_reducible assumption) | assumption)
                        have q280 : x7_2 < (x3_1.length : Int) := of_decide_eq_true (by first | (with_reducible assumption) | assumption)
                        obtain ⟨ad280, e280, hx280_0, hx280_1, hx280_2, hx280_3, hx280_4, hx280_5, hx280_6, hx280_7, hx280_8⟩ := at_T30 (Kd.R_reads' HO_3.out).2.2 x7_2 p280 q280
                        cases e280
                        replace p280 := eq_true p280
                        replace q280 := eq_true q280
                        have p281 : 0 ≤ (x4_1 : Int) := of_decide_eq_true (by first | (with_reducible assumption) | assumption)
                        have q281 : x4_1 < (l0.length : Int) := of_decide_eq_true (by first | (with_reducible assumption) | assumption)
                        obtain ⟨ad281, e281, hx281_0, hx281_1, hx281_2, hx281_3, hx281_4, hx281_5, hx281_6, hx281_7, hx281_8⟩ := at_T30 HR0.out x4_1 p281 q281
                        obtain rfl : ad278 = ad281 := (by injection e281)
                        replace hx281_0 := (HB.out.cell (World.block_lt_of_cell? w _ hx281_0)).trans hx281_0
                        replace hx281_1 := (HB.out.cell (World.block_lt_of_cell? w _ hx281_1)).trans hx281_1
                        replace hx281_2 := (HB.out.cell (World.block_lt_of_cell? w _ hx281_2)).trans hx281_2
                        replace hx281_3 := (HB.out.cell (World.block_lt_of_cell? w _ hx281_3)).trans hx281_3
                        replace hx281_4 := (HB.out.cell (World.block_lt_of_cell? w _ hx281_4)).trans hx281_4
                        replace hx281_5 := (HB.out.cell (World.block_lt_of_cell? w _ hx281_5)).trans hx281_5
                        replace hx281_6 := (HB.out.cell (World.block_lt_of_cell? w _ hx281_6)).trans hx281_6
                        replace hx281_7 := (HB.out.cell (World.block_lt_of_cell? w _ hx281_7)).trans hx281_7
                        replace hx281_8 := (HB.out.cell (World.block_lt_of_cell? w _ hx281_8)).trans hx281_8
                        replace p281 := eq_true p281
                        replace q281 := eq_true q281
                        go_wp2
                        repeat (go_quiet (fail); try go_wp2)
                        go_roundg k2
                        case measure => have := HK1.out; have := HK2.out; omega
                        case rel => exact ⟨((((rd_T30 x3_1 x7_2).f0.f0) == ((rd_T30 l0 x4_1).f0.f0) && (((rd_T30 x3_1 x7_2).f0.f1) == ((rd_T30 l0 x4_1).f0.f1)))), (wrap64 (x7_2 + 1)), (by first | rfl | (simp; done) | (simp [*]; done)), (by first | rfl | (simp; done) | (simp [*]; done)), H', ⟨by have := HK1.out; have := HK2.out; omega⟩, ⟨by (with_reducible repeat (first | apply Kd.R_alloc | apply Kd.R_drewN | apply Kd.R_drew)); exact HO_3.out⟩, ⟨by repeat (first | (with_reducible first | exact HB.out | apply below_alloc | apply pw_below_drewN | apply below_drew1) | exact HB.out)⟩⟩
                      · rw [if_neg c11] at H
                        exact absurd H (by simp)
                    · rw [if_neg c10] at H
                      exact absurd H (by simp)
                  · rw [if_neg c9] at H
                    exact absurd H (by simp)
              · rw [if_neg c6] at H
                have c6b0 : decide (x7_2 < (x3_1.length : Int)) = false := decide_eq_false c6
                clear c6
                by_cases c13 : t279 = true
                · subst c13
                  have H1 : (if x6_2 = true then (liveryref05_Counts.l0 k2 l0 x3_1 (wrap64 (x4_1 + 1))) else (if 0 ≤ x4_1 then (if x4_1 < (l0.length : Int) then (if x3_1.length < 1172812402961 then (liveryref05_Counts.l0 k2 l0 (x3_1 ++ [(⟨(⟨(rd_T30 l0 x4_1).f0.f0, (rd_T30 l0 x4_1).f0.f1⟩ : S26), (rd_T30 l0 x4_1).f1, (rd_T30 l0 x4_1).f2, (rd_T30 l0 x4_1).f3, (⟨(rd_T30 l0 x4_1).f4.f0, (rd_T30 l0 x4_1).f4.f1⟩ : S28), (⟨(rd_T30 l0 x4_1).f5.f0, (rd_T30 l0 x4_1).f5.f1⟩ : S28)⟩ : S30)]) (wrap64 (x4_1 + 1))) else (none)) else (none)) else (none))) = some r := by rw [if_pos rfl] at H; exact H
                  clear H
                  have H := H1
                  clear H1
                  by_cases c14 : x6_2 = true
                  · subst c14
                    have H1 : (liveryref05_Counts.l0 k2 l0 x3_1 (wrap64 (x4_1 + 1))) = some r := by rw [if_pos rfl] at H; exact H
                    clear H
                    have H := H1
                    clear H1
                    have H' := Aside0.mk H
                    clear H
                    obtain ⟨Ao15, co15, eo15⟩ := Kd.R_slice HO_3.out
                    subst eo15
                    go_wp2
                    repeat (go_quiet (fail); try go_wp2)
                    go_roundg k2
                    case measure => have := HK1.out; have := HK2.out; omega
                    case rel => exact ⟨(x3_1), (wrap64 (x4_1 + 1)), (by first | rfl | (simp; done) | (simp [*]; done)), H', ⟨by have := HK1.out; have := HK2.out; omega⟩, ⟨by (with_reducible repeat (first | apply Kd.R_alloc | apply Kd.R_drewN | apply Kd.R_drew)); exact HO_3.out⟩, ⟨by repeat (first | (with_reducible first | exact HB.out | apply below_alloc | apply pw_below_drewN | apply below_drew1) | exact HB.out)⟩⟩
                  · replace c14 := Bool.eq_false_iff.mpr c14
                    subst c14
                    have H1 : (if 0 ≤ x4_1 then (if x4_1 < (l0.length : Int) then (if x3_1.length < 1172812402961 then (liveryref05_Counts.l0 k2 l0 (x3_1 ++ [(⟨(⟨(rd_T30 l0 x4_1).f0.f0, (rd_T30 l0 x4_1).f0.f1⟩ : S26), (rd_T30 l0 x4_1).f1, (rd_T30 l0 x4_1).f2, (rd_T30 l0 x4_1).f3, (⟨(rd_T30 l0 x4_1).f4.f0, (rd_T30 l0 x4_1).f4.f1⟩ : S28), (⟨(rd_T30 l0 x4_1).f5.f0, (rd_T30 l0 x4_1).f5.f1⟩ : S28)⟩ : S30)]) (wrap64 (x4_1 + 1))) else (none)) else (none)) else (none)) = some r := by rw [if_neg (show ¬ (false = true) by decide)] at H; exact H
                    clear H
                    have H := H1
                    clear H1
                    by_cases c16 : 0 ≤ x4_1
                    · rw [if_pos c16] at H
                      have c16b0 : decide (0 ≤ x4_1) = true := decide_eq_true c16
                      clear c16
                      by_cases c17 : x4_1 < (l0.length : Int)
                      · rw [if_pos c17] at H
                        have c17b0 : decide (x4_1 < (l0.length : Int)) = true := decide_eq_true c17
                        clear c17
                        by_cases c18 : x3_1.length < 1172812402961
                        · rw [if_pos c18] at H
                          have LMc18 := Aside0.mk c18
                          clear c18
                          obtain ⟨y283, hy283⟩ : ∃ y_ : List (S30), y_ = (x3_1 ++ [(⟨(⟨(rd_T30 l0 x4_1).f0.f0, (rd_T30 l0 x4_1).f0.f1⟩ : S26), (rd_T30 l0 x4_1).f1, (rd_T30 l0 x4_1).f2, (rd_T30 l0 x4_1).f3, (⟨(rd_T30 l0 x4_1).f4.f0, (rd_T30 l0 x4_1).f4.f1⟩ : S28), (⟨(rd_T30 l0 x4_1).f5.f0, (rd_T30 l0 x4_1).f5.f1⟩ : S28)⟩ : S30)]) := ⟨_, rfl⟩
                          replace H : (liveryref05_Counts.l0 k2 l0 y283 (wrap64 (x4_1 + 1))) = some r := by first | (rw [hy283]; with_reducible exact H) | (have H2_ := (Option.bind_some _ _).symm.trans H; rw [hy283]; with_reducible exact H2_) | (have H2_ := (Option.bind_some _ _).symm.trans H; with_reducible exact H2_) | with_reducible exact H | (rw [hy283]; exact H) | exact H
                          have Ny283 := Aside0.mk hy283
                          clear hy283
                          have H' := Aside0.mk H
                          clear H
                          obtain ⟨Ao19, co19, eo19⟩ := Kd.R_slice HO_3.out
                          subst eo19
                          have p282 : 0 ≤ (x4_1 : Int) := of_decide_eq_true (by first | (with_reducible assumption) | assumption)
                          have q282 : x4_1 < (l0.length : Int) := of_decide_eq_true (by first | (with_reducible assumption) | assumption)
                          obtain ⟨ad282, e282, hx282_0, hx282_1, hx282_2, hx282_3, hx282_4, hx282_5, hx282_6, hx282_7, hx282_8⟩ := at_T30 HR0.out x4_1 p282 q282
                          obtain rfl : ad278 = ad282 := (by injection e282)
                          replace hx282_0 := (HB.out.cell (World.block_lt_of_cell? w _ hx282_0)).trans hx282_0
                          replace hx282_1 := (HB.out.cell (World.block_lt_of_cell? w _ hx282_1)).trans hx282_1
                          replace hx282_2 := (HB.out.cell (World.block_lt_of_cell? w _ hx282_2)).trans hx282_2
                          replace hx282_3 := (HB.out.cell (World.block_lt_of_cell? w _ hx282_3)).trans hx282_3
                          replace hx282_4 := (HB.out.cell (World.block_lt_of_cell? w _ hx282_4)).trans hx282_4
                          replace hx282_5 := (HB.out.cell (World.block_lt_of_cell? w _ hx282_5)).trans hx282_5
                          replace hx282_6 := (HB.out.cell (World.block_lt_of_cell? w _ hx282_6)).trans hx282_6
                          replace hx282_7 := (HB.out.cell (World.block_lt_of_cell? w _ hx282_7)).trans hx282_7
                          replace hx282_8 := (HB.out.cell (World.block_lt_of_cell? w _ hx282_8)).trans hx282_8
                          replace p282 := eq_true p282
                          replace q282 := eq_true q282
                          go_wp2_with (first | ((with_reducible refine gate_builtin (b := .append) (xs := #[.tmp 44, .tmp 49]) rfl ?_); at_builtin; refine Kd.R_append k30 (w0 := w) w.heap.size rfl (.tmp 44) (.tmp 49) 22 30 (.agg #[(.int .i64 0), (.int .i64 0), (.string ⟨#[]⟩), (.int .i64 0), (.string ⟨#[]⟩), (.string ⟨#[]⟩), (.string ⟨#[]⟩), (.string ⟨#[]⟩), (.string ⟨#[]⟩)]) 120 rfl Tryd.underlying22 info30 rfl (by decide) (by omega) (.slice Ao19 x3_1.length co19) x3_1 (⟨(⟨(rd_T30 l0 x4_1).f0.f0, (rd_T30 l0 x4_1).f0.f1⟩ : S26), (rd_T30 l0 x4_1).f1, (rd_T30 l0 x4_1).f2, (rd_T30 l0 x4_1).f3, (⟨(rd_T30 l0 x4_1).f4.f0, (rd_T30 l0 x4_1).f4.f1⟩ : S28), (⟨(rd_T30 l0 x4_1).f5.f0, (rd_T30 l0 x4_1).f5.f1⟩ : S28)⟩ : S30) [.int .i64 ((rd_T30 l0 x4_1).f0.f0), .int .i64 ((rd_T30 l0 x4_1).f0.f1), .string ((rd_T30 l0 x4_1).f1), .int .i64 ((rd_T30 l0 x4_1).f2), .string ((rd_T30 l0 x4_1).f3), .string ((rd_T30 l0 x4_1).f4.f0), .string ((rd_T30 l0 x4_1).f4.f1), .string ((rd_T30 l0 x4_1).f5.f0), .string ((rd_T30 l0 x4_1).f5.f1)] (fun _ => True) (fun _ => False) rfl rfl ?aP (fun _ hk => hk.elim) ?aF ?aO ?aB ?aS ?aL ?_; (case aP => exact k30_mkM _ _ _ (⟨(⟨(rd_T30 l0 x4_1).f0.f0, (rd_T30 l0 x4_1).f0.f1⟩ : S26), (rd_T30 l0 x4_1).f1, (rd_T30 l0 x4_1).f2, (rd_T30 l0 x4_1).f3, (⟨(rd_T30 l0 x4_1).f4.f0, (rd_T30 l0 x4_1).f4.f1⟩ : S28), (⟨(rd_T30 l0 x4_1).f5.f0, (rd_T30 l0 x4_1).f5.f1⟩ : S28)⟩ : S30)); (case aB => exact (by repeat (first | (with_reducible first | exact HB.out | apply below_alloc | apply pw_below_drewN | apply below_drew1) | exact HB.out))); (case aF => exact (fun _ _ => trivial)); (case aO => exact (by (with_reducible repeat (first | apply Kd.R_alloc | apply Kd.R_drewN | apply Kd.R_drew)); exact HO_3.out)); (case aS => exact (below_size (by repeat (first | (with_reducible first | exact HB.out | apply below_alloc | apply pw_below_drewN | apply below_drew1) | exact HB.out)))); (case aL => have := LMc18.out; omega); intro v284 w20 ho hb hg hat; rw [← Ny283.out] at ho; have n0_ := aM (hb); have n1_ := aM (ho); clear HB HO_3; have HB := n0_; have HO285 := n1_; clear n0_ n1_; clear ho hb hg hat))
                          repeat (go_quiet (first | ((with_reducible refine gate_builtin (b := .append) (xs := #[.tmp 44, .tmp 49]) rfl ?_); at_builtin; refine Kd.R_append k30 (w0 := w) w.heap.size rfl (.tmp 44) (.tmp 49) 22 30 (.agg #[(.int .i64 0), (.int .i64 0), (.string ⟨#[]⟩), (.int .i64 0), (.string ⟨#[]⟩), (.string ⟨#[]⟩), (.string ⟨#[]⟩), (.string ⟨#[]⟩), (.string ⟨#[]⟩)]) 120 rfl Tryd.underlying22 info30 rfl (by decide) (by omega) (.slice Ao19 x3_1.length co19) x3_1 (⟨(⟨(rd_T30 l0 x4_1).f0.f0, (rd_T30 l0 x4_1).f0.f1⟩ : S26), (rd_T30 l0 x4_1).f1, (rd_T30 l0 x4_1).f2, (rd_T30 l0 x4_1).f3, (⟨(rd_T30 l0 x4_1).f4.f0, (rd_T30 l0 x4_1).f4.f1⟩ : S28), (⟨(rd_T30 l0 x4_1).f5.f0, (rd_T30 l0 x4_1).f5.f1⟩ : S28)⟩ : S30) [.int .i64 ((rd_T30 l0 x4_1).f0.f0), .int .i64 ((rd_T30 l0 x4_1).f0.f1), .string ((rd_T30 l0 x4_1).f1), .int .i64 ((rd_T30 l0 x4_1).f2), .string ((rd_T30 l0 x4_1).f3), .string ((rd_T30 l0 x4_1).f4.f0), .string ((rd_T30 l0 x4_1).f4.f1), .string ((rd_T30 l0 x4_1).f5.f0), .string ((rd_T30 l0 x4_1).f5.f1)] (fun _ => True) (fun _ => False) rfl rfl ?aP (fun _ hk => hk.elim) ?aF ?aO ?aB ?aS ?aL ?_; (case aP => exact k30_mkM _ _ _ (⟨(⟨(rd_T30 l0 x4_1).f0.f0, (rd_T30 l0 x4_1).f0.f1⟩ : S26), (rd_T30 l0 x4_1).f1, (rd_T30 l0 x4_1).f2, (rd_T30 l0 x4_1).f3, (⟨(rd_T30 l0 x4_1).f4.f0, (rd_T30 l0 x4_1).f4.f1⟩ : S28), (⟨(rd_T30 l0 x4_1).f5.f0, (rd_T30 l0 x4_1).f5.f1⟩ : S28)⟩ : S30)); (case aB => exact (by repeat (first | (with_reducible first | exact HB.out | apply below_alloc | apply pw_below_drewN | apply below_drew1) | exact HB.out))); (case aF => exact (fun _ _ => trivial)); (case aO => exact (by (with_reducible repeat (first | apply Kd.R_alloc | apply Kd.R_drewN | apply Kd.R_drew)); exact HO_3.out)); (case aS => exact (below_size (by repeat (first | (with_reducible first | exact HB.out | apply below_alloc | apply pw_below_drewN | apply below_drew1) | exact HB.out)))); (case aL => have := LMc18.out; omega); intro v284 w20 ho hb hg hat; rw [← Ny283.out] at ho; have n0_ := aM (hb); have n1_ := aM (ho); clear HB HO_3; have HB := n0_; have HO285 := n1_; clear n0_ n1_; clear ho hb hg hat)); try go_wp2_with (first | ((with_reducible refine gate_builtin (b := .append) (xs := #[.tmp 44, .tmp 49]) rfl ?_); at_builtin; refine Kd.R_append k30 (w0 := w) w.heap.size rfl (.tmp 44) (.tmp 49) 22 30 (.agg #[(.int .i64 0), (.int .i64 0), (.string ⟨#[]⟩), (.int .i64 0), (.string ⟨#[]⟩), (.string ⟨#[]⟩), (.string ⟨#[]⟩), (.string ⟨#[]⟩), (.string ⟨#[]⟩)]) 120 rfl Tryd.underlying22 info30 rfl (by decide) (by omega) (.slice Ao19 x3_1.length co19) x3_1 (⟨(⟨(rd_T30 l0 x4_1).f0.f0, (rd_T30 l0 x4_1).f0.f1⟩ : S26), (rd_T30 l0 x4_1).f1, (rd_T30 l0 x4_1).f2, (rd_T30 l0 x4_1).f3, (⟨(rd_T30 l0 x4_1).f4.f0, (rd_T30 l0 x4_1).f4.f1⟩ : S28), (⟨(rd_T30 l0 x4_1).f5.f0, (rd_T30 l0 x4_1).f5.f1⟩ : S28)⟩ : S30) [.int .i64 ((rd_T30 l0 x4_1).f0.f0), .int .i64 ((rd_T30 l0 x4_1).f0.f1), .string ((rd_T30 l0 x4_1).f1), .int .i64 ((rd_T30 l0 x4_1).f2), .string ((rd_T30 l0 x4_1).f3), .string ((rd_T30 l0 x4_1).f4.f0), .string ((rd_T30 l0 x4_1).f4.f1), .string ((rd_T30 l0 x4_1).f5.f0), .string ((rd_T30 l0 x4_1).f5.f1)] (fun _ => True) (fun _ => False) rfl rfl ?aP (fun _ hk => hk.elim) ?aF ?aO ?aB ?aS ?aL ?_; (case aP => exact k30_mkM _ _ _ (⟨(⟨(rd_T30 l0 x4_1).f0.f0, (rd_T30 l0 x4_1).f0.f1⟩ : S26), (rd_T30 l0 x4_1).f1, (rd_T30 l0 x4_1).f2, (rd_T30 l0 x4_1).f3, (⟨(rd_T30 l0 x4_1).f4.f0, (rd_T30 l0 x4_1).f4.f1⟩ : S28), (⟨(rd_T30 l0 x4_1).f5.f0, (rd_T30 l0 x4_1).f5.f1⟩ : S28)⟩ : S30)); (case aB => exact (by repeat (first | (with_reducible first | exact HB.out | apply below_alloc | apply pw_below_drewN | apply below_drew1) | exact HB.out))); (case aF => exact (fun _ _ => trivial)); (case aO => exact (by (with_reducible repeat (first | apply Kd.R_alloc | apply Kd.R_drewN | apply Kd.R_drew)); exact HO_3.out)); (case aS => exact (below_size (by repeat (first | (with_reducible first | exact HB.out | apply below_alloc | apply pw_below_drewN | apply below_drew1) | exact HB.out)))); (case aL => have := LMc18.out; omega); intro v284 w20 ho hb hg hat; rw [← Ny283.out] at ho; have n0_ := aM (hb); have n1_ := aM (ho); clear HB HO_3; have HB := n0_; have HO285 := n1_; clear n0_ n1_; clear ho hb hg hat)))
                          go_roundg k2
                          case measure => have := HK1.out; have := HK2.out; omega
                          case rel => exact ⟨(y283), (wrap64 (x4_1 + 1)), (by first | rfl | (simp; done) | (simp [*]; done)), H', ⟨by have := HK1.out; have := HK2.out; omega⟩, ⟨by (with_reducible repeat (first | apply Kd.R_alloc | apply Kd.R_drewN | apply Kd.R_drew)); exact HO285.out⟩, ⟨by repeat (first | (with_reducible first | exact HB.out | apply below_alloc | apply pw_below_drewN | apply below_drew1) | exact HB.out)⟩⟩
                        · rw [if_neg c18] at H
                          exact absurd H (by simp)
                      · rw [if_neg c17] at H
                        exact absurd H (by simp)
                    · rw [if_neg c16] at H
                      exact absurd H (by simp)
                · replace c13 := Bool.eq_false_iff.mpr c13
                  subst c13
                  have H1 : (liveryref05_Counts.l0 k2 l0 x3_1 (wrap64 (x4_1 + 1))) = some r := by rw [if_neg (show ¬ (false = true) by decide)] at H; exact H
                  clear H
                  have H := H1
                  clear H1
                  have H' := Aside0.mk H
                  clear H
                  obtain ⟨Ao21, co21, eo21⟩ := Kd.R_slice HO_3.out
                  subst eo21
                  go_wp2
                  repeat (go_quiet (fail); try go_wp2)
                  go_roundg k2
                  case measure => have := HK1.out; have := HK2.out; omega
                  case rel => exact ⟨(x3_1), (wrap64 (x4_1 + 1)), (by first | rfl | (simp; done) | (simp [*]; done)), H', ⟨by have := HK1.out; have := HK2.out; omega⟩, ⟨by (with_reducible repeat (first | apply Kd.R_alloc | apply Kd.R_drewN | apply Kd.R_drew)); exact HO_3.out⟩, ⟨by repeat (first | (with_reducible first | exact HB.out | apply below_alloc | apply pw_below_drewN | apply below_drew1) | exact HB.out)⟩⟩
        · rw [if_neg c3] at H
          exact absurd H (by simp)
      · rw [if_neg c2] at H
        have c2b0 : decide (x4_1 < (l0.length : Int)) = false := decide_eq_false c2
        clear c2
        replace H := Option.bind_eq_some_iff.mp H
        obtain ⟨t275, A220, H⟩ := H
        replace H : (some t275) = some r := H
        have A22 := Aside0.mk A220
        clear A220
        obtain rfl := Option.some.inj H
        obtain ⟨Ao23, co23, eo23⟩ := Kd.R_slice HO_3.out
        subst eo23
        go_wp2_with (first | (go_at_call 7; (with_reducible refine (liveryref05_Sorted.calls k1 (fun k_ => some k_ = (.slice Ao23 x3_1.length co23 : Value).ownBlock) _ _ x3_1 t275 _ ?side1 A22.out).mono ?_); (case side1 => exact Kd.R_V (Kd.R_tight rfl (HO_3.out))); rintro e w24 ⟨v276, rfl, ho0, hb⟩; have n0_ := aM (Kd.R_elder' (by (with_reducible repeat (first | apply Kd.R_alloc | apply Kd.R_drewN | apply Kd.R_drew)); exact HO_3.out) (Kd.R_base ho0) hb); have n1_ := aM (Kd.R_lower (Kd.R_new' (Kd.R_mono (ok' := fun k_ => True) ho0 (fun _ hk_ => trivial)) (Kd.R_lt (by (with_reducible repeat (first | apply Kd.R_alloc | apply Kd.R_drewN | apply Kd.R_drew)); exact HO_3.out))) (below_size (by repeat (first | (with_reducible first | exact HB.out | apply below_alloc | apply pw_below_drewN | apply below_drew1) | exact HB.out)))); have n2_ := aM (below_step (by repeat (first | (with_reducible first | exact HB.out | apply below_alloc | apply pw_below_drewN | apply below_drew1) | exact HB.out)) hb); clear HO_3 HB; have HO_3 := n0_; have HO277 := n1_; have HB := n2_; clear n0_ n1_ n2_; (try clear hb); (try clear hb2); (try clear hk); (try clear hi); (try clear ho0)))
        repeat (go_quiet (first | (go_at_call 7; (with_reducible refine (liveryref05_Sorted.calls k1 (fun k_ => some k_ = (.slice Ao23 x3_1.length co23 : Value).ownBlock) _ _ x3_1 t275 _ ?side1 A22.out).mono ?_); (case side1 => exact Kd.R_V (Kd.R_tight rfl (HO_3.out))); rintro e w24 ⟨v276, rfl, ho0, hb⟩; have n0_ := aM (Kd.R_elder' (by (with_reducible repeat (first | apply Kd.R_alloc | apply Kd.R_drewN | apply Kd.R_drew)); exact HO_3.out) (Kd.R_base ho0) hb); have n1_ := aM (Kd.R_lower (Kd.R_new' (Kd.R_mono (ok' := fun k_ => True) ho0 (fun _ hk_ => trivial)) (Kd.R_lt (by (with_reducible repeat (first | apply Kd.R_alloc | apply Kd.R_drewN | apply Kd.R_drew)); exact HO_3.out))) (below_size (by repeat (first | (with_reducible first | exact HB.out | apply below_alloc | apply pw_below_drewN | apply below_drew1) | exact HB.out)))); have n2_ := aM (below_step (by repeat (first | (with_reducible first | exact HB.out | apply below_alloc | apply pw_below_drewN | apply below_drew1) | exact HB.out)) hb); clear HO_3 HB; have HO_3 := n0_; have HO277 := n1_; have HB := n2_; clear n0_ n1_ n2_; (try clear hb); (try clear hb2); (try clear hk); (try clear hi); (try clear ho0))); try go_wp2_with (first | (go_at_call 7; (with_reducible refine (liveryref05_Sorted.calls k1 (fun k_ => some k_ = (.slice Ao23 x3_1.length co23 : Value).ownBlock) _ _ x3_1 t275 _ ?side1 A22.out).mono ?_); (case side1 => exact Kd.R_V (Kd.R_tight rfl (HO_3.out))); rintro e w24 ⟨v276, rfl, ho0, hb⟩; have n0_ := aM (Kd.R_elder' (by (with_reducible repeat (first | apply Kd.R_alloc | apply Kd.R_drewN | apply Kd.R_drew)); exact HO_3.out) (Kd.R_base ho0) hb); have n1_ := aM (Kd.R_lower (Kd.R_new' (Kd.R_mono (ok' := fun k_ => True) ho0 (fun _ hk_ => trivial)) (Kd.R_lt (by (with_reducible repeat (first | apply Kd.R_alloc | apply Kd.R_drewN | apply Kd.R_drew)); exact HO_3.out))) (below_size (by repeat (first | (with_reducible first | exact HB.out | apply below_alloc | apply pw_below_drewN | apply below_drew1) | exact HB.out)))); have n2_ := aM (below_step (by repeat (first | (with_reducible first | exact HB.out | apply below_alloc | apply pw_below_drewN | apply below_drew1) | exact HB.out)) hb); clear HO_3 HB; have HO_3 := n0_; have HO277 := n1_; have HB := n2_; clear n0_ n1_ n2_; (try clear hb); (try clear hb2); (try clear hk); (try clear hi); (try clear ho0))))
        go_ret
        exact ⟨_, by first | rfl | (simp [errW_none, errW_some] <;> rfl) | (simp [*, errW_none, errW_some] <;> rfl), by (with_reducible repeat (first | apply Kd.R_alloc | apply Kd.R_drewN | apply Kd.R_drew)); exact Kd.R_mono HO277.out (fun _ hk => trivial), by repeat (first | (with_reducible first | exact HB.out | apply below_alloc | apply pw_below_drewN | apply below_drew1) | exact HB.out)⟩

end Go.Proofs.YtmlopbhlmgfknaaDoor.P
