/- Written by a program of this session's, for this claim: the functions that the law reaches, their contracts, the law's row. Not trusted: it is checked as any text. -/
import Derived.Test.YtmlopbhlmgfknaaDoorP0
import Derived.Test.YtmlopbhlmgfknaaDoorP14
import Derived.Test.YtmlopbhlmgfknaaDoorHArgs
namespace Go.Proofs.YtmlopbhlmgfknaaDoor.P
open Go.RowKit Go.Proofs.YtmlopbhlmgfknaaDoorW.PrintWords Go.Proofs.YtmlopbhlmgfknaaDoorW.PrintLast Go.Proofs.YtmlopbhlmgfknaaDoorW.PrintMore
attribute [local go_sem] max2_int min2_int max_two min_two max_three min_three max_four min_four   -- for this text's walks alone
set_option linter.unusedVariables false
set_option linter.unusedSimpArgs false

/-! ### liveryref05_Sorted: function 7 -/
mutual
def liveryref05_Sorted.l0 : Nat → List (S30) → List (S30) → Option ((List (S30)))
  | 0, _, _ => none
  | k + 1, x0, x3 => if (x0.length : Int) > 0 then (liveryref05_Sorted.l1 k x0 x3 0 1) else (some x3)
def liveryref05_Sorted.l1 : Nat → List (S30) → List (S30) → Int → Int → Option ((List (S30)))
  | 0, _, _, _, _ => none
  | k + 1, x0, x3, x4, x5 => if x5 < (x0.length : Int) then (if 0 ≤ x5 then (if 0 ≤ x4 then (if x4 < (x0.length : Int) then ((liveryref05_Before.f ((rd_T30 x0 x5).f0.f0) ((rd_T30 x0 x5).f0.f1) ((rd_T30 x0 x4).f0.f0) ((rd_T30 x0 x4).f0.f1)).bind fun t147 => (if t147 = true then (liveryref05_Sorted.l1 k x0 x3 x5 (wrap64 (x5 + 1))) else (liveryref05_Sorted.l1 k x0 x3 x4 (wrap64 (x5 + 1))))) else (none)) else (none)) else (none)) else (if 0 ≤ x4 then (if x4 < (x0.length : Int) then (if x3.length < 1172812402961 then (if x4 ≤ (x0.length : Int) then ((some (x0.take (x4 : Int).toNat : List (S30))).bind fun y152 => (if ([] : List (S30)).length + y152.length < 1172812402961 then ((some (([] : List (S30)) ++ y152 : List (S30))).bind fun y157 => (if 0 ≤ (wrap64 (x4 + 1)) then (if (wrap64 (x4 + 1)) ≤ (x0.length : Int) then ((some (x0.drop ((wrap64 (x4 + 1)) : Int).toNat : List (S30))).bind fun y160 => (if y157.length + y160.length < 1172812402961 then (liveryref05_Sorted.l0 k (y157 ++ y160) (x3 ++ [(⟨(⟨(rd_T30 x0 x4).f0.f0, (rd_T30 x0 x4).f0.f1⟩ : S26), (rd_T30 x0 x4).f1, (rd_T30 x0 x4).f2, (rd_T30 x0 x4).f3, (⟨(rd_T30 x0 x4).f4.f0, (rd_T30 x0 x4).f4.f1⟩ : S28), (⟨(rd_T30 x0 x4).f5.f0, (rd_T30 x0 x4).f5.f1⟩ : S28)⟩ : S30)])) else (none))) else (none)) else (none))) else (none))) else (none)) else (none)) else (none)) else (none))
end
def liveryref05_Sorted.f (k : Nat) (l0 : List (S30)) : Option ((List (S30))) := liveryref05_Sorted.l0 k l0 ([] : List (S30))
def liveryref05_Sorted.T7 : Bool × List (List Nat × List Nat) := (true, [([], []), ([], []), ([0, 1], [0, 1]), ([2], [2]), ([3], [3]), ([], []), ([], []), ([5, 6], [5, 6]), ([7], [7]), ([8], [8]), ([4, 9], [4, 9])])
def liveryref05_Sorted.B7 : List Nat := [0, 0, 3, 7, 15, 0, 0, 96, 224, 480, 1023]
theorem liveryref05_Sorted.tab7 : rtab .any (opsOf Tryd.f7 7) = liveryref05_Sorted.T7 := by kernel_rfl
theorem liveryref05_Sorted.bits7 : waitsOk liveryref05_Sorted.T7.2 liveryref05_Sorted.B7 = true := by kernel_rfl
set_option maxHeartbeats 8000000 in
set_option maxRecDepth 100000 in
theorem liveryref05_Sorted.calls (k : Nat) (P0_ : Nat → Prop) (A0 : Option Addr) (c0 : Nat) (l0 : List (S30)) (r : List (S30)) (w : World) (hs0 : Kd.V k30 30 w w.heap.size (fun k_ => P0_ k_) (.slice A0 l0.length c0) l0) (h : liveryref05_Sorted.f k l0 = some r) :
    Calls Tryd.prog 7 #[.slice A0 l0.length c0] w fun e w' => ∃ v0_ : Value, e = .returned (v0_) ∧ Kd.R k30 30 w' w.heap.size (fun k_ => (w.heap.size ≤ k_)) v0_ r ∧ Below w.heap.size w w' := by
  have hu26 := Tryd.underlying26
  have hu30 := Tryd.underlying30
  have HO0 := Aside0.mk (show Kd.V k30 30 w w.heap.size (fun k_ => (P0_ k_ ∨ w.heap.size ≤ k_)) (.slice A0 l0.length c0) l0 from Kd.V_mono hs0 (fun k_ hk => .inl hk))
  have HB := Aside0.mk (Below.refl w.heap.size w)
  have H : (liveryref05_Sorted.l0 k l0 ([] : List (S30))) = some r := h
  clear h
  have H' := Aside0.mk H
  clear H
  go_enter Tryd.func7, Tryd.ntmps7
  go_wp2
  go_loopg [0, 3] k (fun kq v0 v3 w' => ∃ (x0_1 : List (S30)) (x3_1 : List (S30)), Aside0 (liveryref05_Sorted.l0 kq x0_1 x3_1 = some r) ∧ Aside0 (kq ≤ k) ∧ Aside0 (Kd.V k30 30 w' w.heap.size (fun k_ => (P0_ k_ ∨ w.heap.size ≤ k_) ∧ some k_ ≠ (v3 : Value).ownBlock) v0 x0_1) ∧ Aside0 (Kd.R k30 30 w' w.heap.size (fun k_ => (w.heap.size ≤ k_)) v3 x3_1) ∧ Aside0 (Below w.heap.size w w'))
  case atStart => exact ⟨(l0), (([] : List (S30))), H', ⟨Nat.le_refl _⟩, ⟨by (with_reducible repeat (first | apply Kd.V_alloc | apply Kd.V_drewN | apply Kd.V_drew)); exact Kd.V_mono HO0.out (fun _ hk => ⟨hk, (by simp [Value.ownBlock])⟩)⟩, ⟨by first | exact Kd.R_nil _ _ _ _ _ | exact Kd.N_nil _ _ _ _ _ | exact Kd.V_nil _ _ _ _ _ | exact Kd.Q_nil _ _ _ _ _ | exact Kd.S_nil _ _ _ _ _⟩, ⟨by repeat (first | (with_reducible first | exact HB.out | apply below_alloc | apply pw_below_drewN | apply below_drew1) | exact HB.out)⟩⟩
  case round =>
    clear H'
    obtain ⟨x0_1, x3_1, HA, HK1, HO_0, HO_3, HB⟩ := hrel
    cases gk with
    | zero => exact absurd HA.out (by simp [liveryref05_Sorted.l0])
    | succ k1 =>
      have H := HA.out
      clear HA
      simp only [liveryref05_Sorted.l0] at H
      by_cases c2 : (x0_1.length : Int) > 0
      · rw [if_pos c2] at H
        have c2b0 : decide (0 < (x0_1.length : Int)) = true := decide_eq_true c2
        have c2b1 : decide (0 < x0_1.length) = true := decide_eq_true (by omega)
        clear c2
        have H' := Aside0.mk H
        clear H
        obtain ⟨Ao3, co3, eo3⟩ := Kd.V_slice HO_0.out
        subst eo3
        go_wp2
        go_loopg [4, 5] k1 (fun kq v4 v5 w' => ∃ (x4_2 : Int) (x5_2 : Int), v4 = .int .i64 x4_2 ∧ v5 = .int .i64 x5_2 ∧ Aside0 (liveryref05_Sorted.l1 kq x0_1 x3_1 x4_2 x5_2 = some r) ∧ Aside0 (kq ≤ k1) ∧ Aside0 (Kd.V k30 30 w' w.heap.size (fun k_ => (P0_ k_ ∨ w.heap.size ≤ k_) ∧ some k_ ≠ (u3 : Value).ownBlock) (.slice Ao3 x0_1.length co3) x0_1) ∧ Aside0 (Kd.R k30 30 w' w.heap.size (fun k_ => (w.heap.size ≤ k_)) u3 x3_1) ∧ Aside0 (Below w.heap.size w w'))
        case atStart => exact ⟨(0), (1), (by first | rfl | (simp; done) | (simp [*]; done)), (by first | rfl | (simp; done) | (simp [*]; done)), H', ⟨Nat.le_refl _⟩, ⟨by (with_reducible repeat (first | apply Kd.V_alloc | apply Kd.V_drewN | apply Kd.V_drew)); exact HO_0.out⟩, ⟨by (with_reducible repeat (first | apply Kd.R_alloc | apply Kd.R_drewN | apply Kd.R_drew)); exact HO_3.out⟩, ⟨by repeat (first | (with_reducible first | exact HB.out | apply below_alloc | apply pw_below_drewN | apply below_drew1) | exact HB.out)⟩⟩
        case round =>
          clear H'
          try clear c2
          try clear c2b0
          try clear c2b1
          try clear p2
          obtain ⟨x4_2, x5_2, rfl, rfl, HA, HK2, HO_0, HO_3, HB⟩ := hrel
          cases gk with
          | zero => exact absurd HA.out (by simp [liveryref05_Sorted.l1])
          | succ k2 =>
            have H := HA.out
            clear HA
            simp only [liveryref05_Sorted.l1] at H
            by_cases c4 : x5_2 < (x0_1.length : Int)
            · rw [if_pos c4] at H
              have c4b0 : decide (x5_2 < (x0_1.length : Int)) = true := decide_eq_true c4
              clear c4
              by_cases c5 : 0 ≤ x5_2
              · rw [if_pos c5] at H
                have c5b0 : decide (0 ≤ x5_2) = true := decide_eq_true c5
                clear c5
                by_cases c6 : 0 ≤ x4_2
                · rw [if_pos c6] at H
                  have c6b0 : decide (0 ≤ x4_2) = true := decide_eq_true c6
                  clear c6
                  by_cases c7 : x4_2 < (x0_1.length : Int)
                  · rw [if_pos c7] at H
                    have c7b0 : decide (x4_2 < (x0_1.length : Int)) = true := decide_eq_true c7
                    clear c7
                    replace H := Option.bind_eq_some_iff.mp H
                    obtain ⟨t147, A80, H⟩ := H
                    replace H : (if t147 = true then (liveryref05_Sorted.l1 k2 x0_1 x3_1 x5_2 (wrap64 (x5_2 + 1))) else (liveryref05_Sorted.l1 k2 x0_1 x3_1 x4_2 (wrap64 (x5_2 + 1)))) = some r := H
                    have A8 := Aside0.mk A80
                    clear A80
                    by_cases c9 : t147 = true
                    · subst c9
                      have H1 : (liveryref05_Sorted.l1 k2 x0_1 x3_1 x5_2 (wrap64 (x5_2 + 1))) = some r := by rw [if_pos rfl] at H; exact H
                      clear H
                      have H := H1
                      clear H1
                      have H' := Aside0.mk H
                      clear H
                      try go_wp2
                      have n0_ := aM (Kd.V_drew HO_0.out)
                      have n1_ := aM (Kd.R_drew HO_3.out)
                      have n2_ := aM (below_drew1 HB.out)
                      clear HO_0
                      clear HO_3
                      clear HB
                      have HO_0 := n0_
                      have HO_3 := n1_
                      have HB := n2_
                      clear n0_ n1_ n2_
                      have p145 : 0 ≤ (x5_2 : Int) := of_decide_eq_true (by first | (with_reducible assumption) | assumption)
                      have q145 : x5_2 < (x0_1.length : Int) := of_decide_eq_true (by first | (with_reducible assumption) | assumption)
                      obtain ⟨ad145, e145, hx145_0, hx145_1, hx145_2, hx145_3, hx145_4, hx145_5, hx145_6, hx145_7, hx145_8⟩ := at_T30 (Kd.V_reads' HO_0.out).2.2 x5_2 p145 q145
                      cases e145
                      replace p145 := eq_true p145
                      replace q145 := eq_true q145
                      have p146 : 0 ≤ (x4_2 : Int) := of_decide_eq_true (by first | (with_reducible assumption) | assumption)
                      have q146 : x4_2 < (x0_1.length : Int) := of_decide_eq_true (by first | (with_reducible assumption) | assumption)
                      obtain ⟨ad146, e146, hx146_0, hx146_1, hx146_2, hx146_3, hx146_4, hx146_5, hx146_6, hx146_7, hx146_8⟩ := at_T30 (Kd.V_reads' HO_0.out).2.2 x4_2 p146 q146
                      obtain rfl : ad145 = ad146 := (by injection e146)
                      replace p146 := eq_true p146
                      replace q146 := eq_true q146
                      refine start_ (n := 11) (S := fun w' => w'.cell? (ad145.add ((x5_2).toNat * 9)) = some (.int .i64 ((rd_T30 x0_1 x5_2).f0.f0)) ∧ w'.cell? ⟨(ad145.add ((x5_2).toNat * 9)).block, (ad145.add ((x5_2).toNat * 9)).off + 1, none⟩ = some (.int .i64 ((rd_T30 x0_1 x5_2).f0.f1)) ∧ w'.cell? ⟨(ad145.add ((x5_2).toNat * 9)).block, (ad145.add ((x5_2).toNat * 9)).off + 2, none⟩ = some (.string ((rd_T30 x0_1 x5_2).f1)) ∧ w'.cell? ⟨(ad145.add ((x5_2).toNat * 9)).block, (ad145.add ((x5_2).toNat * 9)).off + 3, none⟩ = some (.int .i64 ((rd_T30 x0_1 x5_2).f2)) ∧ w'.cell? ⟨(ad145.add ((x5_2).toNat * 9)).block, (ad145.add ((x5_2).toNat * 9)).off + 4, none⟩ = some (.string ((rd_T30 x0_1 x5_2).f3)) ∧ w'.cell? ⟨(ad145.add ((x5_2).toNat * 9)).block, (ad145.add ((x5_2).toNat * 9)).off + 5, none⟩ = some (.string ((rd_T30 x0_1 x5_2).f4.f0)) ∧ w'.cell? ⟨(ad145.add ((x5_2).toNat * 9)).block, (ad145.add ((x5_2).toNat * 9)).off + 6, none⟩ = some (.string ((rd_T30 x0_1 x5_2).f4.f1)) ∧ w'.cell? ⟨(ad145.add ((x5_2).toNat * 9)).block, (ad145.add ((x5_2).toNat * 9)).off + 7, none⟩ = some (.string ((rd_T30 x0_1 x5_2).f5.f0)) ∧ w'.cell? ⟨(ad145.add ((x5_2).toNat * 9)).block, (ad145.add ((x5_2).toNat * 9)).off + 8, none⟩ = some (.string ((rd_T30 x0_1 x5_2).f5.f1)) ∧ w'.cell? (ad145.add ((x4_2).toNat * 9)) = some (.int .i64 ((rd_T30 x0_1 x4_2).f0.f0)) ∧ w'.cell? ⟨(ad145.add ((x4_2).toNat * 9)).block, (ad145.add ((x4_2).toNat * 9)).off + 1, none⟩ = some (.int .i64 ((rd_T30 x0_1 x4_2).f0.f1)) ∧ w'.cell? ⟨(ad145.add ((x4_2).toNat * 9)).block, (ad145.add ((x4_2).toNat * 9)).off + 2, none⟩ = some (.string ((rd_T30 x0_1 x4_2).f1)) ∧ w'.cell? ⟨(ad145.add ((x4_2).toNat * 9)).block, (ad145.add ((x4_2).toNat * 9)).off + 3, none⟩ = some (.int .i64 ((rd_T30 x0_1 x4_2).f2)) ∧ w'.cell? ⟨(ad145.add ((x4_2).toNat * 9)).block, (ad145.add ((x4_2).toNat * 9)).off + 4, none⟩ = some (.string ((rd_T30 x0_1 x4_2).f3)) ∧ w'.cell? ⟨(ad145.add ((x4_2).toNat * 9)).block, (ad145.add ((x4_2).toNat * 9)).off + 5, none⟩ = some (.string ((rd_T30 x0_1 x4_2).f4.f0)) ∧ w'.cell? ⟨(ad145.add ((x4_2).toNat * 9)).block, (ad145.add ((x4_2).toNat * 9)).off + 6, none⟩ = some (.string ((rd_T30 x0_1 x4_2).f4.f1)) ∧ w'.cell? ⟨(ad145.add ((x4_2).toNat * 9)).block, (ad145.add ((x4_2).toNat * 9)).off + 7, none⟩ = some (.string ((rd_T30 x0_1 x4_2).f5.f0)) ∧ w'.cell? ⟨(ad145.add ((x4_2).toNat * 9)).block, (ad145.add ((x4_2).toNat * 9)).off + 8, none⟩ = some (.string ((rd_T30 x0_1 x4_2).f5.f1))) (ds := []) #[false, false, false, false, false, false, false, false, false, false, false] (by kernel_rfl) rfl rfl ⟨hx145_0, hx145_1, hx145_2, hx145_3, hx145_4, hx145_5, hx145_6, hx145_7, hx145_8, hx146_0, hx146_1, hx146_2, hx146_3, hx146_4, hx146_5, hx146_6, hx146_7, hx146_8⟩ (fun hHeld => ?_); refine with_tabW liveryref05_Sorted.tab7 liveryref05_Sorted.bits7 (fun HT_ HW_ => ?_)
                      generalize wr.drew = w10 at HO_0 HO_3 HB hx145_0 hx145_1 hx145_2 hx145_3 hx145_4 hx145_5 hx145_6 hx145_7 hx145_8 hx146_0 hx146_1 hx146_2 hx146_3 hx146_4 hx146_5 hx146_6 hx146_7 hx146_8 hHeld ⊢
                      refine pure_ (i := 0) (N := some 16) (v := ?_) (a' := ?_) #[true, false, false, false, false, false, false, false, false, false, false] rfl rfl (any_of HT_.out (by kernel_rfl)) (fun _ _ _ h => h) (Or.inl ⟨by rfl, ?_⟩) ?_ ?_
                      rotate_left
                      · intro w'
                        go_simp
                        with_reducible rfl
                      rotate_left
                      · simp only [Act.put, List.setIfInBounds_toArray, List.set_cons_zero, List.set_cons_succ, i64_w, i32_w]
                        rfl
                      refine pure_ (i := 1) (N := some 17) (v := ?_) (a' := ?_) #[true, true, false, false, false, false, false, false, false, false, false] rfl rfl (any_of HT_.out (by kernel_rfl)) (fun _ _ _ h => h) (Or.inl ⟨by rfl, ?_⟩) ?_ ?_
                      rotate_left
                      · intro w'
                        go_simp
                        with_reducible rfl
                      rotate_left
                      · simp only [Act.put, List.setIfInBounds_toArray, List.set_cons_zero, List.set_cons_succ, i64_w, i32_w]
                        rfl
                      refine pure_ (i := 2) (N := some 18) (v := ?_) (a' := ?_) #[true, true, true, false, false, false, false, false, false, false, false] rfl rfl (any_of HT_.out (by kernel_rfl)) (fun _ _ _ h => h) (Or.inl ⟨by rfl, ?_⟩) ?_ ?_
                      rotate_left
                      · intro w'
                        go_simp
                        with_reducible rfl
                      rotate_left
                      · simp only [Act.put, List.setIfInBounds_toArray, List.set_cons_zero, List.set_cons_succ, i64_w, i32_w]
                        rfl
                      refine pure_ (i := 3) (N := some 19) (v := ?_) (a' := ?_) #[true, true, true, true, false, false, false, false, false, false, false] rfl rfl (any_of HT_.out (by kernel_rfl)) (fun _ _ _ h => h) (Or.inl ⟨by rfl, ?_⟩) ?_ ?_
                      rotate_left
                      · intro w'
                        go_simp
                        with_reducible rfl
                      rotate_left
                      · simp only [Act.put, List.setIfInBounds_toArray, List.set_cons_zero, List.set_cons_succ, i64_w, i32_w]
                        rfl
                      refine pure_ (i := 5) (N := some 21) (v := ?_) (a' := ?_) #[true, true, true, true, false, true, false, false, false, false, false] rfl rfl (any_of HT_.out (by kernel_rfl)) (fun _ _ _ h => h) (Or.inl ⟨by rfl, ?_⟩) ?_ ?_
                      rotate_left
                      · intro w'
                        go_simp
                        with_reducible rfl
                      rotate_left
                      · simp only [Act.put, List.setIfInBounds_toArray, List.set_cons_zero, List.set_cons_succ, i64_w, i32_w]
                        rfl
                      refine pure_ (i := 6) (N := some 22) (v := ?_) (a' := ?_) #[true, true, true, true, false, true, true, false, false, false, false] rfl rfl (any_of HT_.out (by kernel_rfl)) (fun _ _ _ h => h) (Or.inl ⟨by rfl, ?_⟩) ?_ ?_
                      rotate_left
                      · intro w'
                        go_simp
                        with_reducible rfl
                      rotate_left
                      · simp only [Act.put, List.setIfInBounds_toArray, List.set_cons_zero, List.set_cons_succ, i64_w, i32_w]
                        rfl
                      refine pure_ (i := 7) (N := some 23) (v := ?_) (a' := ?_) #[true, true, true, true, false, true, true, true, false, false, false] rfl rfl (any_of HT_.out (by kernel_rfl)) (fun _ _ _ h => h) (Or.inl ⟨by rfl, ?_⟩) ?_ ?_
                      rotate_left
                      · intro w'
                        go_simp
                        with_reducible rfl
                      rotate_left
                      · simp only [Act.put, List.setIfInBounds_toArray, List.set_cons_zero, List.set_cons_succ, i64_w, i32_w]
                        rfl
                      refine pure_ (i := 8) (N := some 24) (v := ?_) (a' := ?_) #[true, true, true, true, false, true, true, true, true, false, false] rfl rfl (any_of HT_.out (by kernel_rfl)) (fun _ _ _ h => h) (Or.inl ⟨by rfl, ?_⟩) ?_ ?_
                      rotate_left
                      · intro w'
                        go_simp
                        with_reducible rfl
                      rotate_left
                      · simp only [Act.put, List.setIfInBounds_toArray, List.set_cons_zero, List.set_cons_succ, i64_w, i32_w]
                        rfl
                      refine take_ (i := 4) (N := some 20) (v := ?_) (a' := ?_) #[true, true, true, true, true, true, true, true, true, false, false] rfl rfl (take_ofW HT_.out HW_.out (by kernel_rfl)) (fun _ _ _ h => h) (Or.inl ⟨by rfl, ?_⟩) hHeld ?_ ?_
                      rotate_left
                      · rintro w' ⟨s0, s1, s2, s3, s4, s5, s6, s7, s8, s9, s10, s11, s12, s13, s14, s15, s16, s17⟩
                        go_simp
                        with_reducible rfl
                      rotate_left
                      · simp only [Act.put, List.setIfInBounds_toArray, List.set_cons_zero, List.set_cons_succ, i64_w, i32_w]
                        rfl
                      refine take_ (i := 9) (N := some 25) (v := ?_) (a' := ?_) #[true, true, true, true, true, true, true, true, true, true, false] rfl rfl (take_ofW HT_.out HW_.out (by kernel_rfl)) (fun _ _ _ h => h) (Or.inl ⟨by rfl, ?_⟩) hHeld ?_ ?_
                      rotate_left
                      · rintro w' ⟨s0, s1, s2, s3, s4, s5, s6, s7, s8, s9, s10, s11, s12, s13, s14, s15, s16, s17⟩
                        go_simp
                        with_reducible rfl
                      rotate_left
                      · simp only [Act.put, List.setIfInBounds_toArray, List.set_cons_zero, List.set_cons_succ, i64_w, i32_w]
                        rfl
                      refine one_ (i := 10) (N := some 26) #[true, true, true, true, true, true, true, true, true, true, true] rfl rfl (one_of HT_.out (by kernel_rfl)) (by decide) (fun K hK => ?_)
                      refine goes_ Tryd.func16 (by kernel_rfl) rfl #[.agg #[.int .i64 ((rd_T30 x0_1 x5_2).f0.f0), .int .i64 ((rd_T30 x0_1 x5_2).f0.f1)], .agg #[.int .i64 ((rd_T30 x0_1 x4_2).f0.f0), .int .i64 ((rd_T30 x0_1 x4_2).f0.f1)]] (by rfl) rfl rfl (by (try simp only [mA, mB, mC]); first | done | rfl | (simp only [List.length_drop, List.length_take]; rfl)) ?_
                      with_reducible refine (liveryref05_Before.calls ((rd_T30 x0_1 x5_2).f0.f0) ((rd_T30 x0_1 x5_2).f0.f1) ((rd_T30 x0_1 x4_2).f0.f0) ((rd_T30 x0_1 x4_2).f0.f1) true _ A8.out).mono ?_
                      rintro e w11 ⟨rfl, hb⟩
                      have HS0_ := (hb.cell (World.block_lt_of_cell? _ _ (hHeld.1))).trans (hHeld.1)
                      have HS1_ := (hb.cell (World.block_lt_of_cell? _ _ (hHeld.2.1))).trans (hHeld.2.1)
                      have HS2_ := (hb.cell (World.block_lt_of_cell? _ _ (hHeld.2.2.1))).trans (hHeld.2.2.1)
                      have HS3_ := (hb.cell (World.block_lt_of_cell? _ _ (hHeld.2.2.2.1))).trans (hHeld.2.2.2.1)
                      have HS4_ := (hb.cell (World.block_lt_of_cell? _ _ (hHeld.2.2.2.2.1))).trans (hHeld.2.2.2.2.1)
                      have HS5_ := (hb.cell (World.block_lt_of_cell? _ _ (hHeld.2.2.2.2.2.1))).trans (hHeld.2.2.2.2.2.1)
                      have HS6_ := (hb.cell (World.block_lt_of_cell? _ _ (hHeld.2.2.2.2.2.2.1))).trans (hHeld.2.2.2.2.2.2.1)
                      have HS7_ := (hb.cell (World.block_lt_of_cell? _ _ (hHeld.2.2.2.2.2.2.2.1))).trans (hHeld.2.2.2.2.2.2.2.1)
                      have HS8_ := (hb.cell (World.block_lt_of_cell? _ _ (hHeld.2.2.2.2.2.2.2.2.1))).trans (hHeld.2.2.2.2.2.2.2.2.1)
                      have HS9_ := (hb.cell (World.block_lt_of_cell? _ _ (hHeld.2.2.2.2.2.2.2.2.2.1))).trans (hHeld.2.2.2.2.2.2.2.2.2.1)
                      have HS10_ := (hb.cell (World.block_lt_of_cell? _ _ (hHeld.2.2.2.2.2.2.2.2.2.2.1))).trans (hHeld.2.2.2.2.2.2.2.2.2.2.1)
                      have HS11_ := (hb.cell (World.block_lt_of_cell? _ _ (hHeld.2.2.2.2.2.2.2.2.2.2.2.1))).trans (hHeld.2.2.2.2.2.2.2.2.2.2.2.1)
                      have HS12_ := (hb.cell (World.block_lt_of_cell? _ _ (hHeld.2.2.2.2.2.2.2.2.2.2.2.2.1))).trans (hHeld.2.2.2.2.2.2.2.2.2.2.2.2.1)
                      have HS13_ := (hb.cell (World.block_lt_of_cell? _ _ (hHeld.2.2.2.2.2.2.2.2.2.2.2.2.2.1))).trans (hHeld.2.2.2.2.2.2.2.2.2.2.2.2.2.1)
                      have HS14_ := (hb.cell (World.block_lt_of_cell? _ _ (hHeld.2.2.2.2.2.2.2.2.2.2.2.2.2.2.1))).trans (hHeld.2.2.2.2.2.2.2.2.2.2.2.2.2.2.1)
                      have HS15_ := (hb.cell (World.block_lt_of_cell? _ _ (hHeld.2.2.2.2.2.2.2.2.2.2.2.2.2.2.2.1))).trans (hHeld.2.2.2.2.2.2.2.2.2.2.2.2.2.2.2.1)
                      have HS16_ := (hb.cell (World.block_lt_of_cell? _ _ (hHeld.2.2.2.2.2.2.2.2.2.2.2.2.2.2.2.2.1))).trans (hHeld.2.2.2.2.2.2.2.2.2.2.2.2.2.2.2.2.1)
                      have HS17_ := (hb.cell (World.block_lt_of_cell? _ _ (hHeld.2.2.2.2.2.2.2.2.2.2.2.2.2.2.2.2.2))).trans (hHeld.2.2.2.2.2.2.2.2.2.2.2.2.2.2.2.2.2)
                      refine ⟨_, rfl, ?_⟩
                      have n0_ := aM (Kd.V_below (by (with_reducible repeat (first | apply Kd.V_alloc | apply Kd.V_drewN | apply Kd.V_drew)); exact HO_0.out) hb)
                      have n1_ := aM (Kd.R_below (by (with_reducible repeat (first | apply Kd.R_alloc | apply Kd.R_drewN | apply Kd.R_drew)); exact HO_3.out) hb)
                      have n2_ := aM (below_step (by repeat (first | (with_reducible first | exact HB.out | apply below_alloc | apply pw_below_drewN | apply below_drew1) | exact HB.out)) hb)
                      clear HO_0
                      clear HO_3
                      clear HB
                      have HO_0 := n0_
                      have HO_3 := n1_
                      have HB := n2_
                      clear n0_ n1_ n2_
                      (try clear hb)
                      (try clear hb2)
                      (try clear hk)
                      (try clear hi)
                      refine hK.out _ _ ⟨HS0_, HS1_, HS2_, HS3_, HS4_, HS5_, HS6_, HS7_, HS8_, HS9_, HS10_, HS11_, HS12_, HS13_, HS14_, HS15_, HS16_, HS17_⟩ (fun hHeld => ?_)
                      clear hK K
                      refine norm_ (a' := ?_) ?_ ?_
                      rotate_left
                      · show Act.put _ (some 26) _ = _
                        simp only [Act.put, List.setIfInBounds_toArray, List.set_cons_zero, List.set_cons_succ, i64_w, i32_w]
                        rfl
                      refine done_ (done_of HT_.out (by kernel_rfl)) ?_
                      try go_wp2
                      go_roundg k2
                      case measure => have := HK1.out; have := HK2.out; omega
                      case rel => exact ⟨(x5_2), (wrap64 (x5_2 + 1)), (by first | rfl | (simp; done) | (simp [*]; done)), (by first | rfl | (simp; done) | (simp [*]; done)), H', ⟨by have := HK1.out; have := HK2.out; omega⟩, ⟨by (with_reducible repeat (first | apply Kd.V_alloc | apply Kd.V_drewN | apply Kd.V_drew)); exact HO_0.out⟩, ⟨by (with_reducible repeat (first | apply Kd.R_alloc | apply Kd.R_drewN | apply Kd.R_drew)); exact HO_3.out⟩, ⟨by repeat (first | (with_reducible first | exact HB.out | apply below_alloc | apply pw_below_drewN | apply below_drew1) | exact HB.out)⟩⟩
                    · replace c9 := Bool.eq_false_iff.mpr c9
                      subst c9
                      have H1 : (liveryref05_Sorted.l1 k2 x0_1 x3_1 x4_2 (wrap64 (x5_2 + 1))) = some r := by rw [if_neg (show ¬ (false = true) by decide)] at H; exact H
                      clear H
                      have H := H1
                      clear H1
                      have H' := Aside0.mk H
                      clear H
                      try go_wp2
                      have n0_ := aM (Kd.V_drew HO_0.out)
                      have n1_ := aM (Kd.R_drew HO_3.out)
                      have n2_ := aM (below_drew1 HB.out)
                      clear HO_0
                      clear HO_3
                      clear HB
                      have HO_0 := n0_
                      have HO_3 := n1_
                      have HB := n2_
                      clear n0_ n1_ n2_
                      have p145 : 0 ≤ (x5_2 : Int) := of_decide_eq_true (by first | (with_reducible assumption) | assumption)
                      have q145 : x5_2 < (x0_1.length : Int) := of_decide_eq_true (by first | (with_reducible assumption) | assumption)
                      obtain ⟨ad145, e145, hx145_0, hx145_1, hx145_2, hx145_3, hx145_4, hx145_5, hx145_6, hx145_7, hx145_8⟩ := at_T30 (Kd.V_reads' HO_0.out).2.2 x5_2 p145 q145
                      cases e145
                      replace p145 := eq_true p145
                      replace q145 := eq_true q145
                      have p146 : 0 ≤ (x4_2 : Int) := of_decide_eq_true (by first | (with_reducible assumption) | assumption)
                      have q146 : x4_2 < (x0_1.length : Int) := of_decide_eq_true (by first | (with_reducible assumption) | assumption)
                      obtain ⟨ad146, e146, hx146_0, hx146_1, hx146_2, hx146_3, hx146_4, hx146_5, hx146_6, hx146_7, hx146_8⟩ := at_T30 (Kd.V_reads' HO_0.out).2.2 x4_2 p146 q146
                      obtain rfl : ad145 = ad146 := (by injection e146)
                      replace p146 := eq_true p146
                      replace q146 := eq_true q146
                      refine start_ (n := 11) (S := fun w' => w'.cell? (ad145.add ((x5_2).toNat * 9)) = some (.int .i64 ((rd_T30 x0_1 x5_2).f0.f0)) ∧ w'.cell? ⟨(ad145.add ((x5_2).toNat * 9)).block, (ad145.add ((x5_2).toNat * 9)).off + 1, none⟩ = some (.int .i64 ((rd_T30 x0_1 x5_2).f0.f1)) ∧ w'.cell? ⟨(ad145.add ((x5_2).toNat * 9)).block, (ad145.add ((x5_2).toNat * 9)).off + 2, none⟩ = some (.string ((rd_T30 x0_1 x5_2).f1)) ∧ w'.cell? ⟨(ad145.add ((x5_2).toNat * 9)).block, (ad145.add ((x5_2).toNat * 9)).off + 3, none⟩ = some (.int .i64 ((rd_T30 x0_1 x5_2).f2)) ∧ w'.cell? ⟨(ad145.add ((x5_2).toNat * 9)).block, (ad145.add ((x5_2).toNat * 9)).off + 4, none⟩ = some (.string ((rd_T30 x0_1 x5_2).f3)) ∧ w'.cell? ⟨(ad145.add ((x5_2).toNat * 9)).block, (ad145.add ((x5_2).toNat * 9)).off + 5, none⟩ = some (.string ((rd_T30 x0_1 x5_2).f4.f0)) ∧ w'.cell? ⟨(ad145.add ((x5_2).toNat * 9)).block, (ad145.add ((x5_2).toNat * 9)).off + 6, none⟩ = some (.string ((rd_T30 x0_1 x5_2).f4.f1)) ∧ w'.cell? ⟨(ad145.add ((x5_2).toNat * 9)).block, (ad145.add ((x5_2).toNat * 9)).off + 7, none⟩ = some (.string ((rd_T30 x0_1 x5_2).f5.f0)) ∧ w'.cell? ⟨(ad145.add ((x5_2).toNat * 9)).block, (ad145.add ((x5_2).toNat * 9)).off + 8, none⟩ = some (.string ((rd_T30 x0_1 x5_2).f5.f1)) ∧ w'.cell? (ad145.add ((x4_2).toNat * 9)) = some (.int .i64 ((rd_T30 x0_1 x4_2).f0.f0)) ∧ w'.cell? ⟨(ad145.add ((x4_2).toNat * 9)).block, (ad145.add ((x4_2).toNat * 9)).off + 1, none⟩ = some (.int .i64 ((rd_T30 x0_1 x4_2).f0.f1)) ∧ w'.cell? ⟨(ad145.add ((x4_2).toNat * 9)).block, (ad145.add ((x4_2).toNat * 9)).off + 2, none⟩ = some (.string ((rd_T30 x0_1 x4_2).f1)) ∧ w'.cell? ⟨(ad145.add ((x4_2).toNat * 9)).block, (ad145.add ((x4_2).toNat * 9)).off + 3, none⟩ = some (.int .i64 ((rd_T30 x0_1 x4_2).f2)) ∧ w'.cell? ⟨(ad145.add ((x4_2).toNat * 9)).block, (ad145.add ((x4_2).toNat * 9)).off + 4, none⟩ = some (.string ((rd_T30 x0_1 x4_2).f3)) ∧ w'.cell? ⟨(ad145.add ((x4_2).toNat * 9)).block, (ad145.add ((x4_2).toNat * 9)).off + 5, none⟩ = some (.string ((rd_T30 x0_1 x4_2).f4.f0)) ∧ w'.cell? ⟨(ad145.add ((x4_2).toNat * 9)).block, (ad145.add ((x4_2).toNat * 9)).off + 6, none⟩ = some (.string ((rd_T30 x0_1 x4_2).f4.f1)) ∧ w'.cell? ⟨(ad145.add ((x4_2).toNat * 9)).block, (ad145.add ((x4_2).toNat * 9)).off + 7, none⟩ = some (.string ((rd_T30 x0_1 x4_2).f5.f0)) ∧ w'.cell? ⟨(ad145.add ((x4_2).toNat * 9)).block, (ad145.add ((x4_2).toNat * 9)).off + 8, none⟩ = some (.string ((rd_T30 x0_1 x4_2).f5.f1))) (ds := []) #[false, false, false, false, false, false, false, false, false, false, false] (by kernel_rfl) rfl rfl ⟨hx145_0, hx145_1, hx145_2, hx145_3, hx145_4, hx145_5, hx145_6, hx145_7, hx145_8, hx146_0, hx146_1, hx146_2, hx146_3, hx146_4, hx146_5, hx146_6, hx146_7, hx146_8⟩ (fun hHeld => ?_); refine with_tabW liveryref05_Sorted.tab7 liveryref05_Sorted.bits7 (fun HT_ HW_ => ?_)
                      generalize wr.drew = w12 at HO_0 HO_3 HB hx145_0 hx145_1 hx145_2 hx145_3 hx145_4 hx145_5 hx145_6 hx145_7 hx145_8 hx146_0 hx146_1 hx146_2 hx146_3 hx146_4 hx146_5 hx146_6 hx146_7 hx146_8 hHeld ⊢
                      refine pure_ (i := 0) (N := some 16) (v := ?_) (a' := ?_) #[true, false, false, false, false, false, false, false, false, false, false] rfl rfl (any_of HT_.out (by kernel_rfl)) (fun _ _ _ h => h) (Or.inl ⟨by rfl, ?_⟩) ?_ ?_
                      rotate_left
                      · intro w'
                        go_simp
                        with_reducible rfl
                      rotate_left
                      · simp only [Act.put, List.setIfInBounds_toArray, List.set_cons_zero, List.set_cons_succ, i64_w, i32_w]
                        rfl
                      refine pure_ (i := 1) (N := some 17) (v := ?_) (a' := ?_) #[true, true, false, false, false, false, false, false, false, false, false] rfl rfl (any_of HT_.out (by kernel_rfl)) (fun _ _ _ h => h) (Or.inl ⟨by rfl, ?_⟩) ?_ ?_
                      rotate_left
                      · intro w'
                        go_simp
                        with_reducible rfl
                      rotate_left
                      · simp only [Act.put, List.setIfInBounds_toArray, List.set_cons_zero, List.set_cons_succ, i64_w, i32_w]
                        rfl
                      refine pure_ (i := 2) (N := some 18) (v := ?_) (a' := ?_) #[true, true, true, false, false, false, false, false, false, false, false] rfl rfl (any_of HT_.out (by kernel_rfl)) (fun _ _ _ h => h) (Or.inl ⟨by rfl, ?_⟩) ?_ ?_
                      rotate_left
                      · intro w'
                        go_simp
                        with_reducible rfl
                      rotate_left
                      · simp only [Act.put, List.setIfInBounds_toArray, List.set_cons_zero, List.set_cons_succ, i64_w, i32_w]
                        rfl
                      refine pure_ (i := 3) (N := some 19) (v := ?_) (a' := ?_) #[true, true, true, true, false, false, false, false, false, false, false] rfl rfl (any_of HT_.out (by kernel_rfl)) (fun _ _ _ h => h) (Or.inl ⟨by rfl, ?_⟩) ?_ ?_
                      rotate_left
                      · intro w'
                        go_simp
                        with_reducible rfl
                      rotate_left
                      · simp only [Act.put, List.setIfInBounds_toArray, List.set_cons_zero, List.set_cons_succ, i64_w, i32_w]
                        rfl
                      refine pure_ (i := 5) (N := some 21) (v := ?_) (a' := ?_) #[true, true, true, true, false, true, false, false, false, false, false] rfl rfl (any_of HT_.out (by kernel_rfl)) (fun _ _ _ h => h) (Or.inl ⟨by rfl, ?_⟩) ?_ ?_
                      rotate_left
                      · intro w'
                        go_simp
                        with_reducible rfl
                      rotate_left
                      · simp only [Act.put, List.setIfInBounds_toArray, List.set_cons_zero, List.set_cons_succ, i64_w, i32_w]
                        rfl
                      refine pure_ (i := 6) (N := some 22) (v := ?_) (a' := ?_) #[true, true, true, true, false, true, true, false, false, false, false] rfl rfl (any_of HT_.out (by kernel_rfl)) (fun _ _ _ h => h) (Or.inl ⟨by rfl, ?_⟩) ?_ ?_
                      rotate_left
                      · intro w'
                        go_simp
                        with_reducible rfl
                      rotate_left
                      · simp only [Act.put, List.setIfInBounds_toArray, List.set_cons_zero, List.set_cons_succ, i64_w, i32_w]
                        rfl
                      refine pure_ (i := 7) (N := some 23) (v := ?_) (a' := ?_) #[true, true, true, true, false, true, true, true, false, false, false] rfl rfl (any_of HT_.out (by kernel_rfl)) (fun _ _ _ h => h) (Or.inl ⟨by rfl, ?_⟩) ?_ ?_
                      rotate_left
                      · intro w'
                        go_simp
                        with_reducible rfl
                      rotate_left
                      · simp only [Act.put, List.setIfInBounds_toArray, List.set_cons_zero, List.set_cons_succ, i64_w, i32_w]
                        rfl
                      refine pure_ (i := 8) (N := some 24) (v := ?_) (a' := ?_) #[true, true, true, true, false, true, true, true, true, false, false] rfl rfl (any_of HT_.out (by kernel_rfl)) (fun _ _ _ h => h) (Or.inl ⟨by rfl, ?_⟩) ?_ ?_
                      rotate_left
                      · intro w'
                        go_simp
                        with_reducible rfl
                      rotate_left
                      · simp only [Act.put, List.setIfInBounds_toArray, List.set_cons_zero, List.set_cons_succ, i64_w, i32_w]
                        rfl
                      refine take_ (i := 4) (N := some 20) (v := ?_) (a' := ?_) #[true, true, true, true, true, true, true, true, true, false, false] rfl rfl (take_ofW HT_.out HW_.out (by kernel_rfl)) (fun _ _ _ h => h) (Or.inl ⟨by rfl, ?_⟩) hHeld ?_ ?_
                      rotate_left
                      · rintro w' ⟨s0, s1, s2, s3, s4, s5, s6, s7, s8, s9, s10, s11, s12, s13, s14, s15, s16, s17⟩
                        go_simp
                        with_reducible rfl
                      rotate_left
                      · simp only [Act.put, List.setIfInBounds_toArray, List.set_cons_zero, List.set_cons_succ, i64_w, i32_w]
                        rfl
                      refine take_ (i := 9) (N := some 25) (v := ?_) (a' := ?_) #[true, true, true, true, true, true, true, true, true, true, false] rfl rfl (take_ofW HT_.out HW_.out (by kernel_rfl)) (fun _ _ _ h => h) (Or.inl ⟨by rfl, ?_⟩) hHeld ?_ ?_
                      rotate_left
                      · rintro w' ⟨s0, s1, s2, s3, s4, s5, s6, s7, s8, s9, s10, s11, s12, s13, s14, s15, s16, s17⟩
                        go_simp
                        with_reducible rfl
                      rotate_left
                      · simp only [Act.put, List.setIfInBounds_toArray, List.set_cons_zero, List.set_cons_succ, i64_w, i32_w]
                        rfl
                      refine one_ (i := 10) (N := some 26) #[true, true, true, true, true, true, true, true, true, true, true] rfl rfl (one_of HT_.out (by kernel_rfl)) (by decide) (fun K hK => ?_)
                      refine goes_ Tryd.func16 (by kernel_rfl) rfl #[.agg #[.int .i64 ((rd_T30 x0_1 x5_2).f0.f0), .int .i64 ((rd_T30 x0_1 x5_2).f0.f1)], .agg #[.int .i64 ((rd_T30 x0_1 x4_2).f0.f0), .int .i64 ((rd_T30 x0_1 x4_2).f0.f1)]] (by rfl) rfl rfl (by (try simp only [mA, mB, mC]); first | done | rfl | (simp only [List.length_drop, List.length_take]; rfl)) ?_
                      with_reducible refine (liveryref05_Before.calls ((rd_T30 x0_1 x5_2).f0.f0) ((rd_T30 x0_1 x5_2).f0.f1) ((rd_T30 x0_1 x4_2).f0.f0) ((rd_T30 x0_1 x4_2).f0.f1) false _ A8.out).mono ?_
                      rintro e w13 ⟨rfl, hb⟩
                      have HS0_ := (hb.cell (World.block_lt_of_cell? _ _ (hHeld.1))).trans (hHeld.1)
                      have HS1_ := (hb.cell (World.block_lt_of_cell? _ _ (hHeld.2.1))).trans (hHeld.2.1)
                      have HS2_ := (hb.cell (World.block_lt_of_cell? _ _ (hHeld.2.2.1))).trans (hHeld.2.2.1)
                      have HS3_ := (hb.cell (World.block_lt_of_cell? _ _ (hHeld.2.2.2.1))).trans (hHeld.2.2.2.1)
                      have HS4_ := (hb.cell (World.block_lt_of_cell? _ _ (hHeld.2.2.2.2.1))).trans (hHeld.2.2.2.2.1)
                      have HS5_ := (hb.cell (World.block_lt_of_cell? _ _ (hHeld.2.2.2.2.2.1))).trans (hHeld.2.2.2.2.2.1)
                      have HS6_ := (hb.cell (World.block_lt_of_cell? _ _ (hHeld.2.2.2.2.2.2.1))).trans (hHeld.2.2.2.2.2.2.1)
                      have HS7_ := (hb.cell (World.block_lt_of_cell? _ _ (hHeld.2.2.2.2.2.2.2.1))).trans (hHeld.2.2.2.2.2.2.2.1)
                      have HS8_ := (hb.cell (World.block_lt_of_cell? _ _ (hHeld.2.2.2.2.2.2.2.2.1))).trans (hHeld.2.2.2.2.2.2.2.2.1)
                      have HS9_ := (hb.cell (World.block_lt_of_cell? _ _ (hHeld.2.2.2.2.2.2.2.2.2.1))).trans (hHeld.2.2.2.2.2.2.2.2.2.1)
                      have HS10_ := (hb.cell (World.block_lt_of_cell? _ _ (hHeld.2.2.2.2.2.2.2.2.2.2.1))).trans (hHeld.2.2.2.2.2.2.2.2.2.2.1)
                      have HS11_ := (hb.cell (World.block_lt_of_cell? _ _ (hHeld.2.2.2.2.2.2.2.2.2.2.2.1))).trans (hHeld.2.2.2.2.2.2.2.2.2.2.2.1)
                      have HS12_ := (hb.cell (World.block_lt_of_cell? _ _ (hHeld.2.2.2.2.2.2.2.2.2.2.2.2.1))).trans (hHeld.2.2.2.2.2.2.2.2.2.2.2.2.1)
                      have HS13_ := (hb.cell (World.block_lt_of_cell? _ _ (hHeld.2.2.2.2.2.2.2.2.2.2.2.2.2.1))).trans (hHeld.2.2.2.2.2.2.2.2.2.2.2.2.2.1)
                      have HS14_ := (hb.cell (World.block_lt_of_cell? _ _ (hHeld.2.2.2.2.2.2.2.2.2.2.2.2.2.2.1))).trans (hHeld.2.2.2.2.2.2.2.2.2.2.2.2.2.2.1)
                      have HS15_ := (hb.cell (World.block_lt_of_cell? _ _ (hHeld.2.2.2.2.2.2.2.2.2.2.2.2.2.2.2.1))).trans (hHeld.2.2.2.2.2.2.2.2.2.2.2.2.2.2.2.1)
                      have HS16_ := (hb.cell (World.block_lt_of_cell? _ _ (hHeld.2.2.2.2.2.2.2.2.2.2.2.2.2.2.2.2.1))).trans (hHeld.2.2.2.2.2.2.2.2.2.2.2.2.2.2.2.2.1)
                      have HS17_ := (hb.cell (World.block_lt_of_cell? _ _ (hHeld.2.2.2.2.2.2.2.2.2.2.2.2.2.2.2.2.2))).trans (hHeld.2.2.2.2.2.2.2.2.2.2.2.2.2.2.2.2.2)
                      refine ⟨_, rfl, ?_⟩
                      have n0_ := aM (Kd.V_below (by (with_reducible repeat (first | apply Kd.V_alloc | apply Kd.V_drewN | apply Kd.V_drew)); exact HO_0.out) hb)
                      have n1_ := aM (Kd.R_below (by (with_reducible repeat (first | apply Kd.R_alloc | apply Kd.R_drewN | apply Kd.R_drew)); exact HO_3.out) hb)
                      have n2_ := aM (below_step (by repeat (first | (with_reducible first | exact HB.out | apply below_alloc | apply pw_below_drewN | apply below_drew1) | exact HB.out)) hb)
                      clear HO_0
                      clear HO_3
                      clear HB
                      have HO_0 := n0_
                      have HO_3 := n1_
                      have HB := n2_
                      clear n0_ n1_ n2_
                      (try clear hb)
                      (try clear hb2)
                      (try clear hk)
                      (try clear hi)
                      refine hK.out _ _ ⟨HS0_, HS1_, HS2_, HS3_, HS4_, HS5_, HS6_, HS7_, HS8_, HS9_, HS10_, HS11_, HS12_, HS13_, HS14_, HS15_, HS16_, HS17_⟩ (fun hHeld => ?_)
                      clear hK K
                      refine norm_ (a' := ?_) ?_ ?_
                      rotate_left
                      · show Act.put _ (some 26) _ = _
                        simp only [Act.put, List.setIfInBounds_toArray, List.set_cons_zero, List.set_cons_succ, i64_w, i32_w]
                        rfl
                      refine done_ (done_of HT_.out (by kernel_rfl)) ?_
                      try go_wp2
                      go_roundg k2
                      case measure => have := HK1.out; have := HK2.out; omega
                      case rel => exact ⟨(x4_2), (wrap64 (x5_2 + 1)), (by first | rfl | (simp; done) | (simp [*]; done)), (by first | rfl | (simp; done) | (simp [*]; done)), H', ⟨by have := HK1.out; have := HK2.out; omega⟩, ⟨by (with_reducible repeat (first | apply Kd.V_alloc | apply Kd.V_drewN | apply Kd.V_drew)); exact HO_0.out⟩, ⟨by (with_reducible repeat (first | apply Kd.R_alloc | apply Kd.R_drewN | apply Kd.R_drew)); exact HO_3.out⟩, ⟨by repeat (first | (with_reducible first | exact HB.out | apply below_alloc | apply pw_below_drewN | apply below_drew1) | exact HB.out)⟩⟩
                  · rw [if_neg c7] at H
                    exact absurd H (by simp)
                · rw [if_neg c6] at H
                  exact absurd H (by simp)
              · rw [if_neg c5] at H
                exact absurd H (by simp)
            · rw [if_neg c4] at H
              have c4b0 : decide (x5_2 < (x0_1.length : Int)) = false := decide_eq_false c4
              clear c4
              by_cases c14 : 0 ≤ x4_2
              · rw [if_pos c14] at H
                have c14b0 : decide (0 ≤ x4_2) = true := decide_eq_true c14
                clear c14
                by_cases c15 : x4_2 < (x0_1.length : Int)
                · rw [if_pos c15] at H
                  have c15b0 : decide (x4_2 < (x0_1.length : Int)) = true := decide_eq_true c15
                  clear c15
                  by_cases c16 : x3_1.length < 1172812402961
                  · rw [if_pos c16] at H
                    have LMc16 := Aside0.mk c16
                    clear c16
                    obtain ⟨y149, hy149⟩ : ∃ y_ : List (S30), y_ = (x3_1 ++ [(⟨(⟨(rd_T30 x0_1 x4_2).f0.f0, (rd_T30 x0_1 x4_2).f0.f1⟩ : S26), (rd_T30 x0_1 x4_2).f1, (rd_T30 x0_1 x4_2).f2, (rd_T30 x0_1 x4_2).f3, (⟨(rd_T30 x0_1 x4_2).f4.f0, (rd_T30 x0_1 x4_2).f4.f1⟩ : S28), (⟨(rd_T30 x0_1 x4_2).f5.f0, (rd_T30 x0_1 x4_2).f5.f1⟩ : S28)⟩ : S30)]) := ⟨_, rfl⟩
                    replace H : (if x4_2 ≤ (x0_1.length : Int) then ((some (x0_1.take (x4_2 : Int).toNat : List (S30))).bind fun y152 => (if ([] : List (S30)).length + y152.length < 1172812402961 then ((some (([] : List (S30)) ++ y152 : List (S30))).bind fun y157 => (if 0 ≤ (wrap64 (x4_2 + 1)) then (if (wrap64 (x4_2 + 1)) ≤ (x0_1.length : Int) then ((some (x0_1.drop ((wrap64 (x4_2 + 1)) : Int).toNat : List (S30))).bind fun y160 => (if y157.length + y160.length < 1172812402961 then (liveryref05_Sorted.l0 k2 (y157 ++ y160) y149) else (none))) else (none)) else (none))) else (none))) else (none)) = some r := by first | (rw [hy149]; with_reducible exact H) | (have H2_ := (Option.bind_some _ _).symm.trans H; rw [hy149]; with_reducible exact H2_) | (have H2_ := (Option.bind_some _ _).symm.trans H; with_reducible exact H2_) | with_reducible exact H | (rw [hy149]; exact H) | exact H
                    have Ny149 := Aside0.mk hy149
                    clear hy149
                    have c17b0 := eq_true (of_decide_eq_true (by first | (with_reducible assumption) | assumption) : 0 ≤ x4_2)
                    by_cases c18 : x4_2 ≤ (x0_1.length : Int)
                    · rw [if_pos c18] at H
                      have c18b0 := eq_true c18
                      have c18b1 : decide (x4_2 ≤ (x0_1.length : Int)) = true := decide_eq_true c18
                      clear c18
                      obtain ⟨y152, hy152⟩ : ∃ y_ : List (S30), y_ = (x0_1.take (x4_2 : Int).toNat) := ⟨_, rfl⟩
                      replace H : (if ([] : List (S30)).length + y152.length < 1172812402961 then ((some (([] : List (S30)) ++ y152 : List (S30))).bind fun y157 => (if 0 ≤ (wrap64 (x4_2 + 1)) then (if (wrap64 (x4_2 + 1)) ≤ (x0_1.length : Int) then ((some (x0_1.drop ((wrap64 (x4_2 + 1)) : Int).toNat : List (S30))).bind fun y160 => (if y157.length + y160.length < 1172812402961 then (liveryref05_Sorted.l0 k2 (y157 ++ y160) y149) else (none))) else (none)) else (none))) else (none)) = some r := by first | (rw [hy152]; with_reducible exact H) | (have H2_ := (Option.bind_some _ _).symm.trans H; rw [hy152]; with_reducible exact H2_) | (have H2_ := (Option.bind_some _ _).symm.trans H; with_reducible exact H2_) | with_reducible exact H | (rw [hy152]; exact H) | exact H
                      have Ny152 := Aside0.mk hy152
                      clear hy152
                      by_cases c19 : ([] : List (S30)).length + y152.length < 1172812402961
                      · rw [if_pos c19] at H
                        have LMc19 := Aside0.mk c19
                        clear c19
                        obtain ⟨y157, hy157⟩ : ∃ y_ : List (S30), y_ = (([] : List (S30)) ++ y152) := ⟨_, rfl⟩
                        replace H : (if 0 ≤ (wrap64 (x4_2 + 1)) then (if (wrap64 (x4_2 + 1)) ≤ (x0_1.length : Int) then ((some (x0_1.drop ((wrap64 (x4_2 + 1)) : Int).toNat : List (S30))).bind fun y160 => (if y157.length + y160.length < 1172812402961 then (liveryref05_Sorted.l0 k2 (y157 ++ y160) y149) else (none))) else (none)) else (none)) = some r := by first | (rw [hy157]; with_reducible exact H) | (have H2_ := (Option.bind_some _ _).symm.trans H; rw [hy157]; with_reducible exact H2_) | (have H2_ := (Option.bind_some _ _).symm.trans H; with_reducible exact H2_) | with_reducible exact H | (rw [hy157]; exact H) | exact H
                        have Ny157 := Aside0.mk hy157
                        clear hy157
                        obtain ⟨ji20, hji20⟩ : ∃ j_ : Int, (wrap64 (x4_2 + 1)) = j_ := ⟨_, rfl⟩
                        replace H : (if 0 ≤ (ji20) then (if (ji20) ≤ (x0_1.length : Int) then ((some (x0_1.drop ((ji20) : Int).toNat : List (S30))).bind fun y160 => (if y157.length + y160.length < 1172812402961 then (liveryref05_Sorted.l0 k2 (y157 ++ y160) y149) else (none))) else (none)) else (none)) = some r := by first | (rw [hji20] at H; exact H) | (simp only [hji20] at H ⊢; exact H)
                        have hji20w : (IntKind.i64.wrap (x4_2 + 1)) = ji20 := (i64_w _).trans hji20
                        by_cases c21 : 0 ≤ (ji20)
                        · rw [if_pos c21] at H
                          have c21b0 := eq_true c21
                          have c21b1 : decide (0 ≤ (ji20)) = true := decide_eq_true c21
                          clear c21
                          by_cases c22 : (ji20) ≤ (x0_1.length : Int)
                          · rw [if_pos c22] at H
                            have c22b0 := eq_true c22
                            have c22b1 : decide ((ji20) ≤ (x0_1.length : Int)) = true := decide_eq_true c22
                            clear c22
                            obtain ⟨y160, hy160⟩ : ∃ y_ : List (S30), y_ = (x0_1.drop ((ji20) : Int).toNat) := ⟨_, rfl⟩
                            replace H : (if y157.length + y160.length < 1172812402961 then (liveryref05_Sorted.l0 k2 (y157 ++ y160) y149) else (none)) = some r := by first | (rw [hy160]; with_reducible exact H) | (have H2_ := (Option.bind_some _ _).symm.trans H; rw [hy160]; with_reducible exact H2_) | (have H2_ := (Option.bind_some _ _).symm.trans H; with_reducible exact H2_) | with_reducible exact H | (rw [hy160]; exact H) | exact H
                            have Ny160 := Aside0.mk hy160
                            clear hy160
                            by_cases c23 : y157.length + y160.length < 1172812402961
                            · rw [if_pos c23] at H
                              have LMc23 := Aside0.mk c23
                              clear c23
                              obtain ⟨y165, hy165⟩ : ∃ y_ : List (S30), y_ = (y157 ++ y160) := ⟨_, rfl⟩
                              replace H : (liveryref05_Sorted.l0 k2 y165 y149) = some r := by first | (rw [hy165]; with_reducible exact H) | (have H2_ := (Option.bind_some _ _).symm.trans H; rw [hy165]; with_reducible exact H2_) | (have H2_ := (Option.bind_some _ _).symm.trans H; with_reducible exact H2_) | with_reducible exact H | (rw [hy165]; exact H) | exact H
                              have Ny165 := Aside0.mk hy165
                              clear hy165
                              have H' := Aside0.mk H
                              clear H
                              have p148 : 0 ≤ (x4_2 : Int) := of_decide_eq_true (by first | (with_reducible assumption) | assumption)
                              have q148 : x4_2 < (x0_1.length : Int) := of_decide_eq_true (by first | (with_reducible assumption) | assumption)
                              obtain ⟨ad148, e148, hx148_0, hx148_1, hx148_2, hx148_3, hx148_4, hx148_5, hx148_6, hx148_7, hx148_8⟩ := at_T30 (Kd.V_reads' HO_0.out).2.2 x4_2 p148 q148
                              cases e148
                              replace p148 := eq_true p148
                              replace q148 := eq_true q148
                              go_wp2_with (first | ((with_reducible refine gate_builtin (b := .append) (xs := #[.tmp 28, .tmp 33]) rfl ?_); at_builtin; refine Kd.R_append k30 (w0 := w) w.heap.size rfl (.tmp 28) (.tmp 33) 22 30 (.agg #[(.int .i64 0), (.int .i64 0), (.string ⟨#[]⟩), (.int .i64 0), (.string ⟨#[]⟩), (.string ⟨#[]⟩), (.string ⟨#[]⟩), (.string ⟨#[]⟩), (.string ⟨#[]⟩)]) 120 rfl Tryd.underlying22 info30 rfl (by decide) (by omega) u3 x3_1 (⟨(⟨(rd_T30 x0_1 x4_2).f0.f0, (rd_T30 x0_1 x4_2).f0.f1⟩ : S26), (rd_T30 x0_1 x4_2).f1, (rd_T30 x0_1 x4_2).f2, (rd_T30 x0_1 x4_2).f3, (⟨(rd_T30 x0_1 x4_2).f4.f0, (rd_T30 x0_1 x4_2).f4.f1⟩ : S28), (⟨(rd_T30 x0_1 x4_2).f5.f0, (rd_T30 x0_1 x4_2).f5.f1⟩ : S28)⟩ : S30) [.int .i64 ((rd_T30 x0_1 x4_2).f0.f0), .int .i64 ((rd_T30 x0_1 x4_2).f0.f1), .string ((rd_T30 x0_1 x4_2).f1), .int .i64 ((rd_T30 x0_1 x4_2).f2), .string ((rd_T30 x0_1 x4_2).f3), .string ((rd_T30 x0_1 x4_2).f4.f0), .string ((rd_T30 x0_1 x4_2).f4.f1), .string ((rd_T30 x0_1 x4_2).f5.f0), .string ((rd_T30 x0_1 x4_2).f5.f1)] (fun k_ => (w.heap.size ≤ k_)) (fun _ => False) rfl rfl ?aP (fun _ hk => hk.elim) ?aF ?aO ?aB ?aS ?aL ?_; (case aP => exact k30_mkM _ _ _ (⟨(⟨(rd_T30 x0_1 x4_2).f0.f0, (rd_T30 x0_1 x4_2).f0.f1⟩ : S26), (rd_T30 x0_1 x4_2).f1, (rd_T30 x0_1 x4_2).f2, (rd_T30 x0_1 x4_2).f3, (⟨(rd_T30 x0_1 x4_2).f4.f0, (rd_T30 x0_1 x4_2).f4.f1⟩ : S28), (⟨(rd_T30 x0_1 x4_2).f5.f0, (rd_T30 x0_1 x4_2).f5.f1⟩ : S28)⟩ : S30)); (case aB => exact (by repeat (first | (with_reducible first | exact HB.out | apply below_alloc | apply pw_below_drewN | apply below_drew1) | exact HB.out))); (case aF => exact (fun k_ hk => (Nat.le_trans (below_size (by repeat (first | (with_reducible first | exact HB.out | apply below_alloc | apply pw_below_drewN | apply below_drew1) | exact HB.out))) hk))); (case aO => exact (by (with_reducible repeat (first | apply Kd.R_alloc | apply Kd.R_drewN | apply Kd.R_drew)); exact HO_3.out)); (case aS => exact (below_size (by repeat (first | (with_reducible first | exact HB.out | apply below_alloc | apply pw_below_drewN | apply below_drew1) | exact HB.out)))); (case aL => have := LMc16.out; omega); intro v150 w24 ho hb hg hat; rw [← Ny149.out] at ho; have n0_ := aM (Kd.V_afterv (ok := (fun k_ => (P0_ k_ ∨ w.heap.size ≤ k_))) (by (with_reducible repeat (first | apply Kd.V_alloc | apply Kd.V_drewN | apply Kd.V_drew)); exact HO_0.out) hg hat); have n1_ := aM (hb); have n2_ := aM (ho); clear HO_0 HB HO_3; have HO_0 := n0_; have HB := n1_; have HO151 := n2_; clear n0_ n1_ n2_; clear ho hb hg hat; have q25 : (x4_2 : Int) ≤ ((x0_1.length : Int) : Int) := of_decide_eq_true (by first | (with_reducible assumption) | assumption); obtain ⟨i025, hi025, _, hsz25, _⟩ := info_parts info30; have hroom25 : x0_1.length ≤ co3 := (Kd.V_reads' HO_0.out).2.1; have hC25 : Kd.F k30 _ _ (some ad148) x0_1.length x0_1 := (Kd.V_at (base := w.heap.size) HO_0.out).2.2; have hcut25 := cut_to (P := Tryd.prog) 22 30 .i64 Tryd.underlying22 hi025 (some ad148) x0_1.length co3 x4_2 (of_decide_eq_true (by first | (with_reducible assumption) | assumption)) q25 hroom25; have hr25 := Kd.F_take (m := (x4_2 : Int).toNat) hC25 (by omega); have hy25 : y152.length = (x4_2 : Int).toNat := (by rw [Ny152.out, List.length_take]; omega); rw [← Ny152.out] at hr25; rw [← hy25] at hcut25; have HO156 := Aside0.mk (show Kd.V k30 30 _ w.heap.size _ (.slice (some ad148) y152.length co3) y152 from Kd.V_mk (by omega) hr25); have HC156 := Aside0.mk (show y152.length ≤ co3 from by omega); clear hr25 hC25 hroom25 hi025 hsz25; have KY25 := Aside0.mk hy25; clear hy25; replace q25 := eq_true q25) | ((with_reducible refine gate_builtin (b := .append) (xs := #[.tmp 35, .tmp 38]) rfl ?_); at_builtin; refine Kd.R_append_rows k30 (w0 := w) w.heap.size rfl (.tmp 35) (.tmp 38) 22 30 (.agg #[(.int .i64 0), (.int .i64 0), (.string ⟨#[]⟩), (.int .i64 0), (.string ⟨#[]⟩), (.string ⟨#[]⟩), (.string ⟨#[]⟩), (.string ⟨#[]⟩), (.string ⟨#[]⟩)]) 120 rfl Tryd.underlying22 info30 rfl (by decide) (by omega) (.slice none 0 0) ([] : List (S30)) y152 _ _ _ (fun k_ => (w.heap.size ≤ k_) ∧ some k_ ≠ (v150 : Value).ownBlock) (fun _ => False) rfl rfl ?aO ?aR (fun _ _ h => h) (fun _ h => h.elim) ?aF ?aB ?aS ?aL ?_; (case aR => repeat (first | exact (Kd.V_reads' HO156.out).2.2 | (with_reducible refine Kd.C_alloc ?_ _) | (with_reducible refine Kd.C_drewN ?_ _) | (with_reducible refine Kd.C_drew ?_))); (case aB => exact (by repeat (first | (with_reducible first | exact HB.out | apply below_alloc | apply pw_below_drewN | apply below_drew1) | exact HB.out))); (case aF => exact (fun k_ hk => ⟨(Nat.le_trans (below_size (by repeat (first | (with_reducible first | exact HB.out | apply below_alloc | apply pw_below_drewN | apply below_drew1) | exact HB.out))) hk), Kd.fresh' (Kd.R_lt (by (with_reducible repeat (first | apply Kd.R_alloc | apply Kd.R_drewN | apply Kd.R_drew)); exact HO151.out)) k_ hk⟩)); (case aO => exact ((Kd.R_nil _ _ _ _ (fun k_ => (w.heap.size ≤ k_) ∧ some k_ ≠ (v150 : Value).ownBlock)))); (case aS => exact (below_size (by repeat (first | (with_reducible first | exact HB.out | apply below_alloc | apply pw_below_drewN | apply below_drew1) | exact HB.out)))); (case aL => have := LMc19.out; omega); intro v158 w26 ho hb hg hat; rw [← Ny157.out] at ho; have n0_ := aM (Kd.V_afterv (Kd.V_apart_nil (by (with_reducible repeat (first | apply Kd.V_alloc | apply Kd.V_drewN | apply Kd.V_drew)); exact HO_0.out)) hg hat); have n1_ := aM (Kd.R_after (Kd.R_apart_nil (by (with_reducible repeat (first | apply Kd.R_alloc | apply Kd.R_drewN | apply Kd.R_drew)); exact HO151.out)) hg hat); have n2_ := aM (Kd.V_afterv (Kd.V_apart_nil (by (with_reducible repeat (first | apply Kd.V_alloc | apply Kd.V_drewN | apply Kd.V_drew)); exact HO156.out)) hg hat); have n3_ := aM (hb); have n4_ := aM (ho); clear HO_0 HO151 HO156 HB; have HO_0 := n0_; have HO151 := n1_; have HO156 := n2_; have HB := n3_; have HO159 := n4_; clear n0_ n1_ n2_ n3_ n4_; clear ho hb hg hat; have q27 : ((ji20) : Int) ≤ ((x0_1.length : Int) : Int) := of_decide_eq_true (by first | (with_reducible assumption) | assumption); obtain ⟨i027, hi027, _, hsz27, _⟩ := info_parts info30; have hroom27 : x0_1.length ≤ co3 := (Kd.V_reads' HO_0.out).2.1; have hC27 : Kd.F k30 _ _ (some ad148) x0_1.length x0_1 := (Kd.V_at (base := w.heap.size) HO_0.out).2.2; have q027 : (0 : Int) ≤ ((ji20) : Int) := of_decide_eq_true (by first | (with_reducible assumption) | assumption); have hcut27 := cut_from (P := Tryd.prog) 22 30 .i64 Tryd.underlying22 hi027 9 hsz27 (some ad148) x0_1.length co3 (ji20) q027 q27; have hr27 := Kd.F_cut (m := ((ji20) : Int).toNat) (c := co3) hC27 (by omega) hroom27; obtain ⟨A27, hA27⟩ : ∃ A1, A1 = (if co3 = ((ji20) : Int).toNat then (some ad148) else ((some ad148) : Option Addr).map (·.add (((ji20) : Int).toNat * 9))) := ⟨_, rfl⟩; obtain ⟨c27, hc27⟩ : ∃ c1, c1 = co3 - ((ji20) : Int).toNat := ⟨_, rfl⟩; have hy27 : y160.length = x0_1.length - ((ji20) : Int).toNat := (by rw [Ny160.out, List.length_drop] <;> omega); rw [show (x0_1).drop ((ji20) : Int).toNat = y160 from Ny160.out.symm] at hr27; replace hr27 : Kd.F k30 _ _ A27 y160.length y160 := (by rw [hA27]; exact hr27); rw [← hy27, ← hA27, ← hc27] at hcut27; have HO164 := Aside0.mk (show Kd.V k30 30 _ w.heap.size _ (.slice A27 y160.length c27) y160 from Kd.V_mk (by rw [hy27, hc27]; exact Nat.sub_le_sub_right hroom27 _) hr27); have HC164 := Aside0.mk (show y160.length ≤ c27 from by rw [hy27, hc27]; exact Nat.sub_le_sub_right hroom27 _); clear hr27 hC27 hroom27 hi027 hsz27 hc27; have KY27 := Aside0.mk hy27; have KA27 := Aside0.mk hA27; clear hy27 hA27; replace q27 := eq_true q27) | ((with_reducible refine gate_builtin (b := .append) (xs := #[.tmp 40, .tmp 44]) rfl ?_); at_builtin; refine Kd.R_append_rows k30 (w0 := w) w.heap.size rfl (.tmp 40) (.tmp 44) 22 30 (.agg #[(.int .i64 0), (.int .i64 0), (.string ⟨#[]⟩), (.int .i64 0), (.string ⟨#[]⟩), (.string ⟨#[]⟩), (.string ⟨#[]⟩), (.string ⟨#[]⟩), (.string ⟨#[]⟩)]) 120 rfl Tryd.underlying22 info30 rfl (by decide) (by omega) v158 y157 y160 _ _ _ (fun k_ => (w.heap.size ≤ k_) ∧ some k_ ≠ (v150 : Value).ownBlock) (fun _ => False) rfl rfl ?aO ?aR (fun _ _ h => h) (fun _ h => h.elim) ?aF ?aB ?aS ?aL ?_; (case aR => repeat (first | exact (Kd.V_reads' HO164.out).2.2 | (with_reducible refine Kd.C_alloc ?_ _) | (with_reducible refine Kd.C_drewN ?_ _) | (with_reducible refine Kd.C_drew ?_))); (case aB => exact (by repeat (first | (with_reducible first | exact HB.out | apply below_alloc | apply pw_below_drewN | apply below_drew1) | exact HB.out))); (case aF => exact (fun k_ hk => ⟨(Nat.le_trans (below_size (by repeat (first | (with_reducible first | exact HB.out | apply below_alloc | apply pw_below_drewN | apply below_drew1) | exact HB.out))) hk), Kd.fresh' (Kd.R_lt (by (with_reducible repeat (first | apply Kd.R_alloc | apply Kd.R_drewN | apply Kd.R_drew)); exact HO151.out)) k_ hk⟩)); (case aO => exact (by (with_reducible repeat (first | apply Kd.R_alloc | apply Kd.R_drewN | apply Kd.R_drew)); exact HO159.out)); (case aS => exact (below_size (by repeat (first | (with_reducible first | exact HB.out | apply below_alloc | apply pw_below_drewN | apply below_drew1) | exact HB.out)))); (case aL => have := LMc23.out; omega); intro v166 w28 ho hb hg hat; rw [← Ny165.out] at ho; have n0_ := aM (Kd.V_afterv (ok := (fun k_ => (P0_ k_ ∨ w.heap.size ≤ k_) ∧ some k_ ≠ (v150 : Value).ownBlock)) (by (with_reducible repeat (first | apply Kd.V_alloc | apply Kd.V_drewN | apply Kd.V_drew)); exact HO_0.out) hg hat); have n1_ := aM (Kd.R_after (ok := (fun k_ => (w.heap.size ≤ k_))) (by (with_reducible repeat (first | apply Kd.R_alloc | apply Kd.R_drewN | apply Kd.R_drew)); exact HO151.out) hg hat); have n2_ := aM (Kd.V_afterv (ok := (fun k_ => (P0_ k_ ∨ w.heap.size ≤ k_) ∧ some k_ ≠ (v150 : Value).ownBlock)) (by (with_reducible repeat (first | apply Kd.V_alloc | apply Kd.V_drewN | apply Kd.V_drew)); exact HO156.out) hg hat); have n3_ := aM (Kd.V_afterv (ok := (fun k_ => (P0_ k_ ∨ w.heap.size ≤ k_) ∧ some k_ ≠ (v150 : Value).ownBlock)) (by (with_reducible repeat (first | apply Kd.V_alloc | apply Kd.V_drewN | apply Kd.V_drew)); exact HO164.out) hg hat); have n4_ := aM (hb); have n5_ := aM (ho); clear HO_0 HO151 HO156 HO164 HB HO159; have HO_0 := n0_; have HO151 := n1_; have HO156 := n2_; have HO164 := n3_; have HB := n4_; have HO167 := n5_; clear n0_ n1_ n2_ n3_ n4_ n5_; clear ho hb hg hat))
                              go_roundg k2
                              case measure => have := HK1.out; have := HK2.out; omega
                              case rel => exact ⟨(y165), (y149), H', ⟨by have := HK1.out; have := HK2.out; omega⟩, ⟨Kd.V_mono (Kd.R_V (by (with_reducible repeat (first | apply Kd.R_alloc | apply Kd.R_drewN | apply Kd.R_drew)); exact HO167.out)) (fun k_ hk => by first | exact ⟨(.inr (hk.1)), hk.2⟩ | exact (.inr (hk)))⟩, ⟨by (with_reducible repeat (first | apply Kd.R_alloc | apply Kd.R_drewN | apply Kd.R_drew)); exact Kd.R_mono HO151.out (fun _ hk => hk.1)⟩, ⟨by repeat (first | (with_reducible first | exact HB.out | apply below_alloc | apply pw_below_drewN | apply below_drew1) | exact HB.out)⟩⟩
                            · rw [if_neg c23] at H
                              exact absurd H (by simp)
                          · rw [if_neg c22] at H
                            exact absurd H (by simp)
                        · rw [if_neg c21] at H
                          exact absurd H (by simp)
                      · rw [if_neg c19] at H
                        exact absurd H (by simp)
                    · rw [if_neg c18] at H
                      exact absurd H (by simp)
                  · rw [if_neg c16] at H
                    exact absurd H (by simp)
                · rw [if_neg c15] at H
                  exact absurd H (by simp)
              · rw [if_neg c14] at H
                exact absurd H (by simp)
      · rw [if_neg c2] at H
        have c2b0 : decide (0 < (x0_1.length : Int)) = false := decide_eq_false c2
        have c2b1 : decide (0 < x0_1.length) = false := decide_eq_false (by omega)
        clear c2
        obtain rfl := Option.some.inj H
        obtain ⟨Ao29, co29, eo29⟩ := Kd.V_slice HO_0.out
        subst eo29
        go_wp2
        go_ret
        exact ⟨_, by first | rfl | (simp [errW_none, errW_some] <;> rfl) | (simp [*, errW_none, errW_some] <;> rfl), by (with_reducible repeat (first | apply Kd.R_alloc | apply Kd.R_drewN | apply Kd.R_drew)); exact HO_3.out, by repeat (first | (with_reducible first | exact HB.out | apply below_alloc | apply pw_below_drewN | apply below_drew1) | exact HB.out)⟩

end Go.Proofs.YtmlopbhlmgfknaaDoor.P
