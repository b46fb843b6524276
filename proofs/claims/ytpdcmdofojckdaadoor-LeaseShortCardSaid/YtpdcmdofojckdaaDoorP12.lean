/- Written by a program of this session's, for this claim: the functions that the law reaches, their contracts, the law's row. Not trusted: it is checked as any text. -/
import Derived.Test.YtpdcmdofojckdaaDoorP0
import Derived.Test.YtpdcmdofojckdaaDoorP25
import Derived.Test.YtpdcmdofojckdaaDoorP11
import Derived.Test.YtpdcmdofojckdaaDoorP15
import Derived.Test.YtpdcmdofojckdaaDoorHSorted
namespace Go.Proofs.YtpdcmdofojckdaaDoor.P
open Go.RowKit Go.Proofs.YtpdcmdofojckdaaDoorW.PrintWords Go.Proofs.YtpdcmdofojckdaaDoorW.PrintLast Go.Proofs.YtpdcmdofojckdaaDoorW.PrintMore
attribute [local go_sem] max2_int min2_int max_two min_two max_three min_three max_four min_four   -- for this text's walks alone
set_option linter.unusedVariables false
set_option linter.unusedSimpArgs false

attribute [local go_sem high] eqA36
/-! ### cred_Counts: function 24 -/
def cred_Counts.l0 : Nat → List (S40) → List (S40) → Int → Int → Option ((List (S40)))
  | 0, _, _, _, _ => none
  | k + 1, x3, x7, x8, x9 => if x9 < x8 then (if 0 ≤ x9 then (if x9 < (x7.length : Int) then ((cred_May.f k ((rd_T40 x7 x9).f0.f0) ((rd_T40 x7 x9).f0.f1) ((rd_T40 x7 x9).f1) ((rd_T40 x7 x9).f2) ((rd_T40 x7 x9).f3) ((rd_T40 x7 x9).f4.f0) ((rd_T40 x7 x9).f4.f1) ((rd_T40 x7 x9).f5.f0) ((rd_T40 x7 x9).f5.f1)).bind fun t133 => (if t133 = true then (if (x3.length : Int) = 0 then (if x3.length < 1172812402961 then (cred_Counts.l0 k (x3 ++ [(⟨(⟨(rd_T40 x7 x9).f0.f0, (rd_T40 x7 x9).f0.f1⟩ : S36), (rd_T40 x7 x9).f1, (rd_T40 x7 x9).f2, (rd_T40 x7 x9).f3, (⟨(rd_T40 x7 x9).f4.f0, (rd_T40 x7 x9).f4.f1⟩ : S38), (⟨(rd_T40 x7 x9).f5.f0, (rd_T40 x7 x9).f5.f1⟩ : S38)⟩ : S40)]) x7 x8 (wrap64 (x9 + 1))) else (none)) else (if 0 ≤ (wrap64 ((x3.length : Int) - 1)) then (if (wrap64 ((x3.length : Int) - 1)) < (x3.length : Int) then (if (!(((rd_T40 x3 (wrap64 ((x3.length : Int) - 1))).f0.f0) == ((rd_T40 x7 x9).f0.f0)) || (!(((rd_T40 x3 (wrap64 ((x3.length : Int) - 1))).f0.f1) == ((rd_T40 x7 x9).f0.f1)))) = true then (if x3.length < 1172812402961 then (cred_Counts.l0 k (x3 ++ [(⟨(⟨(rd_T40 x7 x9).f0.f0, (rd_T40 x7 x9).f0.f1⟩ : S36), (rd_T40 x7 x9).f1, (rd_T40 x7 x9).f2, (rd_T40 x7 x9).f3, (⟨(rd_T40 x7 x9).f4.f0, (rd_T40 x7 x9).f4.f1⟩ : S38), (⟨(rd_T40 x7 x9).f5.f0, (rd_T40 x7 x9).f5.f1⟩ : S38)⟩ : S40)]) x7 x8 (wrap64 (x9 + 1))) else (none)) else (cred_Counts.l0 k x3 x7 x8 (wrap64 (x9 + 1)))) else (none)) else (none))) else (cred_Counts.l0 k x3 x7 x8 (wrap64 (x9 + 1))))) else (none)) else (none)) else (some x3)
def cred_Counts.f (k : Nat) (l0 : List (S40)) : Option ((List (S40))) := (cred_Sorted.f l0).bind fun t128 => (cred_Counts.l0 k ([] : List (S40)) t128 (t128.length : Int) 0)
def cred_Counts.T5 : Bool × List (List Nat × List Nat) := (true, [([], []), ([0], [0]), ([1, 1], [1]), ([2], [2]), ([3, 2], [2, 3]), ([4, 2], [2, 4]), ([5, 2, 2], [2, 5]), ([6], [6]), ([6], [6]), ([8, 6], [6, 8]), ([9, 6], [6, 9]), ([7, 10, 6], [6, 7, 10]), ([11, 6], [6, 11]), ([12, 6], [6, 12]), ([6], [6]), ([14, 6], [6, 14]), ([13, 15, 6], [6, 13, 15]), ([6, 16, 2], [2, 6, 16]), ([2, 17], [2, 17])])
def cred_Counts.B5 : List Nat := [0, 1, 3, 7, 15, 31, 63, 127, 127, 383, 895, 2047, 4095, 8191, 127, 16511, 65535, 131071, 262143]
theorem cred_Counts.tab5 : rtab .any (opsOf Tryd.f24 5) = cred_Counts.T5 := by kernel_rfl
theorem cred_Counts.bits5 : waitsOk cred_Counts.T5.2 cred_Counts.B5 = true := by kernel_rfl
set_option maxHeartbeats 8000000 in
set_option maxRecDepth 100000 in
theorem cred_Counts.calls (k : Nat) (A0 : Option Addr) (c0 : Nat) (l0 : List (S40)) (r : List (S40)) (w : World) (hr0 : Kd.C k40 w A0 l0.length l0) (hc0 : l0.length ≤ c0) (h : cred_Counts.f k l0 = some r) :
    Calls Tryd.prog 24 #[.slice A0 l0.length c0] w fun e w' => ∃ v0_ : Value, e = .returned (v0_) ∧ Kd.R k40 40 w' w.heap.size (fun _ => True) v0_ r ∧ Below w.heap.size w w' := by
  have hu40 := Tryd.underlying40
  have hu36 := Tryd.underlying36
  have HR0 := Aside0.mk hr0
  have HC0 := Aside0.mk hc0
  clear hr0 hc0
  have HB := Aside0.mk (Below.refl w.heap.size w)
  have H : ((cred_Sorted.f l0).bind fun t128 => (cred_Counts.l0 k ([] : List (S40)) t128 (t128.length : Int) 0)) = some r := h
  clear h
  replace H := Option.bind_eq_some_iff.mp H
  obtain ⟨t128, A20, H⟩ := H
  replace H : (cred_Counts.l0 k ([] : List (S40)) t128 (t128.length : Int) 0) = some r := H
  have A2 := Aside0.mk A20
  clear A20
  have H' := Aside0.mk H
  clear H
  go_enter Tryd.func24, Tryd.ntmps24
  go_wp2_with (first | ((with_reducible refine gate_callee (f := 37) rfl ?_); refine goesL_ (some 7) rfl rfl Tryd.func37 (by kernel_rfl) rfl #[.slice A0 l0.length c0] rfl (by (try simp only [mA, mB, mC]); first | done | rfl | (simp only [List.length_drop, List.length_take]; rfl)) ?_; (with_reducible refine (cred_Sorted.calls _ _ l0 t128 _ ?side1 ?side2 A2.out).mono ?_); (case side1 => repeat (first | exact HR0.out | (with_reducible refine Kd.C_alloc ?_ _) | (with_reducible refine Kd.C_drewN ?_ _) | (with_reducible refine Kd.C_drew ?_))); (case side2 => exact HC0.out); rintro e w3 ⟨v129, rfl, ho0, hb⟩; refine ⟨_, rfl, ?_⟩; have n0_ := aM (Kd.R_lower ho0 (below_size (by repeat (first | (with_reducible first | exact HB.out | apply below_alloc | apply pw_below_drewN | apply below_drew1) | exact HB.out)))); have n1_ := aM (below_step (by repeat (first | (with_reducible first | exact HB.out | apply below_alloc | apply pw_below_drewN | apply below_drew1) | exact HB.out)) hb); clear HB; have HO130 := n0_; have HB := n1_; clear n0_ n1_; (try clear hb); (try clear hb2); (try clear hk); (try clear hi); (try clear ho0); obtain ⟨Ao4, co4, eo4⟩ := Kd.R_slice HO130.out; subst eo4))
  go_loopg [3, 9] k (fun kq v3 v9 w' => ∃ (x3_1 : List (S40)) (x9_1 : Int), v9 = .int .i64 x9_1 ∧ Aside0 (cred_Counts.l0 kq x3_1 t128 (t128.length : Int) x9_1 = some r) ∧ Aside0 (kq ≤ k) ∧ Aside0 (Kd.R k40 40 w' w.heap.size (fun k_ => some k_ ≠ ((.slice Ao4 t128.length co4) : Value).ownBlock) v3 x3_1) ∧ Aside0 (Kd.R k40 40 w' w.heap.size (fun k_ => some k_ ≠ (v3 : Value).ownBlock) (.slice Ao4 t128.length co4) t128) ∧ Aside0 (Below w.heap.size w w'))
  case atStart => exact ⟨(([] : List (S40))), (0), (by first | rfl | (simp; done) | (simp [*]; done)), H', ⟨Nat.le_refl _⟩, ⟨by first | exact Kd.R_nil _ _ _ _ _ | exact Kd.N_nil _ _ _ _ _ | exact Kd.V_nil _ _ _ _ _ | exact Kd.Q_nil _ _ _ _ _ | exact Kd.S_nil _ _ _ _ _⟩, ⟨by (with_reducible repeat (first | apply Kd.R_alloc | apply Kd.R_drewN | apply Kd.R_drew)); exact Kd.R_mono HO130.out (fun _ hk => (by simp [Value.ownBlock]))⟩, ⟨by repeat (first | (with_reducible first | exact HB.out | apply below_alloc | apply pw_below_drewN | apply below_drew1) | exact HB.out)⟩⟩
  case round =>
    clear H'
    try clear c2
    try clear p2
    try clear c3
    obtain ⟨x3_1, x9_1, rfl, HA, HK1, HO_3, HO_7, HB⟩ := hrel
    cases gk with
    | zero => exact absurd HA.out (by simp [cred_Counts.l0])
    | succ k1 =>
      have H := HA.out
      clear HA
      simp only [cred_Counts.l0] at H
      by_cases c5 : x9_1 < (t128.length : Int)
      · rw [if_pos c5] at H
        have c5b0 : decide (x9_1 < (t128.length : Int)) = true := decide_eq_true c5
        clear c5
        by_cases c6 : 0 ≤ x9_1
        · rw [if_pos c6] at H
          have c6b0 : decide (0 ≤ x9_1) = true := decide_eq_true c6
          clear c6
          by_cases c7 : x9_1 < (t128.length : Int)
          · rw [if_pos c7] at H
            have c7b0 : decide (x9_1 < (t128.length : Int)) = true := decide_eq_true c7
            clear c7
            replace H := Option.bind_eq_some_iff.mp H
            obtain ⟨t133, A80, H⟩ := H
            replace H : (if t133 = true then (if (x3_1.length : Int) = 0 then (if x3_1.length < 1172812402961 then (cred_Counts.l0 k1 (x3_1 ++ [(⟨(⟨(rd_T40 t128 x9_1).f0.f0, (rd_T40 t128 x9_1).f0.f1⟩ : S36), (rd_T40 t128 x9_1).f1, (rd_T40 t128 x9_1).f2, (rd_T40 t128 x9_1).f3, (⟨(rd_T40 t128 x9_1).f4.f0, (rd_T40 t128 x9_1).f4.f1⟩ : S38), (⟨(rd_T40 t128 x9_1).f5.f0, (rd_T40 t128 x9_1).f5.f1⟩ : S38)⟩ : S40)]) t128 (t128.length : Int) (wrap64 (x9_1 + 1))) else (none)) else (if 0 ≤ (wrap64 ((x3_1.length : Int) - 1)) then (if (wrap64 ((x3_1.length : Int) - 1)) < (x3_1.length : Int) then (if (!(((rd_T40 x3_1 (wrap64 ((x3_1.length : Int) - 1))).f0.f0) == ((rd_T40 t128 x9_1).f0.f0)) || (!(((rd_T40 x3_1 (wrap64 ((x3_1.length : Int) - 1))).f0.f1) == ((rd_T40 t128 x9_1).f0.f1)))) = true then (if x3_1.length < 1172812402961 then (cred_Counts.l0 k1 (x3_1 ++ [(⟨(⟨(rd_T40 t128 x9_1).f0.f0, (rd_T40 t128 x9_1).f0.f1⟩ : S36), (rd_T40 t128 x9_1).f1, (rd_T40 t128 x9_1).f2, (rd_T40 t128 x9_1).f3, (⟨(rd_T40 t128 x9_1).f4.f0, (rd_T40 t128 x9_1).f4.f1⟩ : S38), (⟨(rd_T40 t128 x9_1).f5.f0, (rd_T40 t128 x9_1).f5.f1⟩ : S38)⟩ : S40)]) t128 (t128.length : Int) (wrap64 (x9_1 + 1))) else (none)) else (cred_Counts.l0 k1 x3_1 t128 (t128.length : Int) (wrap64 (x9_1 + 1)))) else (none)) else (none))) else (cred_Counts.l0 k1 x3_1 t128 (t128.length : Int) (wrap64 (x9_1 + 1)))) = some r := H
            have A8 := Aside0.mk A80
            clear A80
            by_cases c9 : t133 = true
            · subst c9
              have H1 : (if (x3_1.length : Int) = 0 then (if x3_1.length < 1172812402961 then (cred_Counts.l0 k1 (x3_1 ++ [(⟨(⟨(rd_T40 t128 x9_1).f0.f0, (rd_T40 t128 x9_1).f0.f1⟩ : S36), (rd_T40 t128 x9_1).f1, (rd_T40 t128 x9_1).f2, (rd_T40 t128 x9_1).f3, (⟨(rd_T40 t128 x9_1).f4.f0, (rd_T40 t128 x9_1).f4.f1⟩ : S38), (⟨(rd_T40 t128 x9_1).f5.f0, (rd_T40 t128 x9_1).f5.f1⟩ : S38)⟩ : S40)]) t128 (t128.length : Int) (wrap64 (x9_1 + 1))) else (none)) else (if 0 ≤ (wrap64 ((x3_1.length : Int) - 1)) then (if (wrap64 ((x3_1.length : Int) - 1)) < (x3_1.length : Int) then (if (!(((rd_T40 x3_1 (wrap64 ((x3_1.length : Int) - 1))).f0.f0) == ((rd_T40 t128 x9_1).f0.f0)) || (!(((rd_T40 x3_1 (wrap64 ((x3_1.length : Int) - 1))).f0.f1) == ((rd_T40 t128 x9_1).f0.f1)))) = true then (if x3_1.length < 1172812402961 then (cred_Counts.l0 k1 (x3_1 ++ [(⟨(⟨(rd_T40 t128 x9_1).f0.f0, (rd_T40 t128 x9_1).f0.f1⟩ : S36), (rd_T40 t128 x9_1).f1, (rd_T40 t128 x9_1).f2, (rd_T40 t128 x9_1).f3, (⟨(rd_T40 t128 x9_1).f4.f0, (rd_T40 t128 x9_1).f4.f1⟩ : S38), (⟨(rd_T40 t128 x9_1).f5.f0, (rd_T40 t128 x9_1).f5.f1⟩ : S38)⟩ : S40)]) t128 (t128.length : Int) (wrap64 (x9_1 + 1))) else (none)) else (cred_Counts.l0 k1 x3_1 t128 (t128.length : Int) (wrap64 (x9_1 + 1)))) else (none)) else (none))) = some r := by rw [if_pos rfl] at H; exact H
              clear H
              have H := H1
              clear H1
              by_cases c10 : (x3_1.length : Int) = 0
              · rw [if_pos c10] at H
                have c10b0 : ((x3_1.length : Int) == 0) = true := beq_iff_eq.mpr c10
                have c10b1 : ((x3_1.length : Int) != 0) = false := bne_eq_false_iff_eq.mpr c10
                clear c10
                by_cases c11 : x3_1.length < 1172812402961
                · rw [if_pos c11] at H
                  have LMc11 := Aside0.mk c11
                  clear c11
                  obtain ⟨y134, hy134⟩ : ∃ y_ : List (S40), y_ = (x3_1 ++ [(⟨(⟨(rd_T40 t128 x9_1).f0.f0, (rd_T40 t128 x9_1).f0.f1⟩ : S36), (rd_T40 t128 x9_1).f1, (rd_T40 t128 x9_1).f2, (rd_T40 t128 x9_1).f3, (⟨(rd_T40 t128 x9_1).f4.f0, (rd_T40 t128 x9_1).f4.f1⟩ : S38), (⟨(rd_T40 t128 x9_1).f5.f0, (rd_T40 t128 x9_1).f5.f1⟩ : S38)⟩ : S40)]) := ⟨_, rfl⟩
                  replace H : (cred_Counts.l0 k1 y134 t128 (t128.length : Int) (wrap64 (x9_1 + 1))) = some r := by first | (rw [hy134]; with_reducible exact H) | (have H2_ := (Option.bind_some _ _).symm.trans H; rw [hy134]; with_reducible exact H2_) | (have H2_ := (Option.bind_some _ _).symm.trans H; with_reducible exact H2_) | with_reducible exact H | (rw [hy134]; exact H) | exact H
                  have Ny134 := Aside0.mk hy134
                  clear hy134
                  have H' := Aside0.mk H
                  clear H
                  have p131 : 0 ≤ (x9_1 : Int) := of_decide_eq_true (by first | (with_reducible assumption) | assumption)
                  have q131 : x9_1 < (t128.length : Int) := of_decide_eq_true (by first | (with_reducible assumption) | assumption)
                  obtain ⟨ad131, e131, hx131_0, hx131_1, hx131_2, hx131_3, hx131_4, hx131_5, hx131_6, hx131_7, hx131_8⟩ := at_T40 (Kd.R_reads' HO_7.out).2.2 x9_1 p131 q131
                  cases e131
                  replace p131 := eq_true p131
                  replace q131 := eq_true q131
                  try go_wp2_with (first | ((with_reducible refine gate_dst (N := 5) rfl ?_); refine box_event ?hg (N := 5) ?hd (cs := #[.int .i64 0, .int .i64 0, .string ⟨#[]⟩, .int .i64 0, .string ⟨#[]⟩, .string ⟨#[]⟩, .string ⟨#[]⟩, .string ⟨#[]⟩, .string ⟨#[]⟩]) (t := 40) ?hr ?_; (case hd => rfl); (case hg => rfl); (case hr => first | (go_simp; done) | (go_simp; rfl)); intro gb132 hg w12 hbox hb; have n0_ := aM (Kd.R_below (Kd.R_elderB (by (with_reducible repeat (first | apply Kd.R_alloc | apply Kd.R_drewN | apply Kd.R_drew)); exact HO_3.out) gb132 (Nat.le_of_eq hg.symm)) hb); have n1_ := aM (Kd.R_below (Kd.R_elderB (by (with_reducible repeat (first | apply Kd.R_alloc | apply Kd.R_drewN | apply Kd.R_drew)); exact HO_7.out) gb132 (Nat.le_of_eq hg.symm)) hb); have n2_ := aM (below_step (by repeat (first | (with_reducible first | exact HB.out | apply below_alloc | apply pw_below_drewN | apply below_drew1) | exact HB.out)) hb); have n3_ := aM (hbox); have n4_ := aM ((by rw [hg]; exact (below_size (by repeat (first | (with_reducible first | exact HB.out | apply below_alloc | apply pw_below_drewN | apply below_drew1) | exact HB.out))) : w.heap.size ≤ gb132)); have n5_ := n4_; clear HO_3 HO_7 HB; have HO_3 := n0_; have HO_7 := n1_; have HB := n2_; have BK132 := n3_; have GW132 := n4_; have GE132 := n5_; clear n0_ n1_ n2_ n3_ n4_ n5_; clear hb hbox hg; obtain ⟨hcz13_0, hcz13_1, hcz13_2, hcz13_3, hcz13_4, hcz13_5, hcz13_6, hcz13_7, hcz13_8, hfz13_0, hfz13_1, hfz13_2, hfz13_3, hfz13_4, hfz13_5, hfz13_6, hfz13_7, hfz13_8⟩ := blk_all9 BK132.out))
                  have n0_ : Aside0 (Kd.R k40 40 (((((((((w12.setCell ⟨gb132, 0, none⟩ (.int .i64 ((rd_T40 t128 x9_1).f0.f0))).setCell ⟨gb132, 1, none⟩ (.int .i64 ((rd_T40 t128 x9_1).f0.f1))).setCell ⟨gb132, 2, none⟩ (.string ((rd_T40 t128 x9_1).f1))).setCell ⟨gb132, 3, none⟩ (.int .i64 ((rd_T40 t128 x9_1).f2))).setCell ⟨gb132, 4, none⟩ (.string ((rd_T40 t128 x9_1).f3))).setCell ⟨gb132, 5, none⟩ (.string ((rd_T40 t128 x9_1).f4.f0))).setCell ⟨gb132, 6, none⟩ (.string ((rd_T40 t128 x9_1).f4.f1))).setCell ⟨gb132, 7, none⟩ (.string ((rd_T40 t128 x9_1).f5.f0))).setCell ⟨gb132, 8, none⟩ (.string ((rd_T40 t128 x9_1).f5.f1))) w.heap.size (fun k_ => some k_ ≠ (.slice (some ad131) t128.length co4 : Value).ownBlock ∧ k_ ≠ gb132) u3 x3_1) := ⟨by (with_reducible repeat (first | apply Kd.R_alloc | apply Kd.R_drewN | apply Kd.R_drew)); exact Kd.R_mono (Kd.R_far (p := ⟨gb132, 8, none⟩) (Kd.R_far (p := ⟨gb132, 7, none⟩) (Kd.R_far (p := ⟨gb132, 6, none⟩) (Kd.R_far (p := ⟨gb132, 5, none⟩) (Kd.R_far (p := ⟨gb132, 4, none⟩) (Kd.R_far (p := ⟨gb132, 3, none⟩) (Kd.R_far (p := ⟨gb132, 2, none⟩) (Kd.R_far (p := ⟨gb132, 1, none⟩) (Kd.R_far (p := ⟨gb132, 0, none⟩) (Kd.R_mono HO_3.out (fun k_ hk => (⟨hk, hk.2⟩ : _ ∧ k_ ≠ gb132))) (fun _ hk => hk.2) (.int .i64 ((rd_T40 t128 x9_1).f0.f0))) (fun _ hk => hk.2) (.int .i64 ((rd_T40 t128 x9_1).f0.f1))) (fun _ hk => hk.2) (.string ((rd_T40 t128 x9_1).f1))) (fun _ hk => hk.2) (.int .i64 ((rd_T40 t128 x9_1).f2))) (fun _ hk => hk.2) (.string ((rd_T40 t128 x9_1).f3))) (fun _ hk => hk.2) (.string ((rd_T40 t128 x9_1).f4.f0))) (fun _ hk => hk.2) (.string ((rd_T40 t128 x9_1).f4.f1))) (fun _ hk => hk.2) (.string ((rd_T40 t128 x9_1).f5.f0))) (fun _ hk => hk.2) (.string ((rd_T40 t128 x9_1).f5.f1))) (fun _ hk => ⟨hk.1.1, hk.1.2⟩)⟩
                  have n1_ : Aside0 (Kd.R k40 40 (((((((((w12.setCell ⟨gb132, 0, none⟩ (.int .i64 ((rd_T40 t128 x9_1).f0.f0))).setCell ⟨gb132, 1, none⟩ (.int .i64 ((rd_T40 t128 x9_1).f0.f1))).setCell ⟨gb132, 2, none⟩ (.string ((rd_T40 t128 x9_1).f1))).setCell ⟨gb132, 3, none⟩ (.int .i64 ((rd_T40 t128 x9_1).f2))).setCell ⟨gb132, 4, none⟩ (.string ((rd_T40 t128 x9_1).f3))).setCell ⟨gb132, 5, none⟩ (.string ((rd_T40 t128 x9_1).f4.f0))).setCell ⟨gb132, 6, none⟩ (.string ((rd_T40 t128 x9_1).f4.f1))).setCell ⟨gb132, 7, none⟩ (.string ((rd_T40 t128 x9_1).f5.f0))).setCell ⟨gb132, 8, none⟩ (.string ((rd_T40 t128 x9_1).f5.f1))) w.heap.size (fun k_ => some k_ ≠ (u3 : Value).ownBlock ∧ k_ ≠ gb132) (.slice (some ad131) t128.length co4) t128) := ⟨by (with_reducible repeat (first | apply Kd.R_alloc | apply Kd.R_drewN | apply Kd.R_drew)); exact Kd.R_mono (Kd.R_far (p := ⟨gb132, 8, none⟩) (Kd.R_far (p := ⟨gb132, 7, none⟩) (Kd.R_far (p := ⟨gb132, 6, none⟩) (Kd.R_far (p := ⟨gb132, 5, none⟩) (Kd.R_far (p := ⟨gb132, 4, none⟩) (Kd.R_far (p := ⟨gb132, 3, none⟩) (Kd.R_far (p := ⟨gb132, 2, none⟩) (Kd.R_far (p := ⟨gb132, 1, none⟩) (Kd.R_far (p := ⟨gb132, 0, none⟩) (Kd.R_mono HO_7.out (fun k_ hk => (⟨hk, hk.2⟩ : _ ∧ k_ ≠ gb132))) (fun _ hk => hk.2) (.int .i64 ((rd_T40 t128 x9_1).f0.f0))) (fun _ hk => hk.2) (.int .i64 ((rd_T40 t128 x9_1).f0.f1))) (fun _ hk => hk.2) (.string ((rd_T40 t128 x9_1).f1))) (fun _ hk => hk.2) (.int .i64 ((rd_T40 t128 x9_1).f2))) (fun _ hk => hk.2) (.string ((rd_T40 t128 x9_1).f3))) (fun _ hk => hk.2) (.string ((rd_T40 t128 x9_1).f4.f0))) (fun _ hk => hk.2) (.string ((rd_T40 t128 x9_1).f4.f1))) (fun _ hk => hk.2) (.string ((rd_T40 t128 x9_1).f5.f0))) (fun _ hk => hk.2) (.string ((rd_T40 t128 x9_1).f5.f1))) (fun _ hk => ⟨hk.1.1, hk.1.2⟩)⟩
                  have n2_ : Aside0 ((((((((((w12.setCell ⟨gb132, 0, none⟩ (.int .i64 ((rd_T40 t128 x9_1).f0.f0))).setCell ⟨gb132, 1, none⟩ (.int .i64 ((rd_T40 t128 x9_1).f0.f1))).setCell ⟨gb132, 2, none⟩ (.string ((rd_T40 t128 x9_1).f1))).setCell ⟨gb132, 3, none⟩ (.int .i64 ((rd_T40 t128 x9_1).f2))).setCell ⟨gb132, 4, none⟩ (.string ((rd_T40 t128 x9_1).f3))).setCell ⟨gb132, 5, none⟩ (.string ((rd_T40 t128 x9_1).f4.f0))).setCell ⟨gb132, 6, none⟩ (.string ((rd_T40 t128 x9_1).f4.f1))).setCell ⟨gb132, 7, none⟩ (.string ((rd_T40 t128 x9_1).f5.f0))).setCell ⟨gb132, 8, none⟩ (.string ((rd_T40 t128 x9_1).f5.f1))).heap[gb132]? = some (.cells #[.int .i64 ((rd_T40 t128 x9_1).f0.f0), .int .i64 ((rd_T40 t128 x9_1).f0.f1), .string ((rd_T40 t128 x9_1).f1), .int .i64 ((rd_T40 t128 x9_1).f2), .string ((rd_T40 t128 x9_1).f3), .string ((rd_T40 t128 x9_1).f4.f0), .string ((rd_T40 t128 x9_1).f4.f1), .string ((rd_T40 t128 x9_1).f5.f0), .string ((rd_T40 t128 x9_1).f5.f1)] 40 (0, 0))) := ⟨by (with_reducible repeat (first | refine bN ?_ _ | refine bD ?_ | refine bA ?_ _)); refine blk_put (cs := #[.int .i64 ((rd_T40 t128 x9_1).f0.f0), .int .i64 ((rd_T40 t128 x9_1).f0.f1), .string ((rd_T40 t128 x9_1).f1), .int .i64 ((rd_T40 t128 x9_1).f2), .string ((rd_T40 t128 x9_1).f3), .string ((rd_T40 t128 x9_1).f4.f0), .string ((rd_T40 t128 x9_1).f4.f1), .string ((rd_T40 t128 x9_1).f5.f0), .string ⟨#[]⟩]) ?_ 8 _ rfl; (with_reducible repeat (first | refine bN ?_ _ | refine bD ?_ | refine bA ?_ _)); refine blk_put (cs := #[.int .i64 ((rd_T40 t128 x9_1).f0.f0), .int .i64 ((rd_T40 t128 x9_1).f0.f1), .string ((rd_T40 t128 x9_1).f1), .int .i64 ((rd_T40 t128 x9_1).f2), .string ((rd_T40 t128 x9_1).f3), .string ((rd_T40 t128 x9_1).f4.f0), .string ((rd_T40 t128 x9_1).f4.f1), .string ⟨#[]⟩, .string ⟨#[]⟩]) ?_ 7 _ rfl; (with_reducible repeat (first | refine bN ?_ _ | refine bD ?_ | refine bA ?_ _)); refine blk_put (cs := #[.int .i64 ((rd_T40 t128 x9_1).f0.f0), .int .i64 ((rd_T40 t128 x9_1).f0.f1), .string ((rd_T40 t128 x9_1).f1), .int .i64 ((rd_T40 t128 x9_1).f2), .string ((rd_T40 t128 x9_1).f3), .string ((rd_T40 t128 x9_1).f4.f0), .string ⟨#[]⟩, .string ⟨#[]⟩, .string ⟨#[]⟩]) ?_ 6 _ rfl; (with_reducible repeat (first | refine bN ?_ _ | refine bD ?_ | refine bA ?_ _)); refine blk_put (cs := #[.int .i64 ((rd_T40 t128 x9_1).f0.f0), .int .i64 ((rd_T40 t128 x9_1).f0.f1), .string ((rd_T40 t128 x9_1).f1), .int .i64 ((rd_T40 t128 x9_1).f2), .string ((rd_T40 t128 x9_1).f3), .string ⟨#[]⟩, .string ⟨#[]⟩, .string ⟨#[]⟩, .string ⟨#[]⟩]) ?_ 5 _ rfl; (with_reducible repeat (first | refine bN ?_ _ | refine bD ?_ | refine bA ?_ _)); refine blk_put (cs := #[.int .i64 ((rd_T40 t128 x9_1).f0.f0), .int .i64 ((rd_T40 t128 x9_1).f0.f1), .string ((rd_T40 t128 x9_1).f1), .int .i64 ((rd_T40 t128 x9_1).f2), .string ⟨#[]⟩, .string ⟨#[]⟩, .string ⟨#[]⟩, .string ⟨#[]⟩, .string ⟨#[]⟩]) ?_ 4 _ rfl; (with_reducible repeat (first | refine bN ?_ _ | refine bD ?_ | refine bA ?_ _)); refine blk_put (cs := #[.int .i64 ((rd_T40 t128 x9_1).f0.f0), .int .i64 ((rd_T40 t128 x9_1).f0.f1), .string ((rd_T40 t128 x9_1).f1), .int .i64 0, .string ⟨#[]⟩, .string ⟨#[]⟩, .string ⟨#[]⟩, .string ⟨#[]⟩, .string ⟨#[]⟩]) ?_ 3 _ rfl; (with_reducible repeat (first | refine bN ?_ _ | refine bD ?_ | refine bA ?_ _)); refine blk_put (cs := #[.int .i64 ((rd_T40 t128 x9_1).f0.f0), .int .i64 ((rd_T40 t128 x9_1).f0.f1), .string ⟨#[]⟩, .int .i64 0, .string ⟨#[]⟩, .string ⟨#[]⟩, .string ⟨#[]⟩, .string ⟨#[]⟩, .string ⟨#[]⟩]) ?_ 2 _ rfl; (with_reducible repeat (first | refine bN ?_ _ | refine bD ?_ | refine bA ?_ _)); refine blk_put (cs := #[.int .i64 ((rd_T40 t128 x9_1).f0.f0), .int .i64 0, .string ⟨#[]⟩, .int .i64 0, .string ⟨#[]⟩, .string ⟨#[]⟩, .string ⟨#[]⟩, .string ⟨#[]⟩, .string ⟨#[]⟩]) ?_ 1 _ rfl; (with_reducible repeat (first | refine bN ?_ _ | refine bD ?_ | refine bA ?_ _)); refine blk_put (cs := #[.int .i64 0, .int .i64 0, .string ⟨#[]⟩, .int .i64 0, .string ⟨#[]⟩, .string ⟨#[]⟩, .string ⟨#[]⟩, .string ⟨#[]⟩, .string ⟨#[]⟩]) ?_ 0 _ rfl; (with_reducible repeat (first | refine bN ?_ _ | refine bD ?_ | refine bA ?_ _)); exact BK132.out⟩
                  have n3_ : Aside0 (Below w.heap.size w (((((((((w12.setCell ⟨gb132, 0, none⟩ (.int .i64 ((rd_T40 t128 x9_1).f0.f0))).setCell ⟨gb132, 1, none⟩ (.int .i64 ((rd_T40 t128 x9_1).f0.f1))).setCell ⟨gb132, 2, none⟩ (.string ((rd_T40 t128 x9_1).f1))).setCell ⟨gb132, 3, none⟩ (.int .i64 ((rd_T40 t128 x9_1).f2))).setCell ⟨gb132, 4, none⟩ (.string ((rd_T40 t128 x9_1).f3))).setCell ⟨gb132, 5, none⟩ (.string ((rd_T40 t128 x9_1).f4.f0))).setCell ⟨gb132, 6, none⟩ (.string ((rd_T40 t128 x9_1).f4.f1))).setCell ⟨gb132, 7, none⟩ (.string ((rd_T40 t128 x9_1).f5.f0))).setCell ⟨gb132, 8, none⟩ (.string ((rd_T40 t128 x9_1).f5.f1)))) := ⟨by repeat (first | (with_reducible first | exact HB.out | apply below_alloc | apply pw_below_drewN | apply below_drew1 | refine below_set ?_ GE132.out) | exact HB.out)⟩
                  (try clear HO_3)
                  (try clear HO_7)
                  (try clear BK132)
                  (try clear HB)
                  generalize (((((((((w12.setCell ⟨gb132, 0, none⟩ (.int .i64 ((rd_T40 t128 x9_1).f0.f0))).setCell ⟨gb132, 1, none⟩ (.int .i64 ((rd_T40 t128 x9_1).f0.f1))).setCell ⟨gb132, 2, none⟩ (.string ((rd_T40 t128 x9_1).f1))).setCell ⟨gb132, 3, none⟩ (.int .i64 ((rd_T40 t128 x9_1).f2))).setCell ⟨gb132, 4, none⟩ (.string ((rd_T40 t128 x9_1).f3))).setCell ⟨gb132, 5, none⟩ (.string ((rd_T40 t128 x9_1).f4.f0))).setCell ⟨gb132, 6, none⟩ (.string ((rd_T40 t128 x9_1).f4.f1))).setCell ⟨gb132, 7, none⟩ (.string ((rd_T40 t128 x9_1).f5.f0))).setCell ⟨gb132, 8, none⟩ (.string ((rd_T40 t128 x9_1).f5.f1))) = w14 at n0_ n1_ n2_ n3_ ⊢
                  have HO_3 := n0_
                  have HO_7 := n1_
                  have BK132 := n2_
                  have HB := n3_
                  clear n0_ n1_ n2_ n3_
                  have n0_ := aM (Kd.R_drew HO_3.out)
                  have n1_ := aM (Kd.R_drew HO_7.out)
                  have n2_ := aM (blk_drew BK132.out)
                  have n3_ := aM (below_drew1 HB.out)
                  clear HO_3
                  clear HO_7
                  clear BK132
                  clear HB
                  have HO_3 := n0_
                  have HO_7 := n1_
                  have BK132 := n2_
                  have HB := n3_
                  clear n0_ n1_ n2_ n3_
                  refine start_ (n := 19) (S := fun w' => w'.cell? ⟨gb132, 0, none⟩ = some (.int .i64 ((rd_T40 t128 x9_1).f0.f0)) ∧ w'.cell? ⟨gb132, 1, none⟩ = some (.int .i64 ((rd_T40 t128 x9_1).f0.f1)) ∧ w'.cell? ⟨gb132, 2, none⟩ = some (.string ((rd_T40 t128 x9_1).f1)) ∧ w'.cell? ⟨gb132, 3, none⟩ = some (.int .i64 ((rd_T40 t128 x9_1).f2)) ∧ w'.cell? ⟨gb132, 4, none⟩ = some (.string ((rd_T40 t128 x9_1).f3)) ∧ w'.cell? ⟨gb132, 5, none⟩ = some (.string ((rd_T40 t128 x9_1).f4.f0)) ∧ w'.cell? ⟨gb132, 6, none⟩ = some (.string ((rd_T40 t128 x9_1).f4.f1)) ∧ w'.cell? ⟨gb132, 7, none⟩ = some (.string ((rd_T40 t128 x9_1).f5.f0)) ∧ w'.cell? ⟨gb132, 8, none⟩ = some (.string ((rd_T40 t128 x9_1).f5.f1))) (ds := []) #[false, false, false, false, false, false, false, false, false, false, false, false, false, false, false, false, false, false, false] (by kernel_rfl) rfl rfl ⟨(blk_cell BK132.out 0).trans rfl, (blk_cell BK132.out 1).trans rfl, (blk_cell BK132.out 2).trans rfl, (blk_cell BK132.out 3).trans rfl, (blk_cell BK132.out 4).trans rfl, (blk_cell BK132.out 5).trans rfl, (blk_cell BK132.out 6).trans rfl, (blk_cell BK132.out 7).trans rfl, (blk_cell BK132.out 8).trans rfl⟩ (fun hHeld => ?_); refine with_tabW cred_Counts.tab5 cred_Counts.bits5 (fun HT_ HW_ => ?_)
                  generalize w14.drew = w15 at HO_3 HO_7 BK132 HB hHeld ⊢
                  refine take_ (i := 0) (N := some 13) (v := ?_) (a' := ?_) #[true, false, false, false, false, false, false, false, false, false, false, false, false, false, false, false, false, false, false] rfl rfl (take_ofW HT_.out HW_.out (by kernel_rfl)) (fun _ _ _ h => h) (Or.inl ⟨by rfl, ?_⟩) hHeld ?_ ?_
                  rotate_left
                  · rintro w' ⟨s0, s1, s2, s3, s4, s5, s6, s7, s8⟩
                    go_simp
                    with_reducible rfl
                  rotate_left
                  · simp only [Act.put, List.setIfInBounds_toArray, List.set_cons_zero, List.set_cons_succ, i64_w, i32_w]
                    rfl
                  refine one_ (i := 1) (N := some 14) #[true, true, false, false, false, false, false, false, false, false, false, false, false, false, false, false, false, false, false] rfl rfl (one_of HT_.out (by kernel_rfl)) (by decide) (fun K hK => ?_)
                  refine goes_ Tryd.func38 (by kernel_rfl) rfl #[.agg #[.int .i64 ((rd_T40 t128 x9_1).f0.f0), .int .i64 ((rd_T40 t128 x9_1).f0.f1), .string ((rd_T40 t128 x9_1).f1), .int .i64 ((rd_T40 t128 x9_1).f2), .string ((rd_T40 t128 x9_1).f3), .string ((rd_T40 t128 x9_1).f4.f0), .string ((rd_T40 t128 x9_1).f4.f1), .string ((rd_T40 t128 x9_1).f5.f0), .string ((rd_T40 t128 x9_1).f5.f1)]] (by rfl) rfl rfl (by (try simp only [mA, mB, mC]); first | done | rfl | (simp only [List.length_drop, List.length_take]; rfl)) ?_
                  with_reducible refine (cred_May.calls k1 ((rd_T40 t128 x9_1).f0.f0) ((rd_T40 t128 x9_1).f0.f1) ((rd_T40 t128 x9_1).f1) ((rd_T40 t128 x9_1).f2) ((rd_T40 t128 x9_1).f3) ((rd_T40 t128 x9_1).f4.f0) ((rd_T40 t128 x9_1).f4.f1) ((rd_T40 t128 x9_1).f5.f0) ((rd_T40 t128 x9_1).f5.f1) true _ A8.out).mono ?_
                  rintro e w16 ⟨rfl, hb⟩
                  refine ⟨_, rfl, ?_⟩
                  have n0_ := aM (Kd.R_below (by (with_reducible repeat (first | apply Kd.R_alloc | apply Kd.R_drewN | apply Kd.R_drew)); exact HO_3.out) hb)
                  have n1_ := aM (Kd.R_below (by (with_reducible repeat (first | apply Kd.R_alloc | apply Kd.R_drewN | apply Kd.R_drew)); exact HO_7.out) hb)
                  have n2_ := aM (blk_below (g := gb132) (o := .cells #[.int .i64 ((rd_T40 t128 x9_1).f0.f0), .int .i64 ((rd_T40 t128 x9_1).f0.f1), .string ((rd_T40 t128 x9_1).f1), .int .i64 ((rd_T40 t128 x9_1).f2), .string ((rd_T40 t128 x9_1).f3), .string ((rd_T40 t128 x9_1).f4.f0), .string ((rd_T40 t128 x9_1).f4.f1), .string ((rd_T40 t128 x9_1).f5.f0), .string ((rd_T40 t128 x9_1).f5.f1)] 40 (0, 0)) (by (with_reducible repeat (first | refine bN ?_ _ | refine bD ?_ | refine bA ?_ _)); exact BK132.out) hb)
                  have n3_ := aM (below_step (by repeat (first | (with_reducible first | exact HB.out | apply below_alloc | apply pw_below_drewN | apply below_drew1 | refine below_set ?_ GE132.out) | exact HB.out)) hb)
                  clear HO_3
                  clear HO_7
                  clear BK132
                  clear HB
                  have HO_3 := n0_
                  have HO_7 := n1_
                  have BK132 := n2_
                  have HB := n3_
                  clear n0_ n1_ n2_ n3_
                  (try clear hb)
                  (try clear hb2)
                  (try clear hk)
                  (try clear hi)
                  obtain ⟨Ao17, co17, eo17⟩ := Kd.R_slice HO_3.out
                  (first | subst eo17 | (injection eo17 with f1_ f2_ f3_; have f4_ := f1_.symm; have f5_ := f3_.symm; clear f1_ f2_ f3_; subst f4_; subst f5_))
                  refine hK.out _ _ ⟨(blk_cell BK132.out 0).trans rfl, (blk_cell BK132.out 1).trans rfl, (blk_cell BK132.out 2).trans rfl, (blk_cell BK132.out 3).trans rfl, (blk_cell BK132.out 4).trans rfl, (blk_cell BK132.out 5).trans rfl, (blk_cell BK132.out 6).trans rfl, (blk_cell BK132.out 7).trans rfl, (blk_cell BK132.out 8).trans rfl⟩ (fun hHeld => ?_)
                  clear hK K
                  refine norm_ (a' := ?_) ?_ ?_
                  rotate_left
                  · show Act.put _ (some 14) _ = _
                    simp only [Act.put, List.setIfInBounds_toArray, List.set_cons_zero, List.set_cons_succ, i64_w, i32_w]
                    rfl
                  refine pure_ (i := 2) (N := some 15) (v := ?_) (a' := ?_) #[true, true, true, false, false, false, false, false, false, false, false, false, false, false, false, false, false, false, false] rfl rfl (any_of HT_.out (by kernel_rfl)) (fun _ _ _ h => h) (Or.inl ⟨by rfl, ?_⟩) ?_ ?_
                  rotate_left
                  · intro w'
                    go_simp
                    with_reducible rfl
                  rotate_left
                  · simp only [Act.put, List.setIfInBounds_toArray, List.set_cons_zero, List.set_cons_succ, i64_w, i32_w]
                    rfl
                  refine pure_ (i := 3) (N := some 16) (v := ?_) (a' := ?_) #[true, true, true, true, false, false, false, false, false, false, false, false, false, false, false, false, false, false, false] rfl rfl (any_of HT_.out (by kernel_rfl)) (fun _ _ _ h => h) (Or.inl ⟨by rfl, ?_⟩) ?_ ?_
                  rotate_left
                  · intro w'
                    go_simp
                    with_reducible rfl
                  rotate_left
                  · simp only [Act.put, List.setIfInBounds_toArray, List.set_cons_zero, List.set_cons_succ, i64_w, i32_w]
                    rfl
                  refine pure_ (i := 4) (N := some 17) (v := ?_) (a' := ?_) #[true, true, true, true, true, false, false, false, false, false, false, false, false, false, false, false, false, false, false] rfl rfl (any_of HT_.out (by kernel_rfl)) (fun _ _ _ h => h) (Or.inl ⟨by rfl, ?_⟩) ?_ ?_
                  rotate_left
                  · intro w'
                    go_simp
                    with_reducible rfl
                  rotate_left
                  · simp only [Act.put, List.setIfInBounds_toArray, List.set_cons_zero, List.set_cons_succ, i64_w, i32_w]
                    rfl
                  refine pure_ (i := 5) (N := some 18) (v := ?_) (a' := ?_) #[true, true, true, true, true, true, false, false, false, false, false, false, false, false, false, false, false, false, false] rfl rfl (any_of HT_.out (by kernel_rfl)) (fun _ _ _ h => h) (Or.inl ⟨by rfl, ?_⟩) ?_ ?_
                  rotate_left
                  · intro w'
                    go_simp
                    with_reducible rfl
                  rotate_left
                  · simp only [Act.put, List.setIfInBounds_toArray, List.set_cons_zero, List.set_cons_succ, i64_w, i32_w]
                    rfl
                  refine pure_ (i := 6) (N := some 19) (v := ?_) (a' := ?_) #[true, true, true, true, true, true, true, false, false, false, false, false, false, false, false, false, false, false, false] rfl rfl (any_of HT_.out (by kernel_rfl)) (fun _ _ _ h => h) (Or.inl ⟨by rfl, ?_⟩) ?_ ?_
                  rotate_left
                  · intro w'
                    go_simp
                    with_reducible rfl
                  rotate_left
                  · simp only [Act.put, List.setIfInBounds_toArray, List.set_cons_zero, List.set_cons_succ, i64_w, i32_w]
                    rfl
                  refine pure_ (i := 7) (N := some 20) (v := undef) (a' := ?_) #[true, true, true, true, true, true, true, true, false, false, false, false, false, false, false, false, false, false, false] rfl rfl (any_of HT_.out (by kernel_rfl)) (fun _ _ _ h => h) (Or.inr ⟨by rfl, rfl⟩) ?_ ?_
                  rotate_left
                  · simp only [Act.put, List.setIfInBounds_toArray, List.set_cons_zero, List.set_cons_succ, i64_w, i32_w]
                    rfl
                  refine pure_ (i := 8) (N := some 21) (v := undef) (a' := ?_) #[true, true, true, true, true, true, true, true, true, false, false, false, false, false, false, false, false, false, false] rfl rfl (any_of HT_.out (by kernel_rfl)) (fun _ _ _ h => h) (Or.inr ⟨by rfl, rfl⟩) ?_ ?_
                  rotate_left
                  · simp only [Act.put, List.setIfInBounds_toArray, List.set_cons_zero, List.set_cons_succ, i64_w, i32_w]
                    rfl
                  refine pure_ (i := 9) (N := some 22) (v := undef) (a' := ?_) #[true, true, true, true, true, true, true, true, true, true, false, false, false, false, false, false, false, false, false] rfl rfl (any_of HT_.out (by kernel_rfl)) (fun _ _ _ h => h) (Or.inr ⟨by rfl, rfl⟩) ?_ ?_
                  rotate_left
                  · simp only [Act.put, List.setIfInBounds_toArray, List.set_cons_zero, List.set_cons_succ, i64_w, i32_w]
                    rfl
                  refine pure_ (i := 10) (N := some 23) (v := undef) (a' := ?_) #[true, true, true, true, true, true, true, true, true, true, true, false, false, false, false, false, false, false, false] rfl rfl (any_of HT_.out (by kernel_rfl)) (fun _ _ _ h => h) (Or.inr ⟨by rfl, rfl⟩) ?_ ?_
                  rotate_left
                  · simp only [Act.put, List.setIfInBounds_toArray, List.set_cons_zero, List.set_cons_succ, i64_w, i32_w]
                    rfl
                  refine pure_ (i := 11) (N := some 24) (v := undef) (a' := ?_) #[true, true, true, true, true, true, true, true, true, true, true, true, false, false, false, false, false, false, false] rfl rfl (any_of HT_.out (by kernel_rfl)) (fun _ _ _ h => h) (Or.inr ⟨by rfl, rfl⟩) ?_ ?_
                  rotate_left
                  · simp only [Act.put, List.setIfInBounds_toArray, List.set_cons_zero, List.set_cons_succ, i64_w, i32_w]
                    rfl
                  refine pure_ (i := 12) (N := some 25) (v := undef) (a' := ?_) #[true, true, true, true, true, true, true, true, true, true, true, true, true, false, false, false, false, false, false] rfl rfl (any_of HT_.out (by kernel_rfl)) (fun _ _ _ h => h) (Or.inr ⟨by rfl, rfl⟩) ?_ ?_
                  rotate_left
                  · simp only [Act.put, List.setIfInBounds_toArray, List.set_cons_zero, List.set_cons_succ, i64_w, i32_w]
                    rfl
                  refine pure_ (i := 13) (N := some 26) (v := undef) (a' := ?_) #[true, true, true, true, true, true, true, true, true, true, true, true, true, true, false, false, false, false, false] rfl rfl (any_of HT_.out (by kernel_rfl)) (fun _ _ _ h => h) (Or.inr ⟨by rfl, rfl⟩) ?_ ?_
                  rotate_left
                  · simp only [Act.put, List.setIfInBounds_toArray, List.set_cons_zero, List.set_cons_succ, i64_w, i32_w]
                    rfl
                  refine pure_ (i := 14) (N := some 27) (v := undef) (a' := ?_) #[true, true, true, true, true, true, true, true, true, true, true, true, true, true, true, false, false, false, false] rfl rfl (any_of HT_.out (by kernel_rfl)) (fun _ _ _ h => h) (Or.inr ⟨by rfl, rfl⟩) ?_ ?_
                  rotate_left
                  · simp only [Act.put, List.setIfInBounds_toArray, List.set_cons_zero, List.set_cons_succ, i64_w, i32_w]
                    rfl
                  refine pure_ (i := 15) (N := some 28) (v := undef) (a' := ?_) #[true, true, true, true, true, true, true, true, true, true, true, true, true, true, true, true, false, false, false] rfl rfl (any_of HT_.out (by kernel_rfl)) (fun _ _ _ h => h) (Or.inr ⟨by rfl, rfl⟩) ?_ ?_
                  rotate_left
                  · simp only [Act.put, List.setIfInBounds_toArray, List.set_cons_zero, List.set_cons_succ, i64_w, i32_w]
                    rfl
                  refine pure_ (i := 16) (N := some 29) (v := undef) (a' := ?_) #[true, true, true, true, true, true, true, true, true, true, true, true, true, true, true, true, true, false, false] rfl rfl (any_of HT_.out (by kernel_rfl)) (fun _ _ _ h => h) (Or.inr ⟨by rfl, rfl⟩) ?_ ?_
                  rotate_left
                  · simp only [Act.put, List.setIfInBounds_toArray, List.set_cons_zero, List.set_cons_succ, i64_w, i32_w]
                    rfl
                  refine pure_ (i := 17) (N := some 30) (v := ?_) (a' := ?_) #[true, true, true, true, true, true, true, true, true, true, true, true, true, true, true, true, true, true, false] rfl rfl (any_of HT_.out (by kernel_rfl)) (fun _ _ _ h => h) (Or.inl ⟨by rfl, ?_⟩) ?_ ?_
                  rotate_left
                  · intro w'
                    go_simp
                    with_reducible rfl
                  rotate_left
                  · simp only [Act.put, List.setIfInBounds_toArray, List.set_cons_zero, List.set_cons_succ, i64_w, i32_w]
                    rfl
                  refine pure_ (i := 18) (N := some 31) (v := ?_) (a' := ?_) #[true, true, true, true, true, true, true, true, true, true, true, true, true, true, true, true, true, true, true] rfl rfl (any_of HT_.out (by kernel_rfl)) (fun _ _ _ h => h) (Or.inl ⟨by rfl, ?_⟩) ?_ ?_
                  rotate_left
                  · intro w'
                    go_simp
                    with_reducible rfl
                  rotate_left
                  · simp only [Act.put, List.setIfInBounds_toArray, List.set_cons_zero, List.set_cons_succ, i64_w, i32_w]
                    rfl
                  refine done_ (done_of HT_.out (by kernel_rfl)) ?_
                  obtain ⟨hcz18_0, hcz18_1, hcz18_2, hcz18_3, hcz18_4, hcz18_5, hcz18_6, hcz18_7, hcz18_8, hfz18_0, hfz18_1, hfz18_2, hfz18_3, hfz18_4, hfz18_5, hfz18_6, hfz18_7, hfz18_8⟩ := blk_all9 BK132.out
                  try go_wp2_with (first | ((with_reducible refine gate_builtin (b := .append) (xs := #[.tmp 32, .tmp 34]) rfl ?_); at_builtin; refine Kd.R_append k40 (w0 := w) w.heap.size rfl (.tmp 32) (.tmp 34) 27 40 (.agg #[(.int .i64 0), (.int .i64 0), (.string ⟨#[]⟩), (.int .i64 0), (.string ⟨#[]⟩), (.string ⟨#[]⟩), (.string ⟨#[]⟩), (.string ⟨#[]⟩), (.string ⟨#[]⟩)]) 120 rfl Tryd.underlying27 info40 rfl (by decide) (by omega) (.slice Ao17 x3_1.length co17) x3_1 (⟨(⟨(rd_T40 t128 x9_1).f0.f0, (rd_T40 t128 x9_1).f0.f1⟩ : S36), (rd_T40 t128 x9_1).f1, (rd_T40 t128 x9_1).f2, (rd_T40 t128 x9_1).f3, (⟨(rd_T40 t128 x9_1).f4.f0, (rd_T40 t128 x9_1).f4.f1⟩ : S38), (⟨(rd_T40 t128 x9_1).f5.f0, (rd_T40 t128 x9_1).f5.f1⟩ : S38)⟩ : S40) [.int .i64 ((rd_T40 t128 x9_1).f0.f0), .int .i64 ((rd_T40 t128 x9_1).f0.f1), .string ((rd_T40 t128 x9_1).f1), .int .i64 ((rd_T40 t128 x9_1).f2), .string ((rd_T40 t128 x9_1).f3), .string ((rd_T40 t128 x9_1).f4.f0), .string ((rd_T40 t128 x9_1).f4.f1), .string ((rd_T40 t128 x9_1).f5.f0), .string ((rd_T40 t128 x9_1).f5.f1)] (fun k_ => some k_ ≠ (.slice (some ad131) t128.length co4 : Value).ownBlock ∧ k_ ≠ gb132) (fun _ => False) rfl rfl ?aP (fun _ hk => hk.elim) ?aF ?aO ?aB ?aS ?aL ?_; (case aP => exact k40_mkM _ _ _ (⟨(⟨(rd_T40 t128 x9_1).f0.f0, (rd_T40 t128 x9_1).f0.f1⟩ : S36), (rd_T40 t128 x9_1).f1, (rd_T40 t128 x9_1).f2, (rd_T40 t128 x9_1).f3, (⟨(rd_T40 t128 x9_1).f4.f0, (rd_T40 t128 x9_1).f4.f1⟩ : S38), (⟨(rd_T40 t128 x9_1).f5.f0, (rd_T40 t128 x9_1).f5.f1⟩ : S38)⟩ : S40)); (case aB => exact (by repeat (first | (with_reducible first | exact HB.out | apply below_alloc | apply pw_below_drewN | apply below_drew1 | refine below_set ?_ GE132.out) | exact HB.out))); (case aF => exact (fun k_ hk => ⟨Kd.fresh' (Kd.R_lt (by (with_reducible repeat (first | apply Kd.R_alloc | apply Kd.R_drewN | apply Kd.R_drew)); exact HO_7.out)) k_ hk, Kd.freshB (g := gb132) (o := .cells #[.int .i64 ((rd_T40 t128 x9_1).f0.f0), .int .i64 ((rd_T40 t128 x9_1).f0.f1), .string ((rd_T40 t128 x9_1).f1), .int .i64 ((rd_T40 t128 x9_1).f2), .string ((rd_T40 t128 x9_1).f3), .string ((rd_T40 t128 x9_1).f4.f0), .string ((rd_T40 t128 x9_1).f4.f1), .string ((rd_T40 t128 x9_1).f5.f0), .string ((rd_T40 t128 x9_1).f5.f1)] 40 (0, 0)) (by (with_reducible repeat (first | refine bN ?_ _ | refine bD ?_ | refine bA ?_ _)); exact BK132.out) k_ hk⟩)); (case aO => exact (by (with_reducible repeat (first | apply Kd.R_alloc | apply Kd.R_drewN | apply Kd.R_drew)); exact HO_3.out)); (case aS => exact (below_size (by repeat (first | (with_reducible first | exact HB.out | apply below_alloc | apply pw_below_drewN | apply below_drew1 | refine below_set ?_ GE132.out) | exact HB.out)))); (case aL => have := LMc11.out; omega); intro v135 w19 ho hb hg hat; rw [← Ny134.out] at ho; have n0_ := aM (Kd.R_after (ok := (fun k_ => k_ ≠ gb132)) (by (with_reducible repeat (first | apply Kd.R_alloc | apply Kd.R_drewN | apply Kd.R_drew)); exact Kd.R_mono HO_7.out (fun _ hk => ⟨hk.2, hk.1⟩)) hg hat); have n1_ := aM (blk_grown (g := gb132) (o := .cells #[.int .i64 ((rd_T40 t128 x9_1).f0.f0), .int .i64 ((rd_T40 t128 x9_1).f0.f1), .string ((rd_T40 t128 x9_1).f1), .int .i64 ((rd_T40 t128 x9_1).f2), .string ((rd_T40 t128 x9_1).f3), .string ((rd_T40 t128 x9_1).f4.f0), .string ((rd_T40 t128 x9_1).f4.f1), .string ((rd_T40 t128 x9_1).f5.f0), .string ((rd_T40 t128 x9_1).f5.f1)] 40 (0, 0)) (by (with_reducible repeat (first | refine bN ?_ _ | refine bD ?_ | refine bA ?_ _)); exact BK132.out) hg (Kd.R_away HO_3.out (fun _ hk => hk.2))); have n2_ := aM (hb); have n3_ := aM (ho); clear HO_7 BK132 HB HO_3; have HO_7 := n0_; have BK132 := n1_; have HB := n2_; have HO136 := n3_; clear n0_ n1_ n2_ n3_; clear ho hb hg hat))
                  go_roundg k1
                  case measure => have := HK1.out; omega
                  case rel => exact ⟨(y134), (wrap64 (x9_1 + 1)), (by first | rfl | (simp; done) | (simp [*]; done)), H', ⟨by have := HK1.out; omega⟩, ⟨by (with_reducible repeat (first | apply Kd.R_alloc | apply Kd.R_drewN | apply Kd.R_drew)); exact Kd.R_mono HO136.out (fun _ hk => hk.1)⟩, ⟨by (with_reducible repeat (first | apply Kd.R_alloc | apply Kd.R_drewN | apply Kd.R_drew)); exact Kd.R_mono HO_7.out (fun _ hk => hk.2)⟩, ⟨by repeat (first | (with_reducible first | exact HB.out | apply below_alloc | apply pw_below_drewN | apply below_drew1 | refine below_set ?_ GE132.out) | exact HB.out)⟩⟩
                · rw [if_neg c11] at H
                  exact absurd H (by simp)
              · rw [if_neg c10] at H
                have c10b0 : ((x3_1.length : Int) == 0) = false := beq_eq_false_iff_ne.mpr c10
                have c10b1 : ((x3_1.length : Int) != 0) = true := bne_iff_ne.mpr c10
                have c10b2 : ¬ (x3_1 = []) := fun h_ => c10 (by rw [h_]; rfl)
                obtain ⟨ji20, hji20⟩ : ∃ j_ : Int, (wrap64 ((x3_1.length : Int) - 1)) = j_ := ⟨_, rfl⟩
                replace H : (if 0 ≤ (ji20) then (if (ji20) < (x3_1.length : Int) then (if (!(((rd_T40 x3_1 (ji20)).f0.f0) == ((rd_T40 t128 x9_1).f0.f0)) || (!(((rd_T40 x3_1 (ji20)).f0.f1) == ((rd_T40 t128 x9_1).f0.f1)))) = true then (if x3_1.length < 1172812402961 then (cred_Counts.l0 k1 (x3_1 ++ [(⟨(⟨(rd_T40 t128 x9_1).f0.f0, (rd_T40 t128 x9_1).f0.f1⟩ : S36), (rd_T40 t128 x9_1).f1, (rd_T40 t128 x9_1).f2, (rd_T40 t128 x9_1).f3, (⟨(rd_T40 t128 x9_1).f4.f0, (rd_T40 t128 x9_1).f4.f1⟩ : S38), (⟨(rd_T40 t128 x9_1).f5.f0, (rd_T40 t128 x9_1).f5.f1⟩ : S38)⟩ : S40)]) t128 (t128.length : Int) (wrap64 (x9_1 + 1))) else (none)) else (cred_Counts.l0 k1 x3_1 t128 (t128.length : Int) (wrap64 (x9_1 + 1)))) else (none)) else (none)) = some r := by first | (rw [hji20] at H; exact H) | (simp only [hji20] at H ⊢; exact H)
                (try rw [hji20] at A8)
                have hji20w : (IntKind.i64.wrap ((x3_1.length : Int) - 1)) = ji20 := (i64_w _).trans hji20
                by_cases c21 : 0 ≤ (ji20)
                · rw [if_pos c21] at H
                  have c21b0 : decide (0 ≤ (ji20)) = true := decide_eq_true c21
                  clear c21
                  by_cases c22 : (ji20) < (x3_1.length : Int)
                  · rw [if_pos c22] at H
                    have c22b0 : decide ((ji20) < (x3_1.length : Int)) = true := decide_eq_true c22
                    clear c22
                    by_cases c23 : (!(((rd_T40 x3_1 (ji20)).f0.f0) == ((rd_T40 t128 x9_1).f0.f0)) || (!(((rd_T40 x3_1 (ji20)).f0.f1) == ((rd_T40 t128 x9_1).f0.f1)))) = true
                    · rw [if_pos c23] at H
                      have c23b0 : (!(((rd_T40 x3_1 (ji20)).f0.f0) == ((rd_T40 t128 x9_1).f0.f0)) || (!(((rd_T40 x3_1 (ji20)).f0.f1) == ((rd_T40 t128 x9_1).f0.f1)))) = true := c23
                      clear c23
                      by_cases c24 : x3_1.length < 1172812402961
                      · rw [if_pos c24] at H
                        have LMc24 := Aside0.mk c24
                        clear c24
                        obtain ⟨y138, hy138⟩ : ∃ y_ : List (S40), y_ = (x3_1 ++ [(⟨(⟨(rd_T40 t128 x9_1).f0.f0, (rd_T40 t128 x9_1).f0.f1⟩ : S36), (rd_T40 t128 x9_1).f1, (rd_T40 t128 x9_1).f2, (rd_T40 t128 x9_1).f3, (⟨(rd_T40 t128 x9_1).f4.f0, (rd_T40 t128 x9_1).f4.f1⟩ : S38), (⟨(rd_T40 t128 x9_1).f5.f0, (rd_T40 t128 x9_1).f5.f1⟩ : S38)⟩ : S40)]) := ⟨_, rfl⟩
                        replace H : (cred_Counts.l0 k1 y138 t128 (t128.length : Int) (wrap64 (x9_1 + 1))) = some r := by first | (rw [hy138]; with_reducible exact H) | (have H2_ := (Option.bind_some _ _).symm.trans H; rw [hy138]; with_reducible exact H2_) | (have H2_ := (Option.bind_some _ _).symm.trans H; with_reducible exact H2_) | with_reducible exact H | (rw [hy138]; exact H) | exact H
                        have Ny138 := Aside0.mk hy138
                        clear hy138
                        have H' := Aside0.mk H
                        clear H
                        have p131 : 0 ≤ (x9_1 : Int) := of_decide_eq_true (by first | (with_reducible assumption) | assumption)
                        have q131 : x9_1 < (t128.length : Int) := of_decide_eq_true (by first | (with_reducible assumption) | assumption)
                        obtain ⟨ad131, e131, hx131_0, hx131_1, hx131_2, hx131_3, hx131_4, hx131_5, hx131_6, hx131_7, hx131_8⟩ := at_T40 (Kd.R_reads' HO_7.out).2.2 x9_1 p131 q131
                        cases e131
                        replace p131 := eq_true p131
                        replace q131 := eq_true q131
                        try go_wp2_with (first | ((with_reducible refine gate_dst (N := 5) rfl ?_); refine box_event ?hg (N := 5) ?hd (cs := #[.int .i64 0, .int .i64 0, .string ⟨#[]⟩, .int .i64 0, .string ⟨#[]⟩, .string ⟨#[]⟩, .string ⟨#[]⟩, .string ⟨#[]⟩, .string ⟨#[]⟩]) (t := 40) ?hr ?_; (case hd => rfl); (case hg => rfl); (case hr => first | (go_simp; done) | (go_simp; rfl)); intro gb132 hg w25 hbox hb; have n0_ := aM (Kd.R_below (Kd.R_elderB (by (with_reducible repeat (first | apply Kd.R_alloc | apply Kd.R_drewN | apply Kd.R_drew)); exact HO_3.out) gb132 (Nat.le_of_eq hg.symm)) hb); have n1_ := aM (Kd.R_below (Kd.R_elderB (by (with_reducible repeat (first | apply Kd.R_alloc | apply Kd.R_drewN | apply Kd.R_drew)); exact HO_7.out) gb132 (Nat.le_of_eq hg.symm)) hb); have n2_ := aM (below_step (by repeat (first | (with_reducible first | exact HB.out | apply below_alloc | apply pw_below_drewN | apply below_drew1) | exact HB.out)) hb); have n3_ := aM (hbox); have n4_ := aM ((by rw [hg]; exact (below_size (by repeat (first | (with_reducible first | exact HB.out | apply below_alloc | apply pw_below_drewN | apply below_drew1) | exact HB.out))) : w.heap.size ≤ gb132)); have n5_ := n4_; clear HO_3 HO_7 HB; have HO_3 := n0_; have HO_7 := n1_; have HB := n2_; have BK132 := n3_; have GW132 := n4_; have GE132 := n5_; clear n0_ n1_ n2_ n3_ n4_ n5_; clear hb hbox hg; obtain ⟨hcz26_0, hcz26_1, hcz26_2, hcz26_3, hcz26_4, hcz26_5, hcz26_6, hcz26_7, hcz26_8, hfz26_0, hfz26_1, hfz26_2, hfz26_3, hfz26_4, hfz26_5, hfz26_6, hfz26_7, hfz26_8⟩ := blk_all9 BK132.out))
                        have n0_ : Aside0 (Kd.R k40 40 (((((((((w25.setCell ⟨gb132, 0, none⟩ (.int .i64 ((rd_T40 t128 x9_1).f0.f0))).setCell ⟨gb132, 1, none⟩ (.int .i64 ((rd_T40 t128 x9_1).f0.f1))).setCell ⟨gb132, 2, none⟩ (.string ((rd_T40 t128 x9_1).f1))).setCell ⟨gb132, 3, none⟩ (.int .i64 ((rd_T40 t128 x9_1).f2))).setCell ⟨gb132, 4, none⟩ (.string ((rd_T40 t128 x9_1).f3))).setCell ⟨gb132, 5, none⟩ (.string ((rd_T40 t128 x9_1).f4.f0))).setCell ⟨gb132, 6, none⟩ (.string ((rd_T40 t128 x9_1).f4.f1))).setCell ⟨gb132, 7, none⟩ (.string ((rd_T40 t128 x9_1).f5.f0))).setCell ⟨gb132, 8, none⟩ (.string ((rd_T40 t128 x9_1).f5.f1))) w.heap.size (fun k_ => some k_ ≠ (.slice (some ad131) t128.length co4 : Value).ownBlock ∧ k_ ≠ gb132) u3 x3_1) := ⟨by (with_reducible repeat (first | apply Kd.R_alloc | apply Kd.R_drewN | apply Kd.R_drew)); exact Kd.R_mono (Kd.R_far (p := ⟨gb132, 8, none⟩) (Kd.R_far (p := ⟨gb132, 7, none⟩) (Kd.R_far (p := ⟨gb132, 6, none⟩) (Kd.R_far (p := ⟨gb132, 5, none⟩) (Kd.R_far (p := ⟨gb132, 4, none⟩) (Kd.R_far (p := ⟨gb132, 3, none⟩) (Kd.R_far (p := ⟨gb132, 2, none⟩) (Kd.R_far (p := ⟨gb132, 1, none⟩) (Kd.R_far (p := ⟨gb132, 0, none⟩) (Kd.R_mono HO_3.out (fun k_ hk => (⟨hk, hk.2⟩ : _ ∧ k_ ≠ gb132))) (fun _ hk => hk.2) (.int .i64 ((rd_T40 t128 x9_1).f0.f0))) (fun _ hk => hk.2) (.int .i64 ((rd_T40 t128 x9_1).f0.f1))) (fun _ hk => hk.2) (.string ((rd_T40 t128 x9_1).f1))) (fun _ hk => hk.2) (.int .i64 ((rd_T40 t128 x9_1).f2))) (fun _ hk => hk.2) (.string ((rd_T40 t128 x9_1).f3))) (fun _ hk => hk.2) (.string ((rd_T40 t128 x9_1).f4.f0))) (fun _ hk => hk.2) (.string ((rd_T40 t128 x9_1).f4.f1))) (fun _ hk => hk.2) (.string ((rd_T40 t128 x9_1).f5.f0))) (fun _ hk => hk.2) (.string ((rd_T40 t128 x9_1).f5.f1))) (fun _ hk => ⟨hk.1.1, hk.1.2⟩)⟩
                        have n1_ : Aside0 (Kd.R k40 40 (((((((((w25.setCell ⟨gb132, 0, none⟩ (.int .i64 ((rd_T40 t128 x9_1).f0.f0))).setCell ⟨gb132, 1, none⟩ (.int .i64 ((rd_T40 t128 x9_1).f0.f1))).setCell ⟨gb132, 2, none⟩ (.string ((rd_T40 t128 x9_1).f1))).setCell ⟨gb132, 3, none⟩ (.int .i64 ((rd_T40 t128 x9_1).f2))).setCell ⟨gb132, 4, none⟩ (.string ((rd_T40 t128 x9_1).f3))).setCell ⟨gb132, 5, none⟩ (.string ((rd_T40 t128 x9_1).f4.f0))).setCell ⟨gb132, 6, none⟩ (.string ((rd_T40 t128 x9_1).f4.f1))).setCell ⟨gb132, 7, none⟩ (.string ((rd_T40 t128 x9_1).f5.f0))).setCell ⟨gb132, 8, none⟩ (.string ((rd_T40 t128 x9_1).f5.f1))) w.heap.size (fun k_ => some k_ ≠ (u3 : Value).ownBlock ∧ k_ ≠ gb132) (.slice (some ad131) t128.length co4) t128) := ⟨by (with_reducible repeat (first | apply Kd.R_alloc | apply Kd.R_drewN | apply Kd.R_drew)); exact Kd.R_mono (Kd.R_far (p := ⟨gb132, 8, none⟩) (Kd.R_far (p := ⟨gb132, 7, none⟩) (Kd.R_far (p := ⟨gb132, 6, none⟩) (Kd.R_far (p := ⟨gb132, 5, none⟩) (Kd.R_far (p := ⟨gb132, 4, none⟩) (Kd.R_far (p := ⟨gb132, 3, none⟩) (Kd.R_far (p := ⟨gb132, 2, none⟩) (Kd.R_far (p := ⟨gb132, 1, none⟩) (Kd.R_far (p := ⟨gb132, 0, none⟩) (Kd.R_mono HO_7.out (fun k_ hk => (⟨hk, hk.2⟩ : _ ∧ k_ ≠ gb132))) (fun _ hk => hk.2) (.int .i64 ((rd_T40 t128 x9_1).f0.f0))) (fun _ hk => hk.2) (.int .i64 ((rd_T40 t128 x9_1).f0.f1))) (fun _ hk => hk.2) (.string ((rd_T40 t128 x9_1).f1))) (fun _ hk => hk.2) (.int .i64 ((rd_T40 t128 x9_1).f2))) (fun _ hk => hk.2) (.string ((rd_T40 t128 x9_1).f3))) (fun _ hk => hk.2) (.string ((rd_T40 t128 x9_1).f4.f0))) (fun _ hk => hk.2) (.string ((rd_T40 t128 x9_1).f4.f1))) (fun _ hk => hk.2) (.string ((rd_T40 t128 x9_1).f5.f0))) (fun _ hk => hk.2) (.string ((rd_T40 t128 x9_1).f5.f1))) (fun _ hk => ⟨hk.1.1, hk.1.2⟩)⟩
                        have n2_ : Aside0 ((((((((((w25.setCell ⟨gb132, 0, none⟩ (.int .i64 ((rd_T40 t128 x9_1).f0.f0))).setCell ⟨gb132, 1, none⟩ (.int .i64 ((rd_T40 t128 x9_1).f0.f1))).setCell ⟨gb132, 2, none⟩ (.string ((rd_T40 t128 x9_1).f1))).setCell ⟨gb132, 3, none⟩ (.int .i64 ((rd_T40 t128 x9_1).f2))).setCell ⟨gb132, 4, none⟩ (.string ((rd_T40 t128 x9_1).f3))).setCell ⟨gb132, 5, none⟩ (.string ((rd_T40 t128 x9_1).f4.f0))).setCell ⟨gb132, 6, none⟩ (.string ((rd_T40 t128 x9_1).f4.f1))).setCell ⟨gb132, 7, none⟩ (.string ((rd_T40 t128 x9_1).f5.f0))).setCell ⟨gb132, 8, none⟩ (.string ((rd_T40 t128 x9_1).f5.f1))).heap[gb132]? = some (.cells #[.int .i64 ((rd_T40 t128 x9_1).f0.f0), .int .i64 ((rd_T40 t128 x9_1).f0.f1), .string ((rd_T40 t128 x9_1).f1), .int .i64 ((rd_T40 t128 x9_1).f2), .string ((rd_T40 t128 x9_1).f3), .string ((rd_T40 t128 x9_1).f4.f0), .string ((rd_T40 t128 x9_1).f4.f1), .string ((rd_T40 t128 x9_1).f5.f0), .string ((rd_T40 t128 x9_1).f5.f1)] 40 (0, 0))) := ⟨by (with_reducible repeat (first | refine bN ?_ _ | refine bD ?_ | refine bA ?_ _)); refine blk_put (cs := #[.int .i64 ((rd_T40 t128 x9_1).f0.f0), .int .i64 ((rd_T40 t128 x9_1).f0.f1), .string ((rd_T40 t128 x9_1).f1), .int .i64 ((rd_T40 t128 x9_1).f2), .string ((rd_T40 t128 x9_1).f3), .string ((rd_T40 t128 x9_1).f4.f0), .string ((rd_T40 t128 x9_1).f4.f1), .string ((rd_T40 t128 x9_1).f5.f0), .string ⟨#[]⟩]) ?_ 8 _ rfl; (with_reducible repeat (first | refine bN ?_ _ | refine bD ?_ | refine bA ?_ _)); refine blk_put (cs := #[.int .i64 ((rd_T40 t128 x9_1).f0.f0), .int .i64 ((rd_T40 t128 x9_1).f0.f1), .string ((rd_T40 t128 x9_1).f1), .int .i64 ((rd_T40 t128 x9_1).f2), .string ((rd_T40 t128 x9_1).f3), .string ((rd_T40 t128 x9_1).f4.f0), .string ((rd_T40 t128 x9_1).f4.f1), .string ⟨#[]⟩, .string ⟨#[]⟩]) ?_ 7 _ rfl; (with_reducible repeat (first | refine bN ?_ _ | refine bD ?_ | refine bA ?_ _)); refine blk_put (cs := #[.int .i64 ((rd_T40 t128 x9_1).f0.f0), .int .i64 ((rd_T40 t128 x9_1).f0.f1), .string ((rd_T40 t128 x9_1).f1), .int .i64 ((rd_T40 t128 x9_1).f2), .string ((rd_T40 t128 x9_1).f3), .string ((rd_T40 t128 x9_1).f4.f0), .string ⟨#[]⟩, .string ⟨#[]⟩, .string ⟨#[]⟩]) ?_ 6 _ rfl; (with_reducible repeat (first | refine bN ?_ _ | refine bD ?_ | refine bA ?_ _)); refine blk_put (cs := #[.int .i64 ((rd_T40 t128 x9_1).f0.f0), .int .i64 ((rd_T40 t128 x9_1).f0.f1), .string ((rd_T40 t128 x9_1).f1), .int .i64 ((rd_T40 t128 x9_1).f2), .string ((rd_T40 t128 x9_1).f3), .string ⟨#[]⟩, .string ⟨#[]⟩, .string ⟨#[]⟩, .string ⟨#[]⟩]) ?_ 5 _ rfl; (with_reducible repeat (first | refine bN ?_ _ | refine bD ?_ | refine bA ?_ _)); refine blk_put (cs := #[.int .i64 ((rd_T40 t128 x9_1).f0.f0), .int .i64 ((rd_T40 t128 x9_1).f0.f1), .string ((rd_T40 t128 x9_1).f1), .int .i64 ((rd_T40 t128 x9_1).f2), .string ⟨#[]⟩, .string ⟨#[]⟩, .string ⟨#[]⟩, .string ⟨#[]⟩, .string ⟨#[]⟩]) ?_ 4 _ rfl; (with_reducible repeat (first | refine bN ?_ _ | refine bD ?_ | refine bA ?_ _)); refine blk_put (cs := #[.int .i64 ((rd_T40 t128 x9_1).f0.f0), .int .i64 ((rd_T40 t128 x9_1).f0.f1), .string ((rd_T40 t128 x9_1).f1), .int .i64 0, .string ⟨#[]⟩, .string ⟨#[]⟩, .string ⟨#[]⟩, .string ⟨#[]⟩, .string ⟨#[]⟩]) ?_ 3 _ rfl; (with_reducible repeat (first | refine bN ?_ _ | refine bD ?_ | refine bA ?_ _)); refine blk_put (cs := #[.int .i64 ((rd_T40 t128 x9_1).f0.f0), .int .i64 ((rd_T40 t128 x9_1).f0.f1), .string ⟨#[]⟩, .int .i64 0, .string ⟨#[]⟩, .string ⟨#[]⟩, .string ⟨#[]⟩, .string ⟨#[]⟩, .string ⟨#[]⟩]) ?_ 2 _ rfl; (with_reducible repeat (first | refine bN ?_ _ | refine bD ?_ | refine bA ?_ _)); refine blk_put (cs := #[.int .i64 ((rd_T40 t128 x9_1).f0.f0), .int .i64 0, .string ⟨#[]⟩, .int .i64 0, .string ⟨#[]⟩, .string ⟨#[]⟩, .string ⟨#[]⟩, .string ⟨#[]⟩, .string ⟨#[]⟩]) ?_ 1 _ rfl; (with_reducible repeat (first | refine bN ?_ _ | refine bD ?_ | refine bA ?_ _)); refine blk_put (cs := #[.int .i64 0, .int .i64 0, .string ⟨#[]⟩, .int .i64 0, .string ⟨#[]⟩, .string ⟨#[]⟩, .string ⟨#[]⟩, .string ⟨#[]⟩, .string ⟨#[]⟩]) ?_ 0 _ rfl; (with_reducible repeat (first | refine bN ?_ _ | refine bD ?_ | refine bA ?_ _)); exact BK132.out⟩
                        have n3_ : Aside0 (Below w.heap.size w (((((((((w25.setCell ⟨gb132, 0, none⟩ (.int .i64 ((rd_T40 t128 x9_1).f0.f0))).setCell ⟨gb132, 1, none⟩ (.int .i64 ((rd_T40 t128 x9_1).f0.f1))).setCell ⟨gb132, 2, none⟩ (.string ((rd_T40 t128 x9_1).f1))).setCell ⟨gb132, 3, none⟩ (.int .i64 ((rd_T40 t128 x9_1).f2))).setCell ⟨gb132, 4, none⟩ (.string ((rd_T40 t128 x9_1).f3))).setCell ⟨gb132, 5, none⟩ (.string ((rd_T40 t128 x9_1).f4.f0))).setCell ⟨gb132, 6, none⟩ (.string ((rd_T40 t128 x9_1).f4.f1))).setCell ⟨gb132, 7, none⟩ (.string ((rd_T40 t128 x9_1).f5.f0))).setCell ⟨gb132, 8, none⟩ (.string ((rd_T40 t128 x9_1).f5.f1)))) := ⟨by repeat (first | (with_reducible first | exact HB.out | apply below_alloc | apply pw_below_drewN | apply below_drew1 | refine below_set ?_ GE132.out) | exact HB.out)⟩
                        (try clear HO_3)
                        (try clear HO_7)
                        (try clear BK132)
                        (try clear HB)
                        generalize (((((((((w25.setCell ⟨gb132, 0, none⟩ (.int .i64 ((rd_T40 t128 x9_1).f0.f0))).setCell ⟨gb132, 1, none⟩ (.int .i64 ((rd_T40 t128 x9_1).f0.f1))).setCell ⟨gb132, 2, none⟩ (.string ((rd_T40 t128 x9_1).f1))).setCell ⟨gb132, 3, none⟩ (.int .i64 ((rd_T40 t128 x9_1).f2))).setCell ⟨gb132, 4, none⟩ (.string ((rd_T40 t128 x9_1).f3))).setCell ⟨gb132, 5, none⟩ (.string ((rd_T40 t128 x9_1).f4.f0))).setCell ⟨gb132, 6, none⟩ (.string ((rd_T40 t128 x9_1).f4.f1))).setCell ⟨gb132, 7, none⟩ (.string ((rd_T40 t128 x9_1).f5.f0))).setCell ⟨gb132, 8, none⟩ (.string ((rd_T40 t128 x9_1).f5.f1))) = w27 at n0_ n1_ n2_ n3_ ⊢
                        have HO_3 := n0_
                        have HO_7 := n1_
                        have BK132 := n2_
                        have HB := n3_
                        clear n0_ n1_ n2_ n3_
                        have n0_ := aM (Kd.R_drew HO_3.out)
                        have n1_ := aM (Kd.R_drew HO_7.out)
                        have n2_ := aM (blk_drew BK132.out)
                        have n3_ := aM (below_drew1 HB.out)
                        clear HO_3
                        clear HO_7
                        clear BK132
                        clear HB
                        have HO_3 := n0_
                        have HO_7 := n1_
                        have BK132 := n2_
                        have HB := n3_
                        clear n0_ n1_ n2_ n3_
                        have p137 : 0 ≤ ((ji20) : Int) := of_decide_eq_true (by first | (with_reducible assumption) | assumption)
                        have q137 : (ji20) < (x3_1.length : Int) := of_decide_eq_true (by first | (with_reducible assumption) | assumption)
                        obtain ⟨Ao3q, co3q, eo3q⟩ := Kd.R_slice HO_3.out
                        subst eo3q
                        obtain ⟨ad137, e137, hx137_0, hx137_1, hx137_2, hx137_3, hx137_4, hx137_5, hx137_6, hx137_7, hx137_8⟩ := at_T40 (Kd.R_reads' HO_3.out).2.2 (ji20) p137 q137
                        cases e137
                        replace p137 := eq_true p137
                        replace q137 := eq_true q137
                        refine start_ (n := 19) (S := fun w' => w'.cell? ⟨gb132, 0, none⟩ = some (.int .i64 ((rd_T40 t128 x9_1).f0.f0)) ∧ w'.cell? ⟨gb132, 1, none⟩ = some (.int .i64 ((rd_T40 t128 x9_1).f0.f1)) ∧ w'.cell? ⟨gb132, 2, none⟩ = some (.string ((rd_T40 t128 x9_1).f1)) ∧ w'.cell? ⟨gb132, 3, none⟩ = some (.int .i64 ((rd_T40 t128 x9_1).f2)) ∧ w'.cell? ⟨gb132, 4, none⟩ = some (.string ((rd_T40 t128 x9_1).f3)) ∧ w'.cell? ⟨gb132, 5, none⟩ = some (.string ((rd_T40 t128 x9_1).f4.f0)) ∧ w'.cell? ⟨gb132, 6, none⟩ = some (.string ((rd_T40 t128 x9_1).f4.f1)) ∧ w'.cell? ⟨gb132, 7, none⟩ = some (.string ((rd_T40 t128 x9_1).f5.f0)) ∧ w'.cell? ⟨gb132, 8, none⟩ = some (.string ((rd_T40 t128 x9_1).f5.f1)) ∧ w'.cell? (ad137.add (((ji20)).toNat * 9)) = some (.int .i64 ((rd_T40 x3_1 (ji20)).f0.f0)) ∧ w'.cell? ⟨(ad137.add (((ji20)).toNat * 9)).block, (ad137.add (((ji20)).toNat * 9)).off + 1, none⟩ = some (.int .i64 ((rd_T40 x3_1 (ji20)).f0.f1)) ∧ w'.cell? ⟨(ad137.add (((ji20)).toNat * 9)).block, (ad137.add (((ji20)).toNat * 9)).off + 2, none⟩ = some (.string ((rd_T40 x3_1 (ji20)).f1)) ∧ w'.cell? ⟨(ad137.add (((ji20)).toNat * 9)).block, (ad137.add (((ji20)).toNat * 9)).off + 3, none⟩ = some (.int .i64 ((rd_T40 x3_1 (ji20)).f2)) ∧ w'.cell? ⟨(ad137.add (((ji20)).toNat * 9)).block, (ad137.add (((ji20)).toNat * 9)).off + 4, none⟩ = some (.string ((rd_T40 x3_1 (ji20)).f3)) ∧ w'.cell? ⟨(ad137.add (((ji20)).toNat * 9)).block, (ad137.add (((ji20)).toNat * 9)).off + 5, none⟩ = some (.string ((rd_T40 x3_1 (ji20)).f4.f0)) ∧ w'.cell? ⟨(ad137.add (((ji20)).toNat * 9)).block, (ad137.add (((ji20)).toNat * 9)).off + 6, none⟩ = some (.string ((rd_T40 x3_1 (ji20)).f4.f1)) ∧ w'.cell? ⟨(ad137.add (((ji20)).toNat * 9)).block, (ad137.add (((ji20)).toNat * 9)).off + 7, none⟩ = some (.string ((rd_T40 x3_1 (ji20)).f5.f0)) ∧ w'.cell? ⟨(ad137.add (((ji20)).toNat * 9)).block, (ad137.add (((ji20)).toNat * 9)).off + 8, none⟩ = some (.string ((rd_T40 x3_1 (ji20)).f5.f1))) (ds := []) #[false, false, false, false, false, false, false, false, false, false, false, false, false, false, false, false, false, false, false] (by kernel_rfl) rfl rfl ⟨(blk_cell BK132.out 0).trans rfl, (blk_cell BK132.out 1).trans rfl, (blk_cell BK132.out 2).trans rfl, (blk_cell BK132.out 3).trans rfl, (blk_cell BK132.out 4).trans rfl, (blk_cell BK132.out 5).trans rfl, (blk_cell BK132.out 6).trans rfl, (blk_cell BK132.out 7).trans rfl, (blk_cell BK132.out 8).trans rfl, hx137_0, hx137_1, hx137_2, hx137_3, hx137_4, hx137_5, hx137_6, hx137_7, hx137_8⟩ (fun hHeld => ?_); refine with_tabW cred_Counts.tab5 cred_Counts.bits5 (fun HT_ HW_ => ?_)
                        generalize w27.drew = w28 at HO_3 HO_7 BK132 HB hx137_0 hx137_1 hx137_2 hx137_3 hx137_4 hx137_5 hx137_6 hx137_7 hx137_8 hHeld ⊢
                        refine take_ (i := 0) (N := some 13) (v := ?_) (a' := ?_) #[true, false, false, false, false, false, false, false, false, false, false, false, false, false, false, false, false, false, false] rfl rfl (take_ofW HT_.out HW_.out (by kernel_rfl)) (fun _ _ _ h => h) (Or.inl ⟨by rfl, ?_⟩) hHeld ?_ ?_
                        rotate_left
                        · rintro w' ⟨s0, s1, s2, s3, s4, s5, s6, s7, s8, s9, s10, s11, s12, s13, s14, s15, s16, s17⟩
                          go_simp
                          with_reducible rfl
                        rotate_left
                        · simp only [Act.put, List.setIfInBounds_toArray, List.set_cons_zero, List.set_cons_succ, i64_w, i32_w]
                          rfl
                        refine one_ (i := 1) (N := some 14) #[true, true, false, false, false, false, false, false, false, false, false, false, false, false, false, false, false, false, false] rfl rfl (one_of HT_.out (by kernel_rfl)) (by decide) (fun K hK => ?_)
                        refine goes_ Tryd.func38 (by kernel_rfl) rfl #[.agg #[.int .i64 ((rd_T40 t128 x9_1).f0.f0), .int .i64 ((rd_T40 t128 x9_1).f0.f1), .string ((rd_T40 t128 x9_1).f1), .int .i64 ((rd_T40 t128 x9_1).f2), .string ((rd_T40 t128 x9_1).f3), .string ((rd_T40 t128 x9_1).f4.f0), .string ((rd_T40 t128 x9_1).f4.f1), .string ((rd_T40 t128 x9_1).f5.f0), .string ((rd_T40 t128 x9_1).f5.f1)]] (by rfl) rfl rfl (by (try simp only [mA, mB, mC]); first | done | rfl | (simp only [List.length_drop, List.length_take]; rfl)) ?_
                        with_reducible refine (cred_May.calls k1 ((rd_T40 t128 x9_1).f0.f0) ((rd_T40 t128 x9_1).f0.f1) ((rd_T40 t128 x9_1).f1) ((rd_T40 t128 x9_1).f2) ((rd_T40 t128 x9_1).f3) ((rd_T40 t128 x9_1).f4.f0) ((rd_T40 t128 x9_1).f4.f1) ((rd_T40 t128 x9_1).f5.f0) ((rd_T40 t128 x9_1).f5.f1) true _ A8.out).mono ?_
                        rintro e w29 ⟨rfl, hb⟩
                        have HS9_ := (hb.cell (World.block_lt_of_cell? _ _ (hHeld.2.2.2.2.2.2.2.2.2.1))).trans (hHeld.2.2.2.2.2.2.2.2.2.1)
                        have HS10_ := (hb.cell (World.block_lt_of_cell? _ _ (hHeld.2.2.2.2.2.2.2.2.2.2.1))).trans (hHeld.2.2.2.2.2.2.2.2.2.2.1)
                        have HS11_ := (hb.cell (World.block_lt_of_cell? _ _ (hHeld.2.2.2.2.2.2.2.2.2.2.2.1))).trans (hHeld.2.2.2.2.2.2.2.2.2.2.2.1)
                        have HS12_ := (hb.cell (World.block_lt_of_cell? _ _ (hHeld.2.2.2.2.2.2.2.2.2.2.2.2.1))).trans (hHeld.2.2.2.2.2.2.2.2.2.2.2.2.1)
                        have HS13_ := (hb.cell (World.block_lt_of_cell? _ _ (hHeld.2.2.2.2.2.2.2.2.2.2.2.2.2.1))).trans (hHeld.2.2.2.2.2.2.2.2.2.2.2.2.2.1)
                        have HS14_ := (hb.cell (World.block_lt_of_cell? _ _ (hHeld.2.2.2.2.2.2.2.2.2.2.2.2.2.2.1))).trans (hHeld.2.2.2.2.2.2.2.2.2.2.2.2.2.2.1)
                        have HS15_ := (hb.cell (World.block_lt_of_cell? _ _ (hHeld.2.2.2.2.2.2.2.2.2.2.2.2.2.2.2.1))).trans (hHeld.2.2.2.2.2.2.2.2.2.2.2.2.2.2.2.1)
                        have HS16_ := (hb.cell (World.block_lt_of_cell? _ _ (hHeld.2.2.2.2.2.2.2.2.2.2.2.2.2.2.2.2.1))).trans (hHeld.2.2.2.2.2.2.2.2.2.2.2.2.2.2.2.2.1)
                        have HS17_ := (hb.cell (World.block_lt_of_cell? _ _ (hHeld.2.2.2.2.2.2.2.2.2.2.2.2.2.2.2.2.2))).trans (hHeld.2.2.2.2.2.2.2.2.2.2.2.2.2.2.2.2.2)
                        refine ⟨_, rfl, ?_⟩
                        have n0_ := aM (Kd.R_below (by (with_reducible repeat (first | apply Kd.R_alloc | apply Kd.R_drewN | apply Kd.R_drew)); exact HO_3.out) hb)
                        have n1_ := aM (Kd.R_below (by (with_reducible repeat (first | apply Kd.R_alloc | apply Kd.R_drewN | apply Kd.R_drew)); exact HO_7.out) hb)
                        have n2_ := aM (blk_below (g := gb132) (o := .cells #[.int .i64 ((rd_T40 t128 x9_1).f0.f0), .int .i64 ((rd_T40 t128 x9_1).f0.f1), .string ((rd_T40 t128 x9_1).f1), .int .i64 ((rd_T40 t128 x9_1).f2), .string ((rd_T40 t128 x9_1).f3), .string ((rd_T40 t128 x9_1).f4.f0), .string ((rd_T40 t128 x9_1).f4.f1), .string ((rd_T40 t128 x9_1).f5.f0), .string ((rd_T40 t128 x9_1).f5.f1)] 40 (0, 0)) (by (with_reducible repeat (first | refine bN ?_ _ | refine bD ?_ | refine bA ?_ _)); exact BK132.out) hb)
                        have n3_ := aM (below_step (by repeat (first | (with_reducible first | exact HB.out | apply below_alloc | apply pw_below_drewN | apply below_drew1 | refine below_set ?_ GE132.out) | exact HB.out)) hb)
                        clear HO_3
                        clear HO_7
                        clear BK132
                        clear HB
                        have HO_3 := n0_
                        have HO_7 := n1_
                        have BK132 := n2_
                        have HB := n3_
                        clear n0_ n1_ n2_ n3_
                        (try clear hb)
                        (try clear hb2)
                        (try clear hk)
                        (try clear hi)
                        obtain ⟨Ao30, co30, eo30⟩ := Kd.R_slice HO_3.out
                        (first | subst eo30 | (injection eo30 with f1_ f2_ f3_; have f4_ := f1_.symm; have f5_ := f3_.symm; clear f1_ f2_ f3_; subst f4_; subst f5_))
                        refine hK.out _ _ ⟨(blk_cell BK132.out 0).trans rfl, (blk_cell BK132.out 1).trans rfl, (blk_cell BK132.out 2).trans rfl, (blk_cell BK132.out 3).trans rfl, (blk_cell BK132.out 4).trans rfl, (blk_cell BK132.out 5).trans rfl, (blk_cell BK132.out 6).trans rfl, (blk_cell BK132.out 7).trans rfl, (blk_cell BK132.out 8).trans rfl, HS9_, HS10_, HS11_, HS12_, HS13_, HS14_, HS15_, HS16_, HS17_⟩ (fun hHeld => ?_)
                        clear hK K
                        refine norm_ (a' := ?_) ?_ ?_
                        rotate_left
                        · show Act.put _ (some 14) _ = _
                          simp only [Act.put, List.setIfInBounds_toArray, List.set_cons_zero, List.set_cons_succ, i64_w, i32_w]
                          rfl
                        refine pure_ (i := 2) (N := some 15) (v := ?_) (a' := ?_) #[true, true, true, false, false, false, false, false, false, false, false, false, false, false, false, false, false, false, false] rfl rfl (any_of HT_.out (by kernel_rfl)) (fun _ _ _ h => h) (Or.inl ⟨by rfl, ?_⟩) ?_ ?_
                        rotate_left
                        · intro w'
                          go_simp
                          with_reducible rfl
                        rotate_left
                        · simp only [Act.put, List.setIfInBounds_toArray, List.set_cons_zero, List.set_cons_succ, i64_w, i32_w]
                          rfl
                        refine pure_ (i := 3) (N := some 16) (v := ?_) (a' := ?_) #[true, true, true, true, false, false, false, false, false, false, false, false, false, false, false, false, false, false, false] rfl rfl (any_of HT_.out (by kernel_rfl)) (fun _ _ _ h => h) (Or.inl ⟨by rfl, ?_⟩) ?_ ?_
                        rotate_left
                        · intro w'
                          go_simp
                          with_reducible rfl
                        rotate_left
                        · simp only [Act.put, List.setIfInBounds_toArray, List.set_cons_zero, List.set_cons_succ, i64_w, i32_w]
                          rfl
                        refine pure_ (i := 4) (N := some 17) (v := ?_) (a' := ?_) #[true, true, true, true, true, false, false, false, false, false, false, false, false, false, false, false, false, false, false] rfl rfl (any_of HT_.out (by kernel_rfl)) (fun _ _ _ h => h) (Or.inl ⟨by rfl, ?_⟩) ?_ ?_
                        rotate_left
                        · intro w'
                          go_simp
                          with_reducible rfl
                        rotate_left
                        · simp only [Act.put, List.setIfInBounds_toArray, List.set_cons_zero, List.set_cons_succ, i64_w, i32_w]
                          rfl
                        refine pure_ (i := 5) (N := some 18) (v := ?_) (a' := ?_) #[true, true, true, true, true, true, false, false, false, false, false, false, false, false, false, false, false, false, false] rfl rfl (any_of HT_.out (by kernel_rfl)) (fun _ _ _ h => h) (Or.inl ⟨by rfl, ?_⟩) ?_ ?_
                        rotate_left
                        · intro w'
                          go_simp
                          with_reducible rfl
                        rotate_left
                        · simp only [Act.put, List.setIfInBounds_toArray, List.set_cons_zero, List.set_cons_succ, i64_w, i32_w]
                          rfl
                        refine pure_ (i := 6) (N := some 19) (v := ?_) (a' := ?_) #[true, true, true, true, true, true, true, false, false, false, false, false, false, false, false, false, false, false, false] rfl rfl (any_of HT_.out (by kernel_rfl)) (fun _ _ _ h => h) (Or.inl ⟨by rfl, ?_⟩) ?_ ?_
                        rotate_left
                        · intro w'
                          go_simp
                          with_reducible rfl
                        rotate_left
                        · simp only [Act.put, List.setIfInBounds_toArray, List.set_cons_zero, List.set_cons_succ, i64_w, i32_w]
                          rfl
                        refine pure_ (i := 7) (N := some 20) (v := ?_) (a' := ?_) #[true, true, true, true, true, true, true, true, false, false, false, false, false, false, false, false, false, false, false] rfl rfl (any_of HT_.out (by kernel_rfl)) (fun _ _ _ h => h) (Or.inl ⟨by rfl, ?_⟩) ?_ ?_
                        rotate_left
                        · intro w'
                          go_simp
                          with_reducible rfl
                        rotate_left
                        · simp only [Act.put, List.setIfInBounds_toArray, List.set_cons_zero, List.set_cons_succ, i64_w, i32_w]
                          rfl
                        refine pure_ (i := 8) (N := some 21) (v := ?_) (a' := ?_) #[true, true, true, true, true, true, true, true, true, false, false, false, false, false, false, false, false, false, false] rfl rfl (any_of HT_.out (by kernel_rfl)) (fun _ _ _ h => h) (Or.inl ⟨by rfl, ?_⟩) ?_ ?_
                        rotate_left
                        · intro w'
                          go_simp
                          with_reducible rfl
                        rotate_left
                        · simp only [Act.put, List.setIfInBounds_toArray, List.set_cons_zero, List.set_cons_succ, i64_w, i32_w]
                          rfl
                        refine pure_ (i := 9) (N := some 22) (v := ?_) (a' := ?_) #[true, true, true, true, true, true, true, true, true, true, false, false, false, false, false, false, false, false, false] rfl rfl (any_of HT_.out (by kernel_rfl)) (fun _ _ _ h => h) (Or.inl ⟨by rfl, ?_⟩) ?_ ?_
                        rotate_left
                        · intro w'
                          go_simp
                          with_reducible rfl
                        rotate_left
                        · simp only [Act.put, List.setIfInBounds_toArray, List.set_cons_zero, List.set_cons_succ, i64_w, i32_w]
                          rfl
                        refine pure_ (i := 10) (N := some 23) (v := ?_) (a' := ?_) #[true, true, true, true, true, true, true, true, true, true, true, false, false, false, false, false, false, false, false] rfl rfl (any_of HT_.out (by kernel_rfl)) (fun _ _ _ h => h) (Or.inl ⟨by rfl, ?_⟩) ?_ ?_
                        rotate_left
                        · intro w'
                          go_simp
                          with_reducible rfl
                        rotate_left
                        · simp only [Act.put, List.setIfInBounds_toArray, List.set_cons_zero, List.set_cons_succ, i64_w, i32_w]
                          rfl
                        refine pure_ (i := 11) (N := some 24) (v := ?_) (a' := ?_) #[true, true, true, true, true, true, true, true, true, true, true, true, false, false, false, false, false, false, false] rfl rfl (any_of HT_.out (by kernel_rfl)) (fun _ _ _ h => h) (Or.inl ⟨by rfl, ?_⟩) ?_ ?_
                        rotate_left
                        · intro w'
                          go_simp
                          with_reducible rfl
                        rotate_left
                        · simp only [Act.put, List.setIfInBounds_toArray, List.set_cons_zero, List.set_cons_succ, i64_w, i32_w]
                          rfl
                        refine pure_ (i := 12) (N := some 25) (v := ?_) (a' := ?_) #[true, true, true, true, true, true, true, true, true, true, true, true, true, false, false, false, false, false, false] rfl rfl (any_of HT_.out (by kernel_rfl)) (fun _ _ _ h => h) (Or.inl ⟨by rfl, ?_⟩) ?_ ?_
                        rotate_left
                        · intro w'
                          go_simp
                          with_reducible rfl
                        rotate_left
                        · simp only [Act.put, List.setIfInBounds_toArray, List.set_cons_zero, List.set_cons_succ, i64_w, i32_w]
                          rfl
                        refine pure_ (i := 14) (N := some 27) (v := ?_) (a' := ?_) #[true, true, true, true, true, true, true, true, true, true, true, true, true, false, true, false, false, false, false] rfl rfl (any_of HT_.out (by kernel_rfl)) (fun _ _ _ h => h) (Or.inl ⟨by rfl, ?_⟩) ?_ ?_
                        rotate_left
                        · intro w'
                          go_simp
                          with_reducible rfl
                        rotate_left
                        · simp only [Act.put, List.setIfInBounds_toArray, List.set_cons_zero, List.set_cons_succ, i64_w, i32_w]
                          rfl
                        refine take_ (i := 13) (N := some 26) (v := ?_) (a' := ?_) #[true, true, true, true, true, true, true, true, true, true, true, true, true, true, true, false, false, false, false] rfl rfl (take_ofW HT_.out HW_.out (by kernel_rfl)) (fun _ _ _ h => h) (Or.inl ⟨by rfl, ?_⟩) hHeld ?_ ?_
                        rotate_left
                        · rintro w' ⟨s0, s1, s2, s3, s4, s5, s6, s7, s8, s9, s10, s11, s12, s13, s14, s15, s16, s17⟩
                          go_simp
                          with_reducible rfl
                        rotate_left
                        · simp only [Act.put, List.setIfInBounds_toArray, List.set_cons_zero, List.set_cons_succ, i64_w, i32_w]
                          rfl
                        refine take_ (i := 15) (N := some 28) (v := ?_) (a' := ?_) #[true, true, true, true, true, true, true, true, true, true, true, true, true, true, true, true, false, false, false] rfl rfl (take_ofW HT_.out HW_.out (by kernel_rfl)) (fun _ _ _ h => h) (Or.inl ⟨by rfl, ?_⟩) hHeld ?_ ?_
                        rotate_left
                        · rintro w' ⟨s0, s1, s2, s3, s4, s5, s6, s7, s8, s9, s10, s11, s12, s13, s14, s15, s16, s17⟩
                          go_simp
                          with_reducible rfl
                        rotate_left
                        · simp only [Act.put, List.setIfInBounds_toArray, List.set_cons_zero, List.set_cons_succ, i64_w, i32_w]
                          rfl
                        refine pure_ (i := 16) (N := some 29) (v := ?_) (a' := ?_) #[true, true, true, true, true, true, true, true, true, true, true, true, true, true, true, true, true, false, false] rfl rfl (any_of HT_.out (by kernel_rfl)) (fun _ _ _ h => h) (Or.inl ⟨by rfl, ?_⟩) ?_ ?_
                        rotate_left
                        · intro w'
                          go_simp
                          with_reducible rfl
                        rotate_left
                        · simp only [Act.put, List.setIfInBounds_toArray, List.set_cons_zero, List.set_cons_succ, i64_w, i32_w]
                          rfl
                        refine pure_ (i := 17) (N := some 30) (v := ?_) (a' := ?_) #[true, true, true, true, true, true, true, true, true, true, true, true, true, true, true, true, true, true, false] rfl rfl (any_of HT_.out (by kernel_rfl)) (fun _ _ _ h => h) (Or.inl ⟨by rfl, ?_⟩) ?_ ?_
                        rotate_left
                        · intro w'
                          go_simp
                          with_reducible rfl
                        rotate_left
                        · simp only [Act.put, List.setIfInBounds_toArray, List.set_cons_zero, List.set_cons_succ, i64_w, i32_w]
                          rfl
                        refine pure_ (i := 18) (N := some 31) (v := ?_) (a' := ?_) #[true, true, true, true, true, true, true, true, true, true, true, true, true, true, true, true, true, true, true] rfl rfl (any_of HT_.out (by kernel_rfl)) (fun _ _ _ h => h) (Or.inl ⟨by rfl, ?_⟩) ?_ ?_
                        rotate_left
                        · intro w'
                          go_simp
                          with_reducible rfl
                        rotate_left
                        · simp only [Act.put, List.setIfInBounds_toArray, List.set_cons_zero, List.set_cons_succ, i64_w, i32_w]
                          rfl
                        refine done_ (done_of HT_.out (by kernel_rfl)) ?_
                        obtain ⟨hcz31_0, hcz31_1, hcz31_2, hcz31_3, hcz31_4, hcz31_5, hcz31_6, hcz31_7, hcz31_8, hfz31_0, hfz31_1, hfz31_2, hfz31_3, hfz31_4, hfz31_5, hfz31_6, hfz31_7, hfz31_8⟩ := blk_all9 BK132.out
                        try go_wp2_with (first | ((with_reducible refine gate_builtin (b := .append) (xs := #[.tmp 32, .tmp 34]) rfl ?_); at_builtin; refine Kd.R_append k40 (w0 := w) w.heap.size rfl (.tmp 32) (.tmp 34) 27 40 (.agg #[(.int .i64 0), (.int .i64 0), (.string ⟨#[]⟩), (.int .i64 0), (.string ⟨#[]⟩), (.string ⟨#[]⟩), (.string ⟨#[]⟩), (.string ⟨#[]⟩), (.string ⟨#[]⟩)]) 120 rfl Tryd.underlying27 info40 rfl (by decide) (by omega) (.slice (some ad137) x3_1.length co30) x3_1 (⟨(⟨(rd_T40 t128 x9_1).f0.f0, (rd_T40 t128 x9_1).f0.f1⟩ : S36), (rd_T40 t128 x9_1).f1, (rd_T40 t128 x9_1).f2, (rd_T40 t128 x9_1).f3, (⟨(rd_T40 t128 x9_1).f4.f0, (rd_T40 t128 x9_1).f4.f1⟩ : S38), (⟨(rd_T40 t128 x9_1).f5.f0, (rd_T40 t128 x9_1).f5.f1⟩ : S38)⟩ : S40) [.int .i64 ((rd_T40 t128 x9_1).f0.f0), .int .i64 ((rd_T40 t128 x9_1).f0.f1), .string ((rd_T40 t128 x9_1).f1), .int .i64 ((rd_T40 t128 x9_1).f2), .string ((rd_T40 t128 x9_1).f3), .string ((rd_T40 t128 x9_1).f4.f0), .string ((rd_T40 t128 x9_1).f4.f1), .string ((rd_T40 t128 x9_1).f5.f0), .string ((rd_T40 t128 x9_1).f5.f1)] (fun k_ => some k_ ≠ (.slice (some ad131) t128.length co4 : Value).ownBlock ∧ k_ ≠ gb132) (fun _ => False) rfl rfl ?aP (fun _ hk => hk.elim) ?aF ?aO ?aB ?aS ?aL ?_; (case aP => exact k40_mkM _ _ _ (⟨(⟨(rd_T40 t128 x9_1).f0.f0, (rd_T40 t128 x9_1).f0.f1⟩ : S36), (rd_T40 t128 x9_1).f1, (rd_T40 t128 x9_1).f2, (rd_T40 t128 x9_1).f3, (⟨(rd_T40 t128 x9_1).f4.f0, (rd_T40 t128 x9_1).f4.f1⟩ : S38), (⟨(rd_T40 t128 x9_1).f5.f0, (rd_T40 t128 x9_1).f5.f1⟩ : S38)⟩ : S40)); (case aB => exact (by repeat (first | (with_reducible first | exact HB.out | apply below_alloc | apply pw_below_drewN | apply below_drew1 | refine below_set ?_ GE132.out) | exact HB.out))); (case aF => exact (fun k_ hk => ⟨Kd.fresh' (Kd.R_lt (by (with_reducible repeat (first | apply Kd.R_alloc | apply Kd.R_drewN | apply Kd.R_drew)); exact HO_7.out)) k_ hk, Kd.freshB (g := gb132) (o := .cells #[.int .i64 ((rd_T40 t128 x9_1).f0.f0), .int .i64 ((rd_T40 t128 x9_1).f0.f1), .string ((rd_T40 t128 x9_1).f1), .int .i64 ((rd_T40 t128 x9_1).f2), .string ((rd_T40 t128 x9_1).f3), .string ((rd_T40 t128 x9_1).f4.f0), .string ((rd_T40 t128 x9_1).f4.f1), .string ((rd_T40 t128 x9_1).f5.f0), .string ((rd_T40 t128 x9_1).f5.f1)] 40 (0, 0)) (by (with_reducible repeat (first | refine bN ?_ _ | refine bD ?_ | refine bA ?_ _)); exact BK132.out) k_ hk⟩)); (case aO => exact (by (with_reducible repeat (first | apply Kd.R_alloc | apply Kd.R_drewN | apply Kd.R_drew)); exact HO_3.out)); (case aS => exact (below_size (by repeat (first | (with_reducible first | exact HB.out | apply below_alloc | apply pw_below_drewN | apply below_drew1 | refine below_set ?_ GE132.out) | exact HB.out)))); (case aL => have := LMc24.out; omega); intro v139 w32 ho hb hg hat; rw [← Ny138.out] at ho; have n0_ := aM (Kd.R_after (ok := (fun k_ => k_ ≠ gb132)) (by (with_reducible repeat (first | apply Kd.R_alloc | apply Kd.R_drewN | apply Kd.R_drew)); exact Kd.R_mono HO_7.out (fun _ hk => ⟨hk.2, hk.1⟩)) hg hat); have n1_ := aM (blk_grown (g := gb132) (o := .cells #[.int .i64 ((rd_T40 t128 x9_1).f0.f0), .int .i64 ((rd_T40 t128 x9_1).f0.f1), .string ((rd_T40 t128 x9_1).f1), .int .i64 ((rd_T40 t128 x9_1).f2), .string ((rd_T40 t128 x9_1).f3), .string ((rd_T40 t128 x9_1).f4.f0), .string ((rd_T40 t128 x9_1).f4.f1), .string ((rd_T40 t128 x9_1).f5.f0), .string ((rd_T40 t128 x9_1).f5.f1)] 40 (0, 0)) (by (with_reducible repeat (first | refine bN ?_ _ | refine bD ?_ | refine bA ?_ _)); exact BK132.out) hg (Kd.R_away HO_3.out (fun _ hk => hk.2))); have n2_ := aM (hb); have n3_ := aM (ho); clear HO_7 BK132 HB HO_3; have HO_7 := n0_; have BK132 := n1_; have HB := n2_; have HO140 := n3_; clear n0_ n1_ n2_ n3_; clear ho hb hg hat))
                        go_roundg k1
                        case measure => have := HK1.out; omega
                        case rel => exact ⟨(y138), (wrap64 (x9_1 + 1)), (by first | rfl | (simp; done) | (simp [*]; done)), H', ⟨by have := HK1.out; omega⟩, ⟨by (with_reducible repeat (first | apply Kd.R_alloc | apply Kd.R_drewN | apply Kd.R_drew)); exact Kd.R_mono HO140.out (fun _ hk => hk.1)⟩, ⟨by (with_reducible repeat (first | apply Kd.R_alloc | apply Kd.R_drewN | apply Kd.R_drew)); exact Kd.R_mono HO_7.out (fun _ hk => hk.2)⟩, ⟨by repeat (first | (with_reducible first | exact HB.out | apply below_alloc | apply pw_below_drewN | apply below_drew1 | refine below_set ?_ GE132.out) | exact HB.out)⟩⟩
                      · rw [if_neg c24] at H
                        exact absurd H (by simp)
                    · rw [if_neg c23] at H
                      have c23b0 : (!(((rd_T40 x3_1 (ji20)).f0.f0) == ((rd_T40 t128 x9_1).f0.f0)) || (!(((rd_T40 x3_1 (ji20)).f0.f1) == ((rd_T40 t128 x9_1).f0.f1)))) = false := by simpa using c23
                      clear c23
                      have H' := Aside0.mk H
                      clear H
                      have p131 : 0 ≤ (x9_1 : Int) := of_decide_eq_true (by first | (with_reducible assumption) | assumption)
                      have q131 : x9_1 < (t128.length : Int) := of_decide_eq_true (by first | (with_reducible assumption) | assumption)
                      obtain ⟨ad131, e131, hx131_0, hx131_1, hx131_2, hx131_3, hx131_4, hx131_5, hx131_6, hx131_7, hx131_8⟩ := at_T40 (Kd.R_reads' HO_7.out).2.2 x9_1 p131 q131
                      cases e131
                      replace p131 := eq_true p131
                      replace q131 := eq_true q131
                      try go_wp2_with (first | ((with_reducible refine gate_dst (N := 5) rfl ?_); refine box_event ?hg (N := 5) ?hd (cs := #[.int .i64 0, .int .i64 0, .string ⟨#[]⟩, .int .i64 0, .string ⟨#[]⟩, .string ⟨#[]⟩, .string ⟨#[]⟩, .string ⟨#[]⟩, .string ⟨#[]⟩]) (t := 40) ?hr ?_; (case hd => rfl); (case hg => rfl); (case hr => first | (go_simp; done) | (go_simp; rfl)); intro gb132 hg w33 hbox hb; have n0_ := aM (Kd.R_below (Kd.R_elderB (by (with_reducible repeat (first | apply Kd.R_alloc | apply Kd.R_drewN | apply Kd.R_drew)); exact HO_3.out) gb132 (Nat.le_of_eq hg.symm)) hb); have n1_ := aM (Kd.R_below (Kd.R_elderB (by (with_reducible repeat (first | apply Kd.R_alloc | apply Kd.R_drewN | apply Kd.R_drew)); exact HO_7.out) gb132 (Nat.le_of_eq hg.symm)) hb); have n2_ := aM (below_step (by repeat (first | (with_reducible first | exact HB.out | apply below_alloc | apply pw_below_drewN | apply below_drew1) | exact HB.out)) hb); have n3_ := aM (hbox); have n4_ := aM ((by rw [hg]; exact (below_size (by repeat (first | (with_reducible first | exact HB.out | apply below_alloc | apply pw_below_drewN | apply below_drew1) | exact HB.out))) : w.heap.size ≤ gb132)); have n5_ := n4_; clear HO_3 HO_7 HB; have HO_3 := n0_; have HO_7 := n1_; have HB := n2_; have BK132 := n3_; have GW132 := n4_; have GE132 := n5_; clear n0_ n1_ n2_ n3_ n4_ n5_; clear hb hbox hg; obtain ⟨hcz34_0, hcz34_1, hcz34_2, hcz34_3, hcz34_4, hcz34_5, hcz34_6, hcz34_7, hcz34_8, hfz34_0, hfz34_1, hfz34_2, hfz34_3, hfz34_4, hfz34_5, hfz34_6, hfz34_7, hfz34_8⟩ := blk_all9 BK132.out))
                      have n0_ : Aside0 (Kd.R k40 40 (((((((((w33.setCell ⟨gb132, 0, none⟩ (.int .i64 ((rd_T40 t128 x9_1).f0.f0))).setCell ⟨gb132, 1, none⟩ (.int .i64 ((rd_T40 t128 x9_1).f0.f1))).setCell ⟨gb132, 2, none⟩ (.string ((rd_T40 t128 x9_1).f1))).setCell ⟨gb132, 3, none⟩ (.int .i64 ((rd_T40 t128 x9_1).f2))).setCell ⟨gb132, 4, none⟩ (.string ((rd_T40 t128 x9_1).f3))).setCell ⟨gb132, 5, none⟩ (.string ((rd_T40 t128 x9_1).f4.f0))).setCell ⟨gb132, 6, none⟩ (.string ((rd_T40 t128 x9_1).f4.f1))).setCell ⟨gb132, 7, none⟩ (.string ((rd_T40 t128 x9_1).f5.f0))).setCell ⟨gb132, 8, none⟩ (.string ((rd_T40 t128 x9_1).f5.f1))) w.heap.size (fun k_ => some k_ ≠ (.slice (some ad131) t128.length co4 : Value).ownBlock ∧ k_ ≠ gb132) u3 x3_1) := ⟨by (with_reducible repeat (first | apply Kd.R_alloc | apply Kd.R_drewN | apply Kd.R_drew)); exact Kd.R_mono (Kd.R_far (p := ⟨gb132, 8, none⟩) (Kd.R_far (p := ⟨gb132, 7, none⟩) (Kd.R_far (p := ⟨gb132, 6, none⟩) (Kd.R_far (p := ⟨gb132, 5, none⟩) (Kd.R_far (p := ⟨gb132, 4, none⟩) (Kd.R_far (p := ⟨gb132, 3, none⟩) (Kd.R_far (p := ⟨gb132, 2, none⟩) (Kd.R_far (p := ⟨gb132, 1, none⟩) (Kd.R_far (p := ⟨gb132, 0, none⟩) (Kd.R_mono HO_3.out (fun k_ hk => (⟨hk, hk.2⟩ : _ ∧ k_ ≠ gb132))) (fun _ hk => hk.2) (.int .i64 ((rd_T40 t128 x9_1).f0.f0))) (fun _ hk => hk.2) (.int .i64 ((rd_T40 t128 x9_1).f0.f1))) (fun _ hk => hk.2) (.string ((rd_T40 t128 x9_1).f1))) (fun _ hk => hk.2) (.int .i64 ((rd_T40 t128 x9_1).f2))) (fun _ hk => hk.2) (.string ((rd_T40 t128 x9_1).f3))) (fun _ hk => hk.2) (.string ((rd_T40 t128 x9_1).f4.f0))) (fun _ hk => hk.2) (.string ((rd_T40 t128 x9_1).f4.f1))) (fun _ hk => hk.2) (.string ((rd_T40 t128 x9_1).f5.f0))) (fun _ hk => hk.2) (.string ((rd_T40 t128 x9_1).f5.f1))) (fun _ hk => ⟨hk.1.1, hk.1.2⟩)⟩
                      have n1_ : Aside0 (Kd.R k40 40 (((((((((w33.setCell ⟨gb132, 0, none⟩ (.int .i64 ((rd_T40 t128 x9_1).f0.f0))).setCell ⟨gb132, 1, none⟩ (.int .i64 ((rd_T40 t128 x9_1).f0.f1))).setCell ⟨gb132, 2, none⟩ (.string ((rd_T40 t128 x9_1).f1))).setCell ⟨gb132, 3, none⟩ (.int .i64 ((rd_T40 t128 x9_1).f2))).setCell ⟨gb132, 4, none⟩ (.string ((rd_T40 t128 x9_1).f3))).setCell ⟨gb132, 5, none⟩ (.string ((rd_T40 t128 x9_1).f4.f0))).setCell ⟨gb132, 6, none⟩ (.string ((rd_T40 t128 x9_1).f4.f1))).setCell ⟨gb132, 7, none⟩ (.string ((rd_T40 t128 x9_1).f5.f0))).setCell ⟨gb132, 8, none⟩ (.string ((rd_T40 t128 x9_1).f5.f1))) w.heap.size (fun k_ => some k_ ≠ (u3 : Value).ownBlock ∧ k_ ≠ gb132) (.slice (some ad131) t128.length co4) t128) := ⟨by (with_reducible repeat (first | apply Kd.R_alloc | apply Kd.R_drewN | apply Kd.R_drew)); exact Kd.R_mono (Kd.R_far (p := ⟨gb132, 8, none⟩) (Kd.R_far (p := ⟨gb132, 7, none⟩) (Kd.R_far (p := ⟨gb132, 6, none⟩) (Kd.R_far (p := ⟨gb132, 5, none⟩) (Kd.R_far (p := ⟨gb132, 4, none⟩) (Kd.R_far (p := ⟨gb132, 3, none⟩) (Kd.R_far (p := ⟨gb132, 2, none⟩) (Kd.R_far (p := ⟨gb132, 1, none⟩) (Kd.R_far (p := ⟨gb132, 0, none⟩) (Kd.R_mono HO_7.out (fun k_ hk => (⟨hk, hk.2⟩ : _ ∧ k_ ≠ gb132))) (fun _ hk => hk.2) (.int .i64 ((rd_T40 t128 x9_1).f0.f0))) (fun _ hk => hk.2) (.int .i64 ((rd_T40 t128 x9_1).f0.f1))) (fun _ hk => hk.2) (.string ((rd_T40 t128 x9_1).f1))) (fun _ hk => hk.2) (.int .i64 ((rd_T40 t128 x9_1).f2))) (fun _ hk => hk.2) (.string ((rd_T40 t128 x9_1).f3))) (fun _ hk => hk.2) (.string ((rd_T40 t128 x9_1).f4.f0))) (fun _ hk => hk.2) (.string ((rd_T40 t128 x9_1).f4.f1))) (fun _ hk => hk.2) (.string ((rd_T40 t128 x9_1).f5.f0))) (fun _ hk => hk.2) (.string ((rd_T40 t128 x9_1).f5.f1))) (fun _ hk => ⟨hk.1.1, hk.1.2⟩)⟩
                      have n2_ : Aside0 ((((((((((w33.setCell ⟨gb132, 0, none⟩ (.int .i64 ((rd_T40 t128 x9_1).f0.f0))).setCell ⟨gb132, 1, none⟩ (.int .i64 ((rd_T40 t128 x9_1).f0.f1))).setCell ⟨gb132, 2, none⟩ (.string ((rd_T40 t128 x9_1).f1))).setCell ⟨gb132, 3, none⟩ (.int .i64 ((rd_T40 t128 x9_1).f2))).setCell ⟨gb132, 4, none⟩ (.string ((rd_T40 t128 x9_1).f3))).setCell ⟨gb132, 5, none⟩ (.string ((rd_T40 t128 x9_1).f4.f0))).setCell ⟨gb132, 6, none⟩ (.string ((rd_T40 t128 x9_1).f4.f1))).setCell ⟨gb132, 7, none⟩ (.string ((rd_T40 t128 x9_1).f5.f0))).setCell ⟨gb132, 8, none⟩ (.string ((rd_T40 t128 x9_1).f5.f1))).heap[gb132]? = some (.cells #[.int .i64 ((rd_T40 t128 x9_1).f0.f0), .int .i64 ((rd_T40 t128 x9_1).f0.f1), .string ((rd_T40 t128 x9_1).f1), .int .i64 ((rd_T40 t128 x9_1).f2), .string ((rd_T40 t128 x9_1).f3), .string ((rd_T40 t128 x9_1).f4.f0), .string ((rd_T40 t128 x9_1).f4.f1), .string ((rd_T40 t128 x9_1).f5.f0), .string ((rd_T40 t128 x9_1).f5.f1)] 40 (0, 0))) := ⟨by (with_reducible repeat (first | refine bN ?_ _ | refine bD ?_ | refine bA ?_ _)); refine blk_put (cs := #[.int .i64 ((rd_T40 t128 x9_1).f0.f0), .int .i64 ((rd_T40 t128 x9_1).f0.f1), .string ((rd_T40 t128 x9_1).f1), .int .i64 ((rd_T40 t128 x9_1).f2), .string ((rd_T40 t128 x9_1).f3), .string ((rd_T40 t128 x9_1).f4.f0), .string ((rd_T40 t128 x9_1).f4.f1), .string ((rd_T40 t128 x9_1).f5.f0), .string ⟨#[]⟩]) ?_ 8 _ rfl; (with_reducible repeat (first | refine bN ?_ _ | refine bD ?_ | refine bA ?_ _)); refine blk_put (cs := #[.int .i64 ((rd_T40 t128 x9_1).f0.f0), .int .i64 ((rd_T40 t128 x9_1).f0.f1), .string ((rd_T40 t128 x9_1).f1), .int .i64 ((rd_T40 t128 x9_1).f2), .string ((rd_T40 t128 x9_1).f3), .string ((rd_T40 t128 x9_1).f4.f0), .string ((rd_T40 t128 x9_1).f4.f1), .string ⟨#[]⟩, .string ⟨#[]⟩]) ?_ 7 _ rfl; (with_reducible repeat (first | refine bN ?_ _ | refine bD ?_ | refine bA ?_ _)); refine blk_put (cs := #[.int .i64 ((rd_T40 t128 x9_1).f0.f0), .int .i64 ((rd_T40 t128 x9_1).f0.f1), .string ((rd_T40 t128 x9_1).f1), .int .i64 ((rd_T40 t128 x9_1).f2), .string ((rd_T40 t128 x9_1).f3), .string ((rd_T40 t128 x9_1).f4.f0), .string ⟨#[]⟩, .string ⟨#[]⟩, .string ⟨#[]⟩]) ?_ 6 _ rfl; (with_reducible repeat (first | refine bN ?_ _ | refine bD ?_ | refine bA ?_ _)); refine blk_put (cs := #[.int .i64 ((rd_T40 t128 x9_1).f0.f0), .int .i64 ((rd_T40 t128 x9_1).f0.f1), .string ((rd_T40 t128 x9_1).f1), .int .i64 ((rd_T40 t128 x9_1).f2), .string ((rd_T40 t128 x9_1).f3), .string ⟨#[]⟩, .string ⟨#[]⟩, .string ⟨#[]⟩, .string ⟨#[]⟩]) ?_ 5 _ rfl; (with_reducible repeat (first | refine bN ?_ _ | refine bD ?_ | refine bA ?_ _)); refine blk_put (cs := #[.int .i64 ((rd_T40 t128 x9_1).f0.f0), .int .i64 ((rd_T40 t128 x9_1).f0.f1), .string ((rd_T40 t128 x9_1).f1), .int .i64 ((rd_T40 t128 x9_1).f2), .string ⟨#[]⟩, .string ⟨#[]⟩, .string ⟨#[]⟩, .string ⟨#[]⟩, .string ⟨#[]⟩]) ?_ 4 _ rfl; (with_reducible repeat (first | refine bN ?_ _ | refine bD ?_ | refine bA ?_ _)); refine blk_put (cs := #[.int .i64 ((rd_T40 t128 x9_1).f0.f0), .int .i64 ((rd_T40 t128 x9_1).f0.f1), .string ((rd_T40 t128 x9_1).f1), .int .i64 0, .string ⟨#[]⟩, .string ⟨#[]⟩, .string ⟨#[]⟩, .string ⟨#[]⟩, .string ⟨#[]⟩]) ?_ 3 _ rfl; (with_reducible repeat (first | refine bN ?_ _ | refine bD ?_ | refine bA ?_ _)); refine blk_put (cs := #[.int .i64 ((rd_T40 t128 x9_1).f0.f0), .int .i64 ((rd_T40 t128 x9_1).f0.f1), .string ⟨#[]⟩, .int .i64 0, .string ⟨#[]⟩, .string ⟨#[]⟩, .string ⟨#[]⟩, .string ⟨#[]⟩, .string ⟨#[]⟩]) ?_ 2 _ rfl; (with_reducible repeat (first | refine bN ?_ _ | refine bD ?_ | refine bA ?_ _)); refine blk_put (cs := #[.int .i64 ((rd_T40 t128 x9_1).f0.f0), .int .i64 0, .string ⟨#[]⟩, .int .i64 0, .string ⟨#[]⟩, .string ⟨#[]⟩, .string ⟨#[]⟩, .string ⟨#[]⟩, .string ⟨#[]⟩]) ?_ 1 _ rfl; (with_reducible repeat (first | refine bN ?_ _ | refine bD ?_ | refine bA ?_ _)); refine blk_put (cs := #[.int .i64 0, .int .i64 0, .string ⟨#[]⟩, .int .i64 0, .string ⟨#[]⟩, .string ⟨#[]⟩, .string ⟨#[]⟩, .string ⟨#[]⟩, .string ⟨#[]⟩]) ?_ 0 _ rfl; (with_reducible repeat (first | refine bN ?_ _ | refine bD ?_ | refine bA ?_ _)); exact BK132.out⟩
                      have n3_ : Aside0 (Below w.heap.size w (((((((((w33.setCell ⟨gb132, 0, none⟩ (.int .i64 ((rd_T40 t128 x9_1).f0.f0))).setCell ⟨gb132, 1, none⟩ (.int .i64 ((rd_T40 t128 x9_1).f0.f1))).setCell ⟨gb132, 2, none⟩ (.string ((rd_T40 t128 x9_1).f1))).setCell ⟨gb132, 3, none⟩ (.int .i64 ((rd_T40 t128 x9_1).f2))).setCell ⟨gb132, 4, none⟩ (.string ((rd_T40 t128 x9_1).f3))).setCell ⟨gb132, 5, none⟩ (.string ((rd_T40 t128 x9_1).f4.f0))).setCell ⟨gb132, 6, none⟩ (.string ((rd_T40 t128 x9_1).f4.f1))).setCell ⟨gb132, 7, none⟩ (.string ((rd_T40 t128 x9_1).f5.f0))).setCell ⟨gb132, 8, none⟩ (.string ((rd_T40 t128 x9_1).f5.f1)))) := ⟨by repeat (first | (with_reducible first | exact HB.out | apply below_alloc | apply pw_below_drewN | apply below_drew1 | refine below_set ?_ GE132.out) | exact HB.out)⟩
                      (try clear HO_3)
                      (try clear HO_7)
                      (try clear BK132)
                      (try clear HB)
                      generalize (((((((((w33.setCell ⟨gb132, 0, none⟩ (.int .i64 ((rd_T40 t128 x9_1).f0.f0))).setCell ⟨gb132, 1, none⟩ (.int .i64 ((rd_T40 t128 x9_1).f0.f1))).setCell ⟨gb132, 2, none⟩ (.string ((rd_T40 t128 x9_1).f1))).setCell ⟨gb132, 3, none⟩ (.int .i64 ((rd_T40 t128 x9_1).f2))).setCell ⟨gb132, 4, none⟩ (.string ((rd_T40 t128 x9_1).f3))).setCell ⟨gb132, 5, none⟩ (.string ((rd_T40 t128 x9_1).f4.f0))).setCell ⟨gb132, 6, none⟩ (.string ((rd_T40 t128 x9_1).f4.f1))).setCell ⟨gb132, 7, none⟩ (.string ((rd_T40 t128 x9_1).f5.f0))).setCell ⟨gb132, 8, none⟩ (.string ((rd_T40 t128 x9_1).f5.f1))) = w35 at n0_ n1_ n2_ n3_ ⊢
                      have HO_3 := n0_
                      have HO_7 := n1_
                      have BK132 := n2_
                      have HB := n3_
                      clear n0_ n1_ n2_ n3_
                      have n0_ := aM (Kd.R_drew HO_3.out)
                      have n1_ := aM (Kd.R_drew HO_7.out)
                      have n2_ := aM (blk_drew BK132.out)
                      have n3_ := aM (below_drew1 HB.out)
                      clear HO_3
                      clear HO_7
                      clear BK132
                      clear HB
                      have HO_3 := n0_
                      have HO_7 := n1_
                      have BK132 := n2_
                      have HB := n3_
                      clear n0_ n1_ n2_ n3_
                      have p137 : 0 ≤ ((ji20) : Int) := of_decide_eq_true (by first | (with_reducible assumption) | assumption)
                      have q137 : (ji20) < (x3_1.length : Int) := of_decide_eq_true (by first | (with_reducible assumption) | assumption)
                      obtain ⟨Ao3q, co3q, eo3q⟩ := Kd.R_slice HO_3.out
                      subst eo3q
                      obtain ⟨ad137, e137, hx137_0, hx137_1, hx137_2, hx137_3, hx137_4, hx137_5, hx137_6, hx137_7, hx137_8⟩ := at_T40 (Kd.R_reads' HO_3.out).2.2 (ji20) p137 q137
                      cases e137
                      replace p137 := eq_true p137
                      replace q137 := eq_true q137
                      refine start_ (n := 19) (S := fun w' => w'.cell? ⟨gb132, 0, none⟩ = some (.int .i64 ((rd_T40 t128 x9_1).f0.f0)) ∧ w'.cell? ⟨gb132, 1, none⟩ = some (.int .i64 ((rd_T40 t128 x9_1).f0.f1)) ∧ w'.cell? ⟨gb132, 2, none⟩ = some (.string ((rd_T40 t128 x9_1).f1)) ∧ w'.cell? ⟨gb132, 3, none⟩ = some (.int .i64 ((rd_T40 t128 x9_1).f2)) ∧ w'.cell? ⟨gb132, 4, none⟩ = some (.string ((rd_T40 t128 x9_1).f3)) ∧ w'.cell? ⟨gb132, 5, none⟩ = some (.string ((rd_T40 t128 x9_1).f4.f0)) ∧ w'.cell? ⟨gb132, 6, none⟩ = some (.string ((rd_T40 t128 x9_1).f4.f1)) ∧ w'.cell? ⟨gb132, 7, none⟩ = some (.string ((rd_T40 t128 x9_1).f5.f0)) ∧ w'.cell? ⟨gb132, 8, none⟩ = some (.string ((rd_T40 t128 x9_1).f5.f1)) ∧ w'.cell? (ad137.add (((ji20)).toNat * 9)) = some (.int .i64 ((rd_T40 x3_1 (ji20)).f0.f0)) ∧ w'.cell? ⟨(ad137.add (((ji20)).toNat * 9)).block, (ad137.add (((ji20)).toNat * 9)).off + 1, none⟩ = some (.int .i64 ((rd_T40 x3_1 (ji20)).f0.f1)) ∧ w'.cell? ⟨(ad137.add (((ji20)).toNat * 9)).block, (ad137.add (((ji20)).toNat * 9)).off + 2, none⟩ = some (.string ((rd_T40 x3_1 (ji20)).f1)) ∧ w'.cell? ⟨(ad137.add (((ji20)).toNat * 9)).block, (ad137.add (((ji20)).toNat * 9)).off + 3, none⟩ = some (.int .i64 ((rd_T40 x3_1 (ji20)).f2)) ∧ w'.cell? ⟨(ad137.add (((ji20)).toNat * 9)).block, (ad137.add (((ji20)).toNat * 9)).off + 4, none⟩ = some (.string ((rd_T40 x3_1 (ji20)).f3)) ∧ w'.cell? ⟨(ad137.add (((ji20)).toNat * 9)).block, (ad137.add (((ji20)).toNat * 9)).off + 5, none⟩ = some (.string ((rd_T40 x3_1 (ji20)).f4.f0)) ∧ w'.cell? ⟨(ad137.add (((ji20)).toNat * 9)).block, (ad137.add (((ji20)).toNat * 9)).off + 6, none⟩ = some (.string ((rd_T40 x3_1 (ji20)).f4.f1)) ∧ w'.cell? ⟨(ad137.add (((ji20)).toNat * 9)).block, (ad137.add (((ji20)).toNat * 9)).off + 7, none⟩ = some (.string ((rd_T40 x3_1 (ji20)).f5.f0)) ∧ w'.cell? ⟨(ad137.add (((ji20)).toNat * 9)).block, (ad137.add (((ji20)).toNat * 9)).off + 8, none⟩ = some (.string ((rd_T40 x3_1 (ji20)).f5.f1))) (ds := []) #[false, false, false, false, false, false, false, false, false, false, false, false, false, false, false, false, false, false, false] (by kernel_rfl) rfl rfl ⟨(blk_cell BK132.out 0).trans rfl, (blk_cell BK132.out 1).trans rfl, (blk_cell BK132.out 2).trans rfl, (blk_cell BK132.out 3).trans rfl, (blk_cell BK132.out 4).trans rfl, (blk_cell BK132.out 5).trans rfl, (blk_cell BK132.out 6).trans rfl, (blk_cell BK132.out 7).trans rfl, (blk_cell BK132.out 8).trans rfl, hx137_0, hx137_1, hx137_2, hx137_3, hx137_4, hx137_5, hx137_6, hx137_7, hx137_8⟩ (fun hHeld => ?_); refine with_tabW cred_Counts.tab5 cred_Counts.bits5 (fun HT_ HW_ => ?_)
                      generalize w35.drew = w36 at HO_3 HO_7 BK132 HB hx137_0 hx137_1 hx137_2 hx137_3 hx137_4 hx137_5 hx137_6 hx137_7 hx137_8 hHeld ⊢
                      refine take_ (i := 0) (N := some 13) (v := ?_) (a' := ?_) #[true, false, false, false, false, false, false, false, false, false, false, false, false, false, false, false, false, false, false] rfl rfl (take_ofW HT_.out HW_.out (by kernel_rfl)) (fun _ _ _ h => h) (Or.inl ⟨by rfl, ?_⟩) hHeld ?_ ?_
                      rotate_left
                      · rintro w' ⟨s0, s1, s2, s3, s4, s5, s6, s7, s8, s9, s10, s11, s12, s13, s14, s15, s16, s17⟩
                        go_simp
                        with_reducible rfl
                      rotate_left
                      · simp only [Act.put, List.setIfInBounds_toArray, List.set_cons_zero, List.set_cons_succ, i64_w, i32_w]
                        rfl
                      refine one_ (i := 1) (N := some 14) #[true, true, false, false, false, false, false, false, false, false, false, false, false, false, false, false, false, false, false] rfl rfl (one_of HT_.out (by kernel_rfl)) (by decide) (fun K hK => ?_)
                      refine goes_ Tryd.func38 (by kernel_rfl) rfl #[.agg #[.int .i64 ((rd_T40 t128 x9_1).f0.f0), .int .i64 ((rd_T40 t128 x9_1).f0.f1), .string ((rd_T40 t128 x9_1).f1), .int .i64 ((rd_T40 t128 x9_1).f2), .string ((rd_T40 t128 x9_1).f3), .string ((rd_T40 t128 x9_1).f4.f0), .string ((rd_T40 t128 x9_1).f4.f1), .string ((rd_T40 t128 x9_1).f5.f0), .string ((rd_T40 t128 x9_1).f5.f1)]] (by rfl) rfl rfl (by (try simp only [mA, mB, mC]); first | done | rfl | (simp only [List.length_drop, List.length_take]; rfl)) ?_
                      with_reducible refine (cred_May.calls k1 ((rd_T40 t128 x9_1).f0.f0) ((rd_T40 t128 x9_1).f0.f1) ((rd_T40 t128 x9_1).f1) ((rd_T40 t128 x9_1).f2) ((rd_T40 t128 x9_1).f3) ((rd_T40 t128 x9_1).f4.f0) ((rd_T40 t128 x9_1).f4.f1) ((rd_T40 t128 x9_1).f5.f0) ((rd_T40 t128 x9_1).f5.f1) true _ A8.out).mono ?_
                      rintro e w37 ⟨rfl, hb⟩
                      have HS9_ := (hb.cell (World.block_lt_of_cell? _ _ (hHeld.2.2.2.2.2.2.2.2.2.1))).trans (hHeld.2.2.2.2.2.2.2.2.2.1)
                      have HS10_ := (hb.cell (World.block_lt_of_cell? _ _ (hHeld.2.2.2.2.2.2.2.2.2.2.1))).trans (hHeld.2.2.2.2.2.2.2.2.2.2.1)
                      have HS11_ := (hb.cell (World.block_lt_of_cell? _ _ (hHeld.2.2.2.2.2.2.2.2.2.2.2.1))).trans (hHeld.2.2.2.2.2.2.2.2.2.2.2.1)
                      have HS12_ := (hb.cell (World.block_lt_of_cell? _ _ (hHeld.2.2.2.2.2.2.2.2.2.2.2.2.1))).trans (hHeld.2.2.2.2.2.2.2.2.2.2.2.2.1)
                      have HS13_ := (hb.cell (World.block_lt_of_cell? _ _ (hHeld.2.2.2.2.2.2.2.2.2.2.2.2.2.1))).trans (hHeld.2.2.2.2.2.2.2.2.2.2.2.2.2.1)
                      have HS14_ := (hb.cell (World.block_lt_of_cell? _ _ (hHeld.2.2.2.2.2.2.2.2.2.2.2.2.2.2.1))).trans (hHeld.2.2.2.2.2.2.2.2.2.2.2.2.2.2.1)
                      have HS15_ := (hb.cell (World.block_lt_of_cell? _ _ (hHeld.2.2.2.2.2.2.2.2.2.2.2.2.2.2.2.1))).trans (hHeld.2.2.2.2.2.2.2.2.2.2.2.2.2.2.2.1)
                      have HS16_ := (hb.cell (World.block_lt_of_cell? _ _ (hHeld.2.2.2.2.2.2.2.2.2.2.2.2.2.2.2.2.1))).trans (hHeld.2.2.2.2.2.2.2.2.2.2.2.2.2.2.2.2.1)
                      have HS17_ := (hb.cell (World.block_lt_of_cell? _ _ (hHeld.2.2.2.2.2.2.2.2.2.2.2.2.2.2.2.2.2))).trans (hHeld.2.2.2.2.2.2.2.2.2.2.2.2.2.2.2.2.2)
                      refine ⟨_, rfl, ?_⟩
                      have n0_ := aM (Kd.R_below (by (with_reducible repeat (first | apply Kd.R_alloc | apply Kd.R_drewN | apply Kd.R_drew)); exact HO_3.out) hb)
                      have n1_ := aM (Kd.R_below (by (with_reducible repeat (first | apply Kd.R_alloc | apply Kd.R_drewN | apply Kd.R_drew)); exact HO_7.out) hb)
                      have n2_ := aM (blk_below (g := gb132) (o := .cells #[.int .i64 ((rd_T40 t128 x9_1).f0.f0), .int .i64 ((rd_T40 t128 x9_1).f0.f1), .string ((rd_T40 t128 x9_1).f1), .int .i64 ((rd_T40 t128 x9_1).f2), .string ((rd_T40 t128 x9_1).f3), .string ((rd_T40 t128 x9_1).f4.f0), .string ((rd_T40 t128 x9_1).f4.f1), .string ((rd_T40 t128 x9_1).f5.f0), .string ((rd_T40 t128 x9_1).f5.f1)] 40 (0, 0)) (by (with_reducible repeat (first | refine bN ?_ _ | refine bD ?_ | refine bA ?_ _)); exact BK132.out) hb)
                      have n3_ := aM (below_step (by repeat (first | (with_reducible first | exact HB.out | apply below_alloc | apply pw_below_drewN | apply below_drew1 | refine below_set ?_ GE132.out) | exact HB.out)) hb)
                      clear HO_3
                      clear HO_7
                      clear BK132
                      clear HB
                      have HO_3 := n0_
                      have HO_7 := n1_
                      have BK132 := n2_
                      have HB := n3_
                      clear n0_ n1_ n2_ n3_
                      (try clear hb)
                      (try clear hb2)
                      (try clear hk)
                      (try clear hi)
                      obtain ⟨Ao38, co38, eo38⟩ := Kd.R_slice HO_3.out
                      (first | subst eo38 | (injection eo38 with f1_ f2_ f3_; have f4_ := f1_.symm; have f5_ := f3_.symm; clear f1_ f2_ f3_; subst f4_; subst f5_))
                      refine hK.out _ _ ⟨(blk_cell BK132.out 0).trans rfl, (blk_cell BK132.out 1).trans rfl, (blk_cell BK132.out 2).trans rfl, (blk_cell BK132.out 3).trans rfl, (blk_cell BK132.out 4).trans rfl, (blk_cell BK132.out 5).trans rfl, (blk_cell BK132.out 6).trans rfl, (blk_cell BK132.out 7).trans rfl, (blk_cell BK132.out 8).trans rfl, HS9_, HS10_, HS11_, HS12_, HS13_, HS14_, HS15_, HS16_, HS17_⟩ (fun hHeld => ?_)
                      clear hK K
                      refine norm_ (a' := ?_) ?_ ?_
                      rotate_left
                      · show Act.put _ (some 14) _ = _
                        simp only [Act.put, List.setIfInBounds_toArray, List.set_cons_zero, List.set_cons_succ, i64_w, i32_w]
                        rfl
                      refine pure_ (i := 2) (N := some 15) (v := ?_) (a' := ?_) #[true, true, true, false, false, false, false, false, false, false, false, false, false, false, false, false, false, false, false] rfl rfl (any_of HT_.out (by kernel_rfl)) (fun _ _ _ h => h) (Or.inl ⟨by rfl, ?_⟩) ?_ ?_
                      rotate_left
                      · intro w'
                        go_simp
                        with_reducible rfl
                      rotate_left
                      · simp only [Act.put, List.setIfInBounds_toArray, List.set_cons_zero, List.set_cons_succ, i64_w, i32_w]
                        rfl
                      refine pure_ (i := 3) (N := some 16) (v := ?_) (a' := ?_) #[true, true, true, true, false, false, false, false, false, false, false, false, false, false, false, false, false, false, false] rfl rfl (any_of HT_.out (by kernel_rfl)) (fun _ _ _ h => h) (Or.inl ⟨by rfl, ?_⟩) ?_ ?_
                      rotate_left
                      · intro w'
                        go_simp
                        with_reducible rfl
                      rotate_left
                      · simp only [Act.put, List.setIfInBounds_toArray, List.set_cons_zero, List.set_cons_succ, i64_w, i32_w]
                        rfl
                      refine pure_ (i := 4) (N := some 17) (v := ?_) (a' := ?_) #[true, true, true, true, true, false, false, false, false, false, false, false, false, false, false, false, false, false, false] rfl rfl (any_of HT_.out (by kernel_rfl)) (fun _ _ _ h => h) (Or.inl ⟨by rfl, ?_⟩) ?_ ?_
                      rotate_left
                      · intro w'
                        go_simp
                        with_reducible rfl
                      rotate_left
                      · simp only [Act.put, List.setIfInBounds_toArray, List.set_cons_zero, List.set_cons_succ, i64_w, i32_w]
                        rfl
                      refine pure_ (i := 5) (N := some 18) (v := ?_) (a' := ?_) #[true, true, true, true, true, true, false, false, false, false, false, false, false, false, false, false, false, false, false] rfl rfl (any_of HT_.out (by kernel_rfl)) (fun _ _ _ h => h) (Or.inl ⟨by rfl, ?_⟩) ?_ ?_
                      rotate_left
                      · intro w'
                        go_simp
                        with_reducible rfl
                      rotate_left
                      · simp only [Act.put, List.setIfInBounds_toArray, List.set_cons_zero, List.set_cons_succ, i64_w, i32_w]
                        rfl
                      refine pure_ (i := 6) (N := some 19) (v := ?_) (a' := ?_) #[true, true, true, true, true, true, true, false, false, false, false, false, false, false, false, false, false, false, false] rfl rfl (any_of HT_.out (by kernel_rfl)) (fun _ _ _ h => h) (Or.inl ⟨by rfl, ?_⟩) ?_ ?_
                      rotate_left
                      · intro w'
                        go_simp
                        with_reducible rfl
                      rotate_left
                      · simp only [Act.put, List.setIfInBounds_toArray, List.set_cons_zero, List.set_cons_succ, i64_w, i32_w]
                        rfl
                      refine pure_ (i := 7) (N := some 20) (v := ?_) (a' := ?_) #[true, true, true, true, true, true, true, true, false, false, false, false, false, false, false, false, false, false, false] rfl rfl (any_of HT_.out (by kernel_rfl)) (fun _ _ _ h => h) (Or.inl ⟨by rfl, ?_⟩) ?_ ?_
                      rotate_left
                      · intro w'
                        go_simp
                        with_reducible rfl
                      rotate_left
                      · simp only [Act.put, List.setIfInBounds_toArray, List.set_cons_zero, List.set_cons_succ, i64_w, i32_w]
                        rfl
                      refine pure_ (i := 8) (N := some 21) (v := ?_) (a' := ?_) #[true, true, true, true, true, true, true, true, true, false, false, false, false, false, false, false, false, false, false] rfl rfl (any_of HT_.out (by kernel_rfl)) (fun _ _ _ h => h) (Or.inl ⟨by rfl, ?_⟩) ?_ ?_
                      rotate_left
                      · intro w'
                        go_simp
                        with_reducible rfl
                      rotate_left
                      · simp only [Act.put, List.setIfInBounds_toArray, List.set_cons_zero, List.set_cons_succ, i64_w, i32_w]
                        rfl
                      refine pure_ (i := 9) (N := some 22) (v := ?_) (a' := ?_) #[true, true, true, true, true, true, true, true, true, true, false, false, false, false, false, false, false, false, false] rfl rfl (any_of HT_.out (by kernel_rfl)) (fun _ _ _ h => h) (Or.inl ⟨by rfl, ?_⟩) ?_ ?_
                      rotate_left
                      · intro w'
                        go_simp
                        with_reducible rfl
                      rotate_left
                      · simp only [Act.put, List.setIfInBounds_toArray, List.set_cons_zero, List.set_cons_succ, i64_w, i32_w]
                        rfl
                      refine pure_ (i := 10) (N := some 23) (v := ?_) (a' := ?_) #[true, true, true, true, true, true, true, true, true, true, true, false, false, false, false, false, false, false, false] rfl rfl (any_of HT_.out (by kernel_rfl)) (fun _ _ _ h => h) (Or.inl ⟨by rfl, ?_⟩) ?_ ?_
                      rotate_left
                      · intro w'
                        go_simp
                        with_reducible rfl
                      rotate_left
                      · simp only [Act.put, List.setIfInBounds_toArray, List.set_cons_zero, List.set_cons_succ, i64_w, i32_w]
                        rfl
                      refine pure_ (i := 11) (N := some 24) (v := ?_) (a' := ?_) #[true, true, true, true, true, true, true, true, true, true, true, true, false, false, false, false, false, false, false] rfl rfl (any_of HT_.out (by kernel_rfl)) (fun _ _ _ h => h) (Or.inl ⟨by rfl, ?_⟩) ?_ ?_
                      rotate_left
                      · intro w'
                        go_simp
                        with_reducible rfl
                      rotate_left
                      · simp only [Act.put, List.setIfInBounds_toArray, List.set_cons_zero, List.set_cons_succ, i64_w, i32_w]
                        rfl
                      refine pure_ (i := 12) (N := some 25) (v := ?_) (a' := ?_) #[true, true, true, true, true, true, true, true, true, true, true, true, true, false, false, false, false, false, false] rfl rfl (any_of HT_.out (by kernel_rfl)) (fun _ _ _ h => h) (Or.inl ⟨by rfl, ?_⟩) ?_ ?_
                      rotate_left
                      · intro w'
                        go_simp
                        with_reducible rfl
                      rotate_left
                      · simp only [Act.put, List.setIfInBounds_toArray, List.set_cons_zero, List.set_cons_succ, i64_w, i32_w]
                        rfl
                      refine pure_ (i := 14) (N := some 27) (v := ?_) (a' := ?_) #[true, true, true, true, true, true, true, true, true, true, true, true, true, false, true, false, false, false, false] rfl rfl (any_of HT_.out (by kernel_rfl)) (fun _ _ _ h => h) (Or.inl ⟨by rfl, ?_⟩) ?_ ?_
                      rotate_left
                      · intro w'
                        go_simp
                        with_reducible rfl
                      rotate_left
                      · simp only [Act.put, List.setIfInBounds_toArray, List.set_cons_zero, List.set_cons_succ, i64_w, i32_w]
                        rfl
                      refine take_ (i := 13) (N := some 26) (v := ?_) (a' := ?_) #[true, true, true, true, true, true, true, true, true, true, true, true, true, true, true, false, false, false, false] rfl rfl (take_ofW HT_.out HW_.out (by kernel_rfl)) (fun _ _ _ h => h) (Or.inl ⟨by rfl, ?_⟩) hHeld ?_ ?_
                      rotate_left
                      · rintro w' ⟨s0, s1, s2, s3, s4, s5, s6, s7, s8, s9, s10, s11, s12, s13, s14, s15, s16, s17⟩
                        go_simp
                        with_reducible rfl
                      rotate_left
                      · simp only [Act.put, List.setIfInBounds_toArray, List.set_cons_zero, List.set_cons_succ, i64_w, i32_w]
                        rfl
                      refine take_ (i := 15) (N := some 28) (v := ?_) (a' := ?_) #[true, true, true, true, true, true, true, true, true, true, true, true, true, true, true, true, false, false, false] rfl rfl (take_ofW HT_.out HW_.out (by kernel_rfl)) (fun _ _ _ h => h) (Or.inl ⟨by rfl, ?_⟩) hHeld ?_ ?_
                      rotate_left
                      · rintro w' ⟨s0, s1, s2, s3, s4, s5, s6, s7, s8, s9, s10, s11, s12, s13, s14, s15, s16, s17⟩
                        go_simp
                        with_reducible rfl
                      rotate_left
                      · simp only [Act.put, List.setIfInBounds_toArray, List.set_cons_zero, List.set_cons_succ, i64_w, i32_w]
                        rfl
                      refine pure_ (i := 16) (N := some 29) (v := ?_) (a' := ?_) #[true, true, true, true, true, true, true, true, true, true, true, true, true, true, true, true, true, false, false] rfl rfl (any_of HT_.out (by kernel_rfl)) (fun _ _ _ h => h) (Or.inl ⟨by rfl, ?_⟩) ?_ ?_
                      rotate_left
                      · intro w'
                        go_simp
                        with_reducible rfl
                      rotate_left
                      · simp only [Act.put, List.setIfInBounds_toArray, List.set_cons_zero, List.set_cons_succ, i64_w, i32_w]
                        rfl
                      refine pure_ (i := 17) (N := some 30) (v := ?_) (a' := ?_) #[true, true, true, true, true, true, true, true, true, true, true, true, true, true, true, true, true, true, false] rfl rfl (any_of HT_.out (by kernel_rfl)) (fun _ _ _ h => h) (Or.inl ⟨by rfl, ?_⟩) ?_ ?_
                      rotate_left
                      · intro w'
                        go_simp
                        with_reducible rfl
                      rotate_left
                      · simp only [Act.put, List.setIfInBounds_toArray, List.set_cons_zero, List.set_cons_succ, i64_w, i32_w]
                        rfl
                      refine pure_ (i := 18) (N := some 31) (v := ?_) (a' := ?_) #[true, true, true, true, true, true, true, true, true, true, true, true, true, true, true, true, true, true, true] rfl rfl (any_of HT_.out (by kernel_rfl)) (fun _ _ _ h => h) (Or.inl ⟨by rfl, ?_⟩) ?_ ?_
                      rotate_left
                      · intro w'
                        go_simp
                        with_reducible rfl
                      rotate_left
                      · simp only [Act.put, List.setIfInBounds_toArray, List.set_cons_zero, List.set_cons_succ, i64_w, i32_w]
                        rfl
                      refine done_ (done_of HT_.out (by kernel_rfl)) ?_
                      try go_wp2
                      go_roundg k1
                      case measure => have := HK1.out; omega
                      case rel => exact ⟨(x3_1), (wrap64 (x9_1 + 1)), (by first | rfl | (simp; done) | (simp [*]; done)), H', ⟨by have := HK1.out; omega⟩, ⟨by (with_reducible repeat (first | apply Kd.R_alloc | apply Kd.R_drewN | apply Kd.R_drew)); exact Kd.R_mono HO_3.out (fun _ hk => hk.1)⟩, ⟨by (with_reducible repeat (first | apply Kd.R_alloc | apply Kd.R_drewN | apply Kd.R_drew)); exact Kd.R_mono HO_7.out (fun _ hk => hk.1)⟩, ⟨by repeat (first | (with_reducible first | exact HB.out | apply below_alloc | apply pw_below_drewN | apply below_drew1 | refine below_set ?_ GE132.out) | exact HB.out)⟩⟩
                  · rw [if_neg c22] at H
                    exact absurd H (by simp)
                · rw [if_neg c21] at H
                  exact absurd H (by simp)
            · replace c9 := Bool.eq_false_iff.mpr c9
              subst c9
              have H1 : (cred_Counts.l0 k1 x3_1 t128 (t128.length : Int) (wrap64 (x9_1 + 1))) = some r := by rw [if_neg (show ¬ (false = true) by decide)] at H; exact H
              clear H
              have H := H1
              clear H1
              have H' := Aside0.mk H
              clear H
              have p131 : 0 ≤ (x9_1 : Int) := of_decide_eq_true (by first | (with_reducible assumption) | assumption)
              have q131 : x9_1 < (t128.length : Int) := of_decide_eq_true (by first | (with_reducible assumption) | assumption)
              obtain ⟨ad131, e131, hx131_0, hx131_1, hx131_2, hx131_3, hx131_4, hx131_5, hx131_6, hx131_7, hx131_8⟩ := at_T40 (Kd.R_reads' HO_7.out).2.2 x9_1 p131 q131
              cases e131
              replace p131 := eq_true p131
              replace q131 := eq_true q131
              try go_wp2_with (first | ((with_reducible refine gate_dst (N := 5) rfl ?_); refine box_event ?hg (N := 5) ?hd (cs := #[.int .i64 0, .int .i64 0, .string ⟨#[]⟩, .int .i64 0, .string ⟨#[]⟩, .string ⟨#[]⟩, .string ⟨#[]⟩, .string ⟨#[]⟩, .string ⟨#[]⟩]) (t := 40) ?hr ?_; (case hd => rfl); (case hg => rfl); (case hr => first | (go_simp; done) | (go_simp; rfl)); intro gb132 hg w39 hbox hb; have n0_ := aM (Kd.R_below (Kd.R_elderB (by (with_reducible repeat (first | apply Kd.R_alloc | apply Kd.R_drewN | apply Kd.R_drew)); exact HO_3.out) gb132 (Nat.le_of_eq hg.symm)) hb); have n1_ := aM (Kd.R_below (Kd.R_elderB (by (with_reducible repeat (first | apply Kd.R_alloc | apply Kd.R_drewN | apply Kd.R_drew)); exact HO_7.out) gb132 (Nat.le_of_eq hg.symm)) hb); have n2_ := aM (below_step (by repeat (first | (with_reducible first | exact HB.out | apply below_alloc | apply pw_below_drewN | apply below_drew1) | exact HB.out)) hb); have n3_ := aM (hbox); have n4_ := aM ((by rw [hg]; exact (below_size (by repeat (first | (with_reducible first | exact HB.out | apply below_alloc | apply pw_below_drewN | apply below_drew1) | exact HB.out))) : w.heap.size ≤ gb132)); have n5_ := n4_; clear HO_3 HO_7 HB; have HO_3 := n0_; have HO_7 := n1_; have HB := n2_; have BK132 := n3_; have GW132 := n4_; have GE132 := n5_; clear n0_ n1_ n2_ n3_ n4_ n5_; clear hb hbox hg; obtain ⟨hcz40_0, hcz40_1, hcz40_2, hcz40_3, hcz40_4, hcz40_5, hcz40_6, hcz40_7, hcz40_8, hfz40_0, hfz40_1, hfz40_2, hfz40_3, hfz40_4, hfz40_5, hfz40_6, hfz40_7, hfz40_8⟩ := blk_all9 BK132.out))
              have n0_ : Aside0 (Kd.R k40 40 (((((((((w39.setCell ⟨gb132, 0, none⟩ (.int .i64 ((rd_T40 t128 x9_1).f0.f0))).setCell ⟨gb132, 1, none⟩ (.int .i64 ((rd_T40 t128 x9_1).f0.f1))).setCell ⟨gb132, 2, none⟩ (.string ((rd_T40 t128 x9_1).f1))).setCell ⟨gb132, 3, none⟩ (.int .i64 ((rd_T40 t128 x9_1).f2))).setCell ⟨gb132, 4, none⟩ (.string ((rd_T40 t128 x9_1).f3))).setCell ⟨gb132, 5, none⟩ (.string ((rd_T40 t128 x9_1).f4.f0))).setCell ⟨gb132, 6, none⟩ (.string ((rd_T40 t128 x9_1).f4.f1))).setCell ⟨gb132, 7, none⟩ (.string ((rd_T40 t128 x9_1).f5.f0))).setCell ⟨gb132, 8, none⟩ (.string ((rd_T40 t128 x9_1).f5.f1))) w.heap.size (fun k_ => some k_ ≠ (.slice (some ad131) t128.length co4 : Value).ownBlock ∧ k_ ≠ gb132) u3 x3_1) := ⟨by (with_reducible repeat (first | apply Kd.R_alloc | apply Kd.R_drewN | apply Kd.R_drew)); exact Kd.R_mono (Kd.R_far (p := ⟨gb132, 8, none⟩) (Kd.R_far (p := ⟨gb132, 7, none⟩) (Kd.R_far (p := ⟨gb132, 6, none⟩) (Kd.R_far (p := ⟨gb132, 5, none⟩) (Kd.R_far (p := ⟨gb132, 4, none⟩) (Kd.R_far (p := ⟨gb132, 3, none⟩) (Kd.R_far (p := ⟨gb132, 2, none⟩) (Kd.R_far (p := ⟨gb132, 1, none⟩) (Kd.R_far (p := ⟨gb132, 0, none⟩) (Kd.R_mono HO_3.out (fun k_ hk => (⟨hk, hk.2⟩ : _ ∧ k_ ≠ gb132))) (fun _ hk => hk.2) (.int .i64 ((rd_T40 t128 x9_1).f0.f0))) (fun _ hk => hk.2) (.int .i64 ((rd_T40 t128 x9_1).f0.f1))) (fun _ hk => hk.2) (.string ((rd_T40 t128 x9_1).f1))) (fun _ hk => hk.2) (.int .i64 ((rd_T40 t128 x9_1).f2))) (fun _ hk => hk.2) (.string ((rd_T40 t128 x9_1).f3))) (fun _ hk => hk.2) (.string ((rd_T40 t128 x9_1).f4.f0))) (fun _ hk => hk.2) (.string ((rd_T40 t128 x9_1).f4.f1))) (fun _ hk => hk.2) (.string ((rd_T40 t128 x9_1).f5.f0))) (fun _ hk => hk.2) (.string ((rd_T40 t128 x9_1).f5.f1))) (fun _ hk => ⟨hk.1.1, hk.1.2⟩)⟩
              have n1_ : Aside0 (Kd.R k40 40 (((((((((w39.setCell ⟨gb132, 0, none⟩ (.int .i64 ((rd_T40 t128 x9_1).f0.f0))).setCell ⟨gb132, 1, none⟩ (.int .i64 ((rd_T40 t128 x9_1).f0.f1))).setCell ⟨gb132, 2, none⟩ (.string ((rd_T40 t128 x9_1).f1))).setCell ⟨gb132, 3, none⟩ (.int .i64 ((rd_T40 t128 x9_1).f2))).setCell ⟨gb132, 4, none⟩ (.string ((rd_T40 t128 x9_1).f3))).setCell ⟨gb132, 5, none⟩ (.string ((rd_T40 t128 x9_1).f4.f0))).setCell ⟨gb132, 6, none⟩ (.string ((rd_T40 t128 x9_1).f4.f1))).setCell ⟨gb132, 7, none⟩ (.string ((rd_T40 t128 x9_1).f5.f0))).setCell ⟨gb132, 8, none⟩ (.string ((rd_T40 t128 x9_1).f5.f1))) w.heap.size (fun k_ => some k_ ≠ (u3 : Value).ownBlock ∧ k_ ≠ gb132) (.slice (some ad131) t128.length co4) t128) := ⟨by (with_reducible repeat (first | apply Kd.R_alloc | apply Kd.R_drewN | apply Kd.R_drew)); exact Kd.R_mono (Kd.R_far (p := ⟨gb132, 8, none⟩) (Kd.R_far (p := ⟨gb132, 7, none⟩) (Kd.R_far (p := ⟨gb132, 6, none⟩) (Kd.R_far (p := ⟨gb132, 5, none⟩) (Kd.R_far (p := ⟨gb132, 4, none⟩) (Kd.R_far (p := ⟨gb132, 3, none⟩) (Kd.R_far (p := ⟨gb132, 2, none⟩) (Kd.R_far (p := ⟨gb132, 1, none⟩) (Kd.R_far (p := ⟨gb132, 0, none⟩) (Kd.R_mono HO_7.out (fun k_ hk => (⟨hk, hk.2⟩ : _ ∧ k_ ≠ gb132))) (fun _ hk => hk.2) (.int .i64 ((rd_T40 t128 x9_1).f0.f0))) (fun _ hk => hk.2) (.int .i64 ((rd_T40 t128 x9_1).f0.f1))) (fun _ hk => hk.2) (.string ((rd_T40 t128 x9_1).f1))) (fun _ hk => hk.2) (.int .i64 ((rd_T40 t128 x9_1).f2))) (fun _ hk => hk.2) (.string ((rd_T40 t128 x9_1).f3))) (fun _ hk => hk.2) (.string ((rd_T40 t128 x9_1).f4.f0))) (fun _ hk => hk.2) (.string ((rd_T40 t128 x9_1).f4.f1))) (fun _ hk => hk.2) (.string ((rd_T40 t128 x9_1).f5.f0))) (fun _ hk => hk.2) (.string ((rd_T40 t128 x9_1).f5.f1))) (fun _ hk => ⟨hk.1.1, hk.1.2⟩)⟩
              have n2_ : Aside0 ((((((((((w39.setCell ⟨gb132, 0, none⟩ (.int .i64 ((rd_T40 t128 x9_1).f0.f0))).setCell ⟨gb132, 1, none⟩ (.int .i64 ((rd_T40 t128 x9_1).f0.f1))).setCell ⟨gb132, 2, none⟩ (.string ((rd_T40 t128 x9_1).f1))).setCell ⟨gb132, 3, none⟩ (.int .i64 ((rd_T40 t128 x9_1).f2))).setCell ⟨gb132, 4, none⟩ (.string ((rd_T40 t128 x9_1).f3))).setCell ⟨gb132, 5, none⟩ (.string ((rd_T40 t128 x9_1).f4.f0))).setCell ⟨gb132, 6, none⟩ (.string ((rd_T40 t128 x9_1).f4.f1))).setCell ⟨gb132, 7, none⟩ (.string ((rd_T40 t128 x9_1).f5.f0))).setCell ⟨gb132, 8, none⟩ (.string ((rd_T40 t128 x9_1).f5.f1))).heap[gb132]? = some (.cells #[.int .i64 ((rd_T40 t128 x9_1).f0.f0), .int .i64 ((rd_T40 t128 x9_1).f0.f1), .string ((rd_T40 t128 x9_1).f1), .int .i64 ((rd_T40 t128 x9_1).f2), .string ((rd_T40 t128 x9_1).f3), .string ((rd_T40 t128 x9_1).f4.f0), .string ((rd_T40 t128 x9_1).f4.f1), .string ((rd_T40 t128 x9_1).f5.f0), .string ((rd_T40 t128 x9_1).f5.f1)] 40 (0, 0))) := ⟨by (with_reducible repeat (first | refine bN ?_ _ | refine bD ?_ | refine bA ?_ _)); refine blk_put (cs := #[.int .i64 ((rd_T40 t128 x9_1).f0.f0), .int .i64 ((rd_T40 t128 x9_1).f0.f1), .string ((rd_T40 t128 x9_1).f1), .int .i64 ((rd_T40 t128 x9_1).f2), .string ((rd_T40 t128 x9_1).f3), .string ((rd_T40 t128 x9_1).f4.f0), .string ((rd_T40 t128 x9_1).f4.f1), .string ((rd_T40 t128 x9_1).f5.f0), .string ⟨#[]⟩]) ?_ 8 _ rfl; (with_reducible repeat (first | refine bN ?_ _ | refine bD ?_ | refine bA ?_ _)); refine blk_put (cs := #[.int .i64 ((rd_T40 t128 x9_1).f0.f0), .int .i64 ((rd_T40 t128 x9_1).f0.f1), .string ((rd_T40 t128 x9_1).f1), .int .i64 ((rd_T40 t128 x9_1).f2), .string ((rd_T40 t128 x9_1).f3), .string ((rd_T40 t128 x9_1).f4.f0), .string ((rd_T40 t128 x9_1).f4.f1), .string ⟨#[]⟩, .string ⟨#[]⟩]) ?_ 7 _ rfl; (with_reducible repeat (first | refine bN ?_ _ | refine bD ?_ | refine bA ?_ _)); refine blk_put (cs := #[.int .i64 ((rd_T40 t128 x9_1).f0.f0), .int .i64 ((rd_T40 t128 x9_1).f0.f1), .string ((rd_T40 t128 x9_1).f1), .int .i64 ((rd_T40 t128 x9_1).f2), .string ((rd_T40 t128 x9_1).f3), .string ((rd_T40 t128 x9_1).f4.f0), .string ⟨#[]⟩, .string ⟨#[]⟩, .string ⟨#[]⟩]) ?_ 6 _ rfl; (with_reducible repeat (first | refine bN ?_ _ | refine bD ?_ | refine bA ?_ _)); refine blk_put (cs := #[.int .i64 ((rd_T40 t128 x9_1).f0.f0), .int .i64 ((rd_T40 t128 x9_1).f0.f1), .string ((rd_T40 t128 x9_1).f1), .int .i64 ((rd_T40 t128 x9_1).f2), .string ((rd_T40 t128 x9_1).f3), .string ⟨#[]⟩, .string ⟨#[]⟩, .string ⟨#[]⟩, .string ⟨#[]⟩]) ?_ 5 _ rfl; (with_reducible repeat (first | refine bN ?_ _ | refine bD ?_ | refine bA ?_ _)); refine blk_put (cs := #[.int .i64 ((rd_T40 t128 x9_1).f0.f0), .int .i64 ((rd_T40 t128 x9_1).f0.f1), .string ((rd_T40 t128 x9_1).f1), .int .i64 ((rd_T40 t128 x9_1).f2), .string ⟨#[]⟩, .string ⟨#[]⟩, .string ⟨#[]⟩, .string ⟨#[]⟩, .string ⟨#[]⟩]) ?_ 4 _ rfl; (with_reducible repeat (first | refine bN ?_ _ | refine bD ?_ | refine bA ?_ _)); refine blk_put (cs := #[.int .i64 ((rd_T40 t128 x9_1).f0.f0), .int .i64 ((rd_T40 t128 x9_1).f0.f1), .string ((rd_T40 t128 x9_1).f1), .int .i64 0, .string ⟨#[]⟩, .string ⟨#[]⟩, .string ⟨#[]⟩, .string ⟨#[]⟩, .string ⟨#[]⟩]) ?_ 3 _ rfl; (with_reducible repeat (first | refine bN ?_ _ | refine bD ?_ | refine bA ?_ _)); refine blk_put (cs := #[.int .i64 ((rd_T40 t128 x9_1).f0.f0), .int .i64 ((rd_T40 t128 x9_1).f0.f1), .string ⟨#[]⟩, .int .i64 0, .string ⟨#[]⟩, .string ⟨#[]⟩, .string ⟨#[]⟩, .string ⟨#[]⟩, .string ⟨#[]⟩]) ?_ 2 _ rfl; (with_reducible repeat (first | refine bN ?_ _ | refine bD ?_ | refine bA ?_ _)); refine blk_put (cs := #[.int .i64 ((rd_T40 t128 x9_1).f0.f0), .int .i64 0, .string ⟨#[]⟩, .int .i64 0, .string ⟨#[]⟩, .string ⟨#[]⟩, .string ⟨#[]⟩, .string ⟨#[]⟩, .string ⟨#[]⟩]) ?_ 1 _ rfl; (with_reducible repeat (first | refine bN ?_ _ | refine bD ?_ | refine bA ?_ _)); refine blk_put (cs := #[.int .i64 0, .int .i64 0, .string ⟨#[]⟩, .int .i64 0, .string ⟨#[]⟩, .string ⟨#[]⟩, .string ⟨#[]⟩, .string ⟨#[]⟩, .string ⟨#[]⟩]) ?_ 0 _ rfl; (with_reducible repeat (first | refine bN ?_ _ | refine bD ?_ | refine bA ?_ _)); exact BK132.out⟩
              have n3_ : Aside0 (Below w.heap.size w (((((((((w39.setCell ⟨gb132, 0, none⟩ (.int .i64 ((rd_T40 t128 x9_1).f0.f0))).setCell ⟨gb132, 1, none⟩ (.int .i64 ((rd_T40 t128 x9_1).f0.f1))).setCell ⟨gb132, 2, none⟩ (.string ((rd_T40 t128 x9_1).f1))).setCell ⟨gb132, 3, none⟩ (.int .i64 ((rd_T40 t128 x9_1).f2))).setCell ⟨gb132, 4, none⟩ (.string ((rd_T40 t128 x9_1).f3))).setCell ⟨gb132, 5, none⟩ (.string ((rd_T40 t128 x9_1).f4.f0))).setCell ⟨gb132, 6, none⟩ (.string ((rd_T40 t128 x9_1).f4.f1))).setCell ⟨gb132, 7, none⟩ (.string ((rd_T40 t128 x9_1).f5.f0))).setCell ⟨gb132, 8, none⟩ (.string ((rd_T40 t128 x9_1).f5.f1)))) := ⟨by repeat (first | (with_reducible first | exact HB.out | apply below_alloc | apply pw_below_drewN | apply below_drew1 | refine below_set ?_ GE132.out) | exact HB.out)⟩
              (try clear HO_3)
              (try clear HO_7)
              (try clear BK132)
              (try clear HB)
              generalize (((((((((w39.setCell ⟨gb132, 0, none⟩ (.int .i64 ((rd_T40 t128 x9_1).f0.f0))).setCell ⟨gb132, 1, none⟩ (.int .i64 ((rd_T40 t128 x9_1).f0.f1))).setCell ⟨gb132, 2, none⟩ (.string ((rd_T40 t128 x9_1).f1))).setCell ⟨gb132, 3, none⟩ (.int .i64 ((rd_T40 t128 x9_1).f2))).setCell ⟨gb132, 4, none⟩ (.string ((rd_T40 t128 x9_1).f3))).setCell ⟨gb132, 5, none⟩ (.string ((rd_T40 t128 x9_1).f4.f0))).setCell ⟨gb132, 6, none⟩ (.string ((rd_T40 t128 x9_1).f4.f1))).setCell ⟨gb132, 7, none⟩ (.string ((rd_T40 t128 x9_1).f5.f0))).setCell ⟨gb132, 8, none⟩ (.string ((rd_T40 t128 x9_1).f5.f1))) = w41 at n0_ n1_ n2_ n3_ ⊢
              have HO_3 := n0_
              have HO_7 := n1_
              have BK132 := n2_
              have HB := n3_
              clear n0_ n1_ n2_ n3_
              have n0_ := aM (Kd.R_drew HO_3.out)
              have n1_ := aM (Kd.R_drew HO_7.out)
              have n2_ := aM (blk_drew BK132.out)
              have n3_ := aM (below_drew1 HB.out)
              clear HO_3
              clear HO_7
              clear BK132
              clear HB
              have HO_3 := n0_
              have HO_7 := n1_
              have BK132 := n2_
              have HB := n3_
              clear n0_ n1_ n2_ n3_
              refine start_ (n := 19) (S := fun w' => w'.cell? ⟨gb132, 0, none⟩ = some (.int .i64 ((rd_T40 t128 x9_1).f0.f0)) ∧ w'.cell? ⟨gb132, 1, none⟩ = some (.int .i64 ((rd_T40 t128 x9_1).f0.f1)) ∧ w'.cell? ⟨gb132, 2, none⟩ = some (.string ((rd_T40 t128 x9_1).f1)) ∧ w'.cell? ⟨gb132, 3, none⟩ = some (.int .i64 ((rd_T40 t128 x9_1).f2)) ∧ w'.cell? ⟨gb132, 4, none⟩ = some (.string ((rd_T40 t128 x9_1).f3)) ∧ w'.cell? ⟨gb132, 5, none⟩ = some (.string ((rd_T40 t128 x9_1).f4.f0)) ∧ w'.cell? ⟨gb132, 6, none⟩ = some (.string ((rd_T40 t128 x9_1).f4.f1)) ∧ w'.cell? ⟨gb132, 7, none⟩ = some (.string ((rd_T40 t128 x9_1).f5.f0)) ∧ w'.cell? ⟨gb132, 8, none⟩ = some (.string ((rd_T40 t128 x9_1).f5.f1))) (ds := []) #[false, false, false, false, false, false, false, false, false, false, false, false, false, false, false, false, false, false, false] (by kernel_rfl) rfl rfl ⟨(blk_cell BK132.out 0).trans rfl, (blk_cell BK132.out 1).trans rfl, (blk_cell BK132.out 2).trans rfl, (blk_cell BK132.out 3).trans rfl, (blk_cell BK132.out 4).trans rfl, (blk_cell BK132.out 5).trans rfl, (blk_cell BK132.out 6).trans rfl, (blk_cell BK132.out 7).trans rfl, (blk_cell BK132.out 8).trans rfl⟩ (fun hHeld => ?_); refine with_tabW cred_Counts.tab5 cred_Counts.bits5 (fun HT_ HW_ => ?_)
              generalize w41.drew = w42 at HO_3 HO_7 BK132 HB hHeld ⊢
              refine take_ (i := 0) (N := some 13) (v := ?_) (a' := ?_) #[true, false, false, false, false, false, false, false, false, false, false, false, false, false, false, false, false, false, false] rfl rfl (take_ofW HT_.out HW_.out (by kernel_rfl)) (fun _ _ _ h => h) (Or.inl ⟨by rfl, ?_⟩) hHeld ?_ ?_
              rotate_left
              · rintro w' ⟨s0, s1, s2, s3, s4, s5, s6, s7, s8⟩
                go_simp
                with_reducible rfl
              rotate_left
              · simp only [Act.put, List.setIfInBounds_toArray, List.set_cons_zero, List.set_cons_succ, i64_w, i32_w]
                rfl
              refine one_ (i := 1) (N := some 14) #[true, true, false, false, false, false, false, false, false, false, false, false, false, false, false, false, false, false, false] rfl rfl (one_of HT_.out (by kernel_rfl)) (by decide) (fun K hK => ?_)
              refine goes_ Tryd.func38 (by kernel_rfl) rfl #[.agg #[.int .i64 ((rd_T40 t128 x9_1).f0.f0), .int .i64 ((rd_T40 t128 x9_1).f0.f1), .string ((rd_T40 t128 x9_1).f1), .int .i64 ((rd_T40 t128 x9_1).f2), .string ((rd_T40 t128 x9_1).f3), .string ((rd_T40 t128 x9_1).f4.f0), .string ((rd_T40 t128 x9_1).f4.f1), .string ((rd_T40 t128 x9_1).f5.f0), .string ((rd_T40 t128 x9_1).f5.f1)]] (by rfl) rfl rfl (by (try simp only [mA, mB, mC]); first | done | rfl | (simp only [List.length_drop, List.length_take]; rfl)) ?_
              with_reducible refine (cred_May.calls k1 ((rd_T40 t128 x9_1).f0.f0) ((rd_T40 t128 x9_1).f0.f1) ((rd_T40 t128 x9_1).f1) ((rd_T40 t128 x9_1).f2) ((rd_T40 t128 x9_1).f3) ((rd_T40 t128 x9_1).f4.f0) ((rd_T40 t128 x9_1).f4.f1) ((rd_T40 t128 x9_1).f5.f0) ((rd_T40 t128 x9_1).f5.f1) false _ A8.out).mono ?_
              rintro e w43 ⟨rfl, hb⟩
              refine ⟨_, rfl, ?_⟩
              have n0_ := aM (Kd.R_below (by (with_reducible repeat (first | apply Kd.R_alloc | apply Kd.R_drewN | apply Kd.R_drew)); exact HO_3.out) hb)
              have n1_ := aM (Kd.R_below (by (with_reducible repeat (first | apply Kd.R_alloc | apply Kd.R_drewN | apply Kd.R_drew)); exact HO_7.out) hb)
              have n2_ := aM (blk_below (g := gb132) (o := .cells #[.int .i64 ((rd_T40 t128 x9_1).f0.f0), .int .i64 ((rd_T40 t128 x9_1).f0.f1), .string ((rd_T40 t128 x9_1).f1), .int .i64 ((rd_T40 t128 x9_1).f2), .string ((rd_T40 t128 x9_1).f3), .string ((rd_T40 t128 x9_1).f4.f0), .string ((rd_T40 t128 x9_1).f4.f1), .string ((rd_T40 t128 x9_1).f5.f0), .string ((rd_T40 t128 x9_1).f5.f1)] 40 (0, 0)) (by (with_reducible repeat (first | refine bN ?_ _ | refine bD ?_ | refine bA ?_ _)); exact BK132.out) hb)
              have n3_ := aM (below_step (by repeat (first | (with_reducible first | exact HB.out | apply below_alloc | apply pw_below_drewN | apply below_drew1 | refine below_set ?_ GE132.out) | exact HB.out)) hb)
              clear HO_3
              clear HO_7
              clear BK132
              clear HB
              have HO_3 := n0_
              have HO_7 := n1_
              have BK132 := n2_
              have HB := n3_
              clear n0_ n1_ n2_ n3_
              (try clear hb)
              (try clear hb2)
              (try clear hk)
              (try clear hi)
              refine hK.out _ _ ⟨(blk_cell BK132.out 0).trans rfl, (blk_cell BK132.out 1).trans rfl, (blk_cell BK132.out 2).trans rfl, (blk_cell BK132.out 3).trans rfl, (blk_cell BK132.out 4).trans rfl, (blk_cell BK132.out 5).trans rfl, (blk_cell BK132.out 6).trans rfl, (blk_cell BK132.out 7).trans rfl, (blk_cell BK132.out 8).trans rfl⟩ (fun hHeld => ?_)
              clear hK K
              refine norm_ (a' := ?_) ?_ ?_
              rotate_left
              · show Act.put _ (some 14) _ = _
                simp only [Act.put, List.setIfInBounds_toArray, List.set_cons_zero, List.set_cons_succ, i64_w, i32_w]
                rfl
              refine pure_ (i := 2) (N := some 15) (v := ?_) (a' := ?_) #[true, true, true, false, false, false, false, false, false, false, false, false, false, false, false, false, false, false, false] rfl rfl (any_of HT_.out (by kernel_rfl)) (fun _ _ _ h => h) (Or.inl ⟨by rfl, ?_⟩) ?_ ?_
              rotate_left
              · intro w'
                go_simp
                with_reducible rfl
              rotate_left
              · simp only [Act.put, List.setIfInBounds_toArray, List.set_cons_zero, List.set_cons_succ, i64_w, i32_w]
                rfl
              refine pure_ (i := 3) (N := some 16) (v := undef) (a' := ?_) #[true, true, true, true, false, false, false, false, false, false, false, false, false, false, false, false, false, false, false] rfl rfl (any_of HT_.out (by kernel_rfl)) (fun _ _ _ h => h) (Or.inr ⟨by rfl, rfl⟩) ?_ ?_
              rotate_left
              · simp only [Act.put, List.setIfInBounds_toArray, List.set_cons_zero, List.set_cons_succ, i64_w, i32_w]
                rfl
              refine pure_ (i := 4) (N := some 17) (v := undef) (a' := ?_) #[true, true, true, true, true, false, false, false, false, false, false, false, false, false, false, false, false, false, false] rfl rfl (any_of HT_.out (by kernel_rfl)) (fun _ _ _ h => h) (Or.inr ⟨by rfl, rfl⟩) ?_ ?_
              rotate_left
              · simp only [Act.put, List.setIfInBounds_toArray, List.set_cons_zero, List.set_cons_succ, i64_w, i32_w]
                rfl
              refine pure_ (i := 5) (N := some 18) (v := undef) (a' := ?_) #[true, true, true, true, true, true, false, false, false, false, false, false, false, false, false, false, false, false, false] rfl rfl (any_of HT_.out (by kernel_rfl)) (fun _ _ _ h => h) (Or.inr ⟨by rfl, rfl⟩) ?_ ?_
              rotate_left
              · simp only [Act.put, List.setIfInBounds_toArray, List.set_cons_zero, List.set_cons_succ, i64_w, i32_w]
                rfl
              refine pure_ (i := 6) (N := some 19) (v := undef) (a' := ?_) #[true, true, true, true, true, true, true, false, false, false, false, false, false, false, false, false, false, false, false] rfl rfl (any_of HT_.out (by kernel_rfl)) (fun _ _ _ h => h) (Or.inr ⟨by rfl, rfl⟩) ?_ ?_
              rotate_left
              · simp only [Act.put, List.setIfInBounds_toArray, List.set_cons_zero, List.set_cons_succ, i64_w, i32_w]
                rfl
              refine pure_ (i := 7) (N := some 20) (v := undef) (a' := ?_) #[true, true, true, true, true, true, true, true, false, false, false, false, false, false, false, false, false, false, false] rfl rfl (any_of HT_.out (by kernel_rfl)) (fun _ _ _ h => h) (Or.inr ⟨by rfl, rfl⟩) ?_ ?_
              rotate_left
              · simp only [Act.put, List.setIfInBounds_toArray, List.set_cons_zero, List.set_cons_succ, i64_w, i32_w]
                rfl
              refine pure_ (i := 8) (N := some 21) (v := undef) (a' := ?_) #[true, true, true, true, true, true, true, true, true, false, false, false, false, false, false, false, false, false, false] rfl rfl (any_of HT_.out (by kernel_rfl)) (fun _ _ _ h => h) (Or.inr ⟨by rfl, rfl⟩) ?_ ?_
              rotate_left
              · simp only [Act.put, List.setIfInBounds_toArray, List.set_cons_zero, List.set_cons_succ, i64_w, i32_w]
                rfl
              refine pure_ (i := 9) (N := some 22) (v := undef) (a' := ?_) #[true, true, true, true, true, true, true, true, true, true, false, false, false, false, false, false, false, false, false] rfl rfl (any_of HT_.out (by kernel_rfl)) (fun _ _ _ h => h) (Or.inr ⟨by rfl, rfl⟩) ?_ ?_
              rotate_left
              · simp only [Act.put, List.setIfInBounds_toArray, List.set_cons_zero, List.set_cons_succ, i64_w, i32_w]
                rfl
              refine pure_ (i := 10) (N := some 23) (v := undef) (a' := ?_) #[true, true, true, true, true, true, true, true, true, true, true, false, false, false, false, false, false, false, false] rfl rfl (any_of HT_.out (by kernel_rfl)) (fun _ _ _ h => h) (Or.inr ⟨by rfl, rfl⟩) ?_ ?_
              rotate_left
              · simp only [Act.put, List.setIfInBounds_toArray, List.set_cons_zero, List.set_cons_succ, i64_w, i32_w]
                rfl
              refine pure_ (i := 11) (N := some 24) (v := undef) (a' := ?_) #[true, true, true, true, true, true, true, true, true, true, true, true, false, false, false, false, false, false, false] rfl rfl (any_of HT_.out (by kernel_rfl)) (fun _ _ _ h => h) (Or.inr ⟨by rfl, rfl⟩) ?_ ?_
              rotate_left
              · simp only [Act.put, List.setIfInBounds_toArray, List.set_cons_zero, List.set_cons_succ, i64_w, i32_w]
                rfl
              refine pure_ (i := 12) (N := some 25) (v := undef) (a' := ?_) #[true, true, true, true, true, true, true, true, true, true, true, true, true, false, false, false, false, false, false] rfl rfl (any_of HT_.out (by kernel_rfl)) (fun _ _ _ h => h) (Or.inr ⟨by rfl, rfl⟩) ?_ ?_
              rotate_left
              · simp only [Act.put, List.setIfInBounds_toArray, List.set_cons_zero, List.set_cons_succ, i64_w, i32_w]
                rfl
              refine pure_ (i := 13) (N := some 26) (v := undef) (a' := ?_) #[true, true, true, true, true, true, true, true, true, true, true, true, true, true, false, false, false, false, false] rfl rfl (any_of HT_.out (by kernel_rfl)) (fun _ _ _ h => h) (Or.inr ⟨by rfl, rfl⟩) ?_ ?_
              rotate_left
              · simp only [Act.put, List.setIfInBounds_toArray, List.set_cons_zero, List.set_cons_succ, i64_w, i32_w]
                rfl
              refine pure_ (i := 14) (N := some 27) (v := undef) (a' := ?_) #[true, true, true, true, true, true, true, true, true, true, true, true, true, true, true, false, false, false, false] rfl rfl (any_of HT_.out (by kernel_rfl)) (fun _ _ _ h => h) (Or.inr ⟨by rfl, rfl⟩) ?_ ?_
              rotate_left
              · simp only [Act.put, List.setIfInBounds_toArray, List.set_cons_zero, List.set_cons_succ, i64_w, i32_w]
                rfl
              refine pure_ (i := 15) (N := some 28) (v := undef) (a' := ?_) #[true, true, true, true, true, true, true, true, true, true, true, true, true, true, true, true, false, false, false] rfl rfl (any_of HT_.out (by kernel_rfl)) (fun _ _ _ h => h) (Or.inr ⟨by rfl, rfl⟩) ?_ ?_
              rotate_left
              · simp only [Act.put, List.setIfInBounds_toArray, List.set_cons_zero, List.set_cons_succ, i64_w, i32_w]
                rfl
              refine pure_ (i := 16) (N := some 29) (v := undef) (a' := ?_) #[true, true, true, true, true, true, true, true, true, true, true, true, true, true, true, true, true, false, false] rfl rfl (any_of HT_.out (by kernel_rfl)) (fun _ _ _ h => h) (Or.inr ⟨by rfl, rfl⟩) ?_ ?_
              rotate_left
              · simp only [Act.put, List.setIfInBounds_toArray, List.set_cons_zero, List.set_cons_succ, i64_w, i32_w]
                rfl
              refine pure_ (i := 17) (N := some 30) (v := undef) (a' := ?_) #[true, true, true, true, true, true, true, true, true, true, true, true, true, true, true, true, true, true, false] rfl rfl (any_of HT_.out (by kernel_rfl)) (fun _ _ _ h => h) (Or.inr ⟨by rfl, rfl⟩) ?_ ?_
              rotate_left
              · simp only [Act.put, List.setIfInBounds_toArray, List.set_cons_zero, List.set_cons_succ, i64_w, i32_w]
                rfl
              refine pure_ (i := 18) (N := some 31) (v := ?_) (a' := ?_) #[true, true, true, true, true, true, true, true, true, true, true, true, true, true, true, true, true, true, true] rfl rfl (any_of HT_.out (by kernel_rfl)) (fun _ _ _ h => h) (Or.inl ⟨by rfl, ?_⟩) ?_ ?_
              rotate_left
              · intro w'
                go_simp
                with_reducible rfl
              rotate_left
              · simp only [Act.put, List.setIfInBounds_toArray, List.set_cons_zero, List.set_cons_succ, i64_w, i32_w]
                rfl
              refine done_ (done_of HT_.out (by kernel_rfl)) ?_
              try go_wp2
              go_roundg k1
              case measure => have := HK1.out; omega
              case rel => exact ⟨(x3_1), (wrap64 (x9_1 + 1)), (by first | rfl | (simp; done) | (simp [*]; done)), H', ⟨by have := HK1.out; omega⟩, ⟨by (with_reducible repeat (first | apply Kd.R_alloc | apply Kd.R_drewN | apply Kd.R_drew)); exact Kd.R_mono HO_3.out (fun _ hk => hk.1)⟩, ⟨by (with_reducible repeat (first | apply Kd.R_alloc | apply Kd.R_drewN | apply Kd.R_drew)); exact Kd.R_mono HO_7.out (fun _ hk => hk.1)⟩, ⟨by repeat (first | (with_reducible first | exact HB.out | apply below_alloc | apply pw_below_drewN | apply below_drew1 | refine below_set ?_ GE132.out) | exact HB.out)⟩⟩
          · rw [if_neg c7] at H
            exact absurd H (by simp)
        · rw [if_neg c6] at H
          exact absurd H (by simp)
      · rw [if_neg c5] at H
        have c5b0 : decide (x9_1 < (t128.length : Int)) = false := decide_eq_false c5
        clear c5
        obtain rfl := Option.some.inj H
        go_wp2
        go_ret
        exact ⟨_, by first | rfl | (simp [errW_none, errW_some] <;> rfl) | (simp [*, errW_none, errW_some] <;> rfl), by (with_reducible repeat (first | apply Kd.R_alloc | apply Kd.R_drewN | apply Kd.R_drew)); exact Kd.R_mono HO_3.out (fun _ hk => trivial), by repeat (first | (with_reducible first | exact HB.out | apply below_alloc | apply pw_below_drewN | apply below_drew1) | exact HB.out)⟩

end Go.Proofs.YtpdcmdofojckdaaDoor.P
