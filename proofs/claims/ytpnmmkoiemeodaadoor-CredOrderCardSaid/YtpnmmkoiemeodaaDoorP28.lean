/- Written by a program of this session's, for this claim: the functions that the law reaches, their contracts, the law's row. Not trusted: it is checked as any text. -/
import Derived.Test.YtpnmmkoiemeodaaDoorP0
import Derived.Test.YtpnmmkoiemeodaaDoorP1
import Derived.Test.YtpnmmkoiemeodaaDoorP22
import Derived.Test.YtpnmmkoiemeodaaDoorP27
import Derived.Test.YtpnmmkoiemeodaaDoorHArgs
namespace Go.Proofs.YtpnmmkoiemeodaaDoor.P
open Go.RowKit Go.Proofs.YtpnmmkoiemeodaaDoorW.PrintWords Go.Proofs.YtpnmmkoiemeodaaDoorW.PrintLast Go.Proofs.YtpnmmkoiemeodaaDoorW.PrintMore
attribute [local go_sem] max2_int min2_int max_two min_two max_three min_three max_four min_four   -- for this text's walks alone
set_option linter.unusedVariables false
set_option linter.unusedSimpArgs false

attribute [local go_sem high] eqA23
/-! ### liverylaw05_CredOrder: function 6 -/
def liverylaw05_CredOrder.j0 : Nat → Bool → Bool → Int → Int → Int → Int → Int → Int → Option (Bool)
  | 0, _, _, _, _, _, _, _, _ => none
  | k + 1, x7, x37, x324000, x324001, x325000, x325001, x326000, x326001 => if x37 = true then (some false) else (if x7 = true then ((cred_Before.f x325000 x325001 x326000 x326001).bind fun t329 => (if t329 = true then ((cred_Before.f x324000 x324001 x326000 x326001).bind fun t330 => (if (¬ (t330 = true)) then (some false) else ((liverylaw05_lives.f k).bind fun t331 => (some t331)))) else ((liverylaw05_lives.f k).bind fun t332 => (some t332)))) else ((liverylaw05_lives.f k).bind fun t333 => (some t333)))
def liverylaw05_CredOrder.f (k : Nat) (a0_0 : Int) (a0_1 : Int) (a1_0 : Int) (a1_1 : Int) (a2_0 : Int) (a2_1 : Int) : Option (Bool) := (cred_Before.f a0_0 a0_1 a1_0 a1_1).bind fun t326 => ((cred_Before.f a1_0 a1_1 a0_0 a0_1).bind fun t327 => ((liveryref05_Before.f a0_0 a0_1 a1_0 a1_1).bind fun t328 => (if (t326 != t328) = true then (liverylaw05_CredOrder.j0 k t326 true a0_0 a0_1 a1_0 a1_1 a2_0 a2_1) else (if t326 = true then (if t327 = true then (liverylaw05_CredOrder.j0 k t326 true a0_0 a0_1 a1_0 a1_1 a2_0 a2_1) else (liverylaw05_CredOrder.j0 k t326 (false != (a0_0 == a1_0 && (a0_1 == a1_1))) a0_0 a0_1 a1_0 a1_1 a2_0 a2_1)) else (liverylaw05_CredOrder.j0 k t326 ((!t327) != (a0_0 == a1_0 && (a0_1 == a1_1))) a0_0 a0_1 a1_0 a1_1 a2_0 a2_1)))))
set_option maxHeartbeats 8000000 in
set_option maxRecDepth 100000 in
theorem liverylaw05_CredOrder.calls (k : Nat) (a0_0 : Int) (a0_1 : Int) (a1_0 : Int) (a1_1 : Int) (a2_0 : Int) (a2_1 : Int) (r : Bool) (w : World) (h : liverylaw05_CredOrder.f k a0_0 a0_1 a1_0 a1_1 a2_0 a2_1 = some r) :
    Calls Tryd.prog 6 #[.agg #[.int .i64 a0_0, .int .i64 a0_1], .agg #[.int .i64 a1_0, .int .i64 a1_1], .agg #[.int .i64 a2_0, .int .i64 a2_1]] w fun e w' => e = .returned (.bool r) ∧ Below w.heap.size w w' := by
  have hu23 := Tryd.underlying23
  have HB := Aside0.mk (Below.refl w.heap.size w)
  have H : ((cred_Before.f a0_0 a0_1 a1_0 a1_1).bind fun t326 => ((cred_Before.f a1_0 a1_1 a0_0 a0_1).bind fun t327 => ((liveryref05_Before.f a0_0 a0_1 a1_0 a1_1).bind fun t328 => (if (t326 != t328) = true then (liverylaw05_CredOrder.j0 k t326 true a0_0 a0_1 a1_0 a1_1 a2_0 a2_1) else (if t326 = true then (if t327 = true then (liverylaw05_CredOrder.j0 k t326 true a0_0 a0_1 a1_0 a1_1 a2_0 a2_1) else (liverylaw05_CredOrder.j0 k t326 (false != (a0_0 == a1_0 && (a0_1 == a1_1))) a0_0 a0_1 a1_0 a1_1 a2_0 a2_1)) else (liverylaw05_CredOrder.j0 k t326 ((!t327) != (a0_0 == a1_0 && (a0_1 == a1_1))) a0_0 a0_1 a1_0 a1_1 a2_0 a2_1)))))) = some r := h
  clear h
  replace H := Option.bind_eq_some_iff.mp H
  obtain ⟨t326, A40, H⟩ := H
  replace H : ((cred_Before.f a1_0 a1_1 a0_0 a0_1).bind fun t327 => ((liveryref05_Before.f a0_0 a0_1 a1_0 a1_1).bind fun t328 => (if (t326 != t328) = true then (liverylaw05_CredOrder.j0 k t326 true a0_0 a0_1 a1_0 a1_1 a2_0 a2_1) else (if t326 = true then (if t327 = true then (liverylaw05_CredOrder.j0 k t326 true a0_0 a0_1 a1_0 a1_1 a2_0 a2_1) else (liverylaw05_CredOrder.j0 k t326 (false != (a0_0 == a1_0 && (a0_1 == a1_1))) a0_0 a0_1 a1_0 a1_1 a2_0 a2_1)) else (liverylaw05_CredOrder.j0 k t326 ((!t327) != (a0_0 == a1_0 && (a0_1 == a1_1))) a0_0 a0_1 a1_0 a1_1 a2_0 a2_1))))) = some r := H
  have A4 := Aside0.mk A40
  clear A40
  replace H := Option.bind_eq_some_iff.mp H
  obtain ⟨t327, A50, H⟩ := H
  replace H : ((liveryref05_Before.f a0_0 a0_1 a1_0 a1_1).bind fun t328 => (if (t326 != t328) = true then (liverylaw05_CredOrder.j0 k t326 true a0_0 a0_1 a1_0 a1_1 a2_0 a2_1) else (if t326 = true then (if t327 = true then (liverylaw05_CredOrder.j0 k t326 true a0_0 a0_1 a1_0 a1_1 a2_0 a2_1) else (liverylaw05_CredOrder.j0 k t326 (false != (a0_0 == a1_0 && (a0_1 == a1_1))) a0_0 a0_1 a1_0 a1_1 a2_0 a2_1)) else (liverylaw05_CredOrder.j0 k t326 ((!t327) != (a0_0 == a1_0 && (a0_1 == a1_1))) a0_0 a0_1 a1_0 a1_1 a2_0 a2_1)))) = some r := H
  have A5 := Aside0.mk A50
  clear A50
  have HC6 := Aside0.mk H
  clear H
  go_enter Tryd.func6, Tryd.ntmps6
  go_upto_region 3 with (first | ((with_reducible refine gate_dst (N := 3) rfl ?_); refine box_event ?hg (N := 3) ?hd (cs := #[.int .i64 a0_0, .int .i64 a0_1]) (t := 23) ?hr ?_; (case hd => rfl); (case hg => rfl); (case hr => first | (go_simp; done) | (go_simp; rfl)); intro gb323 hg w7 hbox hb; have n0_ := Aside0.mk (below_step (by repeat (first | (with_reducible first | exact HB.out | apply below_alloc | apply pw_below_drewN | apply below_drew1) | exact HB.out)) hb); have n1_ := Aside0.mk (hbox); have n2_ := Aside0.mk ((by rw [hg]; exact (below_size (by repeat (first | (with_reducible first | exact HB.out | apply below_alloc | apply pw_below_drewN | apply below_drew1) | exact HB.out))) : w.heap.size ≤ gb323)); have n3_ := n2_; clear HB; have HB := n0_; have BK323 := n1_; have GW323 := n2_; have GE323 := n3_; clear n0_ n1_ n2_ n3_; clear hb hbox hg) | ((with_reducible refine gate_dst (N := 4) rfl ?_); refine box_event ?hg (N := 4) ?hd (cs := #[.int .i64 a1_0, .int .i64 a1_1]) (t := 23) ?hr ?_; (case hd => rfl); (case hg => rfl); (case hr => first | (go_simp; done) | (go_simp; rfl)); intro gb324 hg w8 hbox hb; have n0_ := Aside0.mk (blk_below (g := gb323) (o := .cells #[.int .i64 a0_0, .int .i64 a0_1] 23 (0, 0)) (by (with_reducible repeat (first | refine blk_drewN ?_ _ | refine blk_drew ?_ | refine blk_alloc ?_ _)); exact BK323.out) hb); have n1_ := Aside0.mk (below_step (by repeat (first | (with_reducible first | exact HB.out | apply below_alloc | apply pw_below_drewN | apply below_drew1 | refine below_set ?_ GE323.out) | exact HB.out)) hb); have n2_ := Aside0.mk (hbox); have n3_ := Aside0.mk ((by rw [hg]; exact (below_size (by repeat (first | (with_reducible first | exact HB.out | apply below_alloc | apply pw_below_drewN | apply below_drew1 | refine below_set ?_ GE323.out) | exact HB.out))) : w.heap.size ≤ gb324)); have n4_ := n3_; have n5_ := Aside0.mk ((by rw [hg]; exact Nat.ne_of_lt (blk_lt (g := gb323) (o := .cells #[.int .i64 a0_0, .int .i64 a0_1] 23 (0, 0)) (by (with_reducible repeat (first | refine blk_drewN ?_ _ | refine blk_drew ?_ | refine blk_alloc ?_ _)); exact BK323.out)) : gb323 ≠ gb324)); have n6_ := Aside0.mk ((by rw [hg]; exact Nat.ne_of_gt (blk_lt (g := gb323) (o := .cells #[.int .i64 a0_0, .int .i64 a0_1] 23 (0, 0)) (by (with_reducible repeat (first | refine blk_drewN ?_ _ | refine blk_drew ?_ | refine blk_alloc ?_ _)); exact BK323.out)) : gb324 ≠ gb323)); clear BK323; clear HB; have BK323 := n0_; have HB := n1_; have BK324 := n2_; have GW324 := n3_; have GE324 := n4_; have NB323_324 := n5_; have NB324_323 := n6_; clear n0_ n1_ n2_ n3_ n4_ n5_ n6_; clear hb hbox hg) | ((with_reducible refine gate_dst (N := 5) rfl ?_); refine box_event ?hg (N := 5) ?hd (cs := #[.int .i64 a2_0, .int .i64 a2_1]) (t := 23) ?hr ?_; (case hd => rfl); (case hg => rfl); (case hr => first | (go_simp; done) | (go_simp; rfl)); intro gb325 hg w9 hbox hb; have n0_ := Aside0.mk (blk_below (g := gb323) (o := .cells #[.int .i64 a0_0, .int .i64 a0_1] 23 (0, 0)) (by (with_reducible repeat (first | refine blk_drewN ?_ _ | refine blk_drew ?_ | refine blk_alloc ?_ _)); exact BK323.out) hb); have n1_ := Aside0.mk (blk_below (g := gb324) (o := .cells #[.int .i64 a1_0, .int .i64 a1_1] 23 (0, 0)) (by (with_reducible repeat (first | refine blk_drewN ?_ _ | refine blk_drew ?_ | refine blk_alloc ?_ _)); exact BK324.out) hb); have n2_ := Aside0.mk (below_step (by repeat (first | (with_reducible first | exact HB.out | apply below_alloc | apply pw_below_drewN | apply below_drew1 | refine below_set ?_ GE323.out | refine below_set ?_ GE324.out) | exact HB.out)) hb); have n3_ := Aside0.mk (hbox); have n4_ := Aside0.mk ((by rw [hg]; exact (below_size (by repeat (first | (with_reducible first | exact HB.out | apply below_alloc | apply pw_below_drewN | apply below_drew1 | refine below_set ?_ GE323.out | refine below_set ?_ GE324.out) | exact HB.out))) : w.heap.size ≤ gb325)); have n5_ := n4_; have n6_ := Aside0.mk ((by rw [hg]; exact Nat.ne_of_lt (blk_lt (g := gb323) (o := .cells #[.int .i64 a0_0, .int .i64 a0_1] 23 (0, 0)) (by (with_reducible repeat (first | refine blk_drewN ?_ _ | refine blk_drew ?_ | refine blk_alloc ?_ _)); exact BK323.out)) : gb323 ≠ gb325)); have n7_ := Aside0.mk ((by rw [hg]; exact Nat.ne_of_gt (blk_lt (g := gb323) (o := .cells #[.int .i64 a0_0, .int .i64 a0_1] 23 (0, 0)) (by (with_reducible repeat (first | refine blk_drewN ?_ _ | refine blk_drew ?_ | refine blk_alloc ?_ _)); exact BK323.out)) : gb325 ≠ gb323)); have n8_ := Aside0.mk ((by rw [hg]; exact Nat.ne_of_lt (blk_lt (g := gb324) (o := .cells #[.int .i64 a1_0, .int .i64 a1_1] 23 (0, 0)) (by (with_reducible repeat (first | refine blk_drewN ?_ _ | refine blk_drew ?_ | refine blk_alloc ?_ _)); exact BK324.out)) : gb324 ≠ gb325)); have n9_ := Aside0.mk ((by rw [hg]; exact Nat.ne_of_gt (blk_lt (g := gb324) (o := .cells #[.int .i64 a1_0, .int .i64 a1_1] 23 (0, 0)) (by (with_reducible repeat (first | refine blk_drewN ?_ _ | refine blk_drew ?_ | refine blk_alloc ?_ _)); exact BK324.out)) : gb325 ≠ gb324)); clear BK323; clear BK324; clear HB; have BK323 := n0_; have BK324 := n1_; have HB := n2_; have BK325 := n3_; have GW325 := n4_; have GE325 := n5_; have NB323_325 := n6_; have NB325_323 := n7_; have NB324_325 := n8_; have NB325_324 := n9_; clear n0_ n1_ n2_ n3_ n4_ n5_ n6_ n7_ n8_ n9_; clear hb hbox hg; have hnb10 := NB323_324.out; have hnc10 := NB324_323.out; have hnb11 := NB323_325.out; have hnc11 := NB325_323.out; obtain ⟨hcz12_0, hcz12_1, hfz12_0, hfz12_1⟩ := blk_all2 BK323.out; have hnb13 := NB324_325.out; have hnc13 := NB325_324.out; obtain ⟨hcz14_0, hcz14_1, hfz14_0, hfz14_1⟩ := blk_all2 BK324.out) | ((with_reducible refine gate_callee (f := 19) rfl ?_); refine goesL_ (some 11) rfl rfl Tryd.func19 (by kernel_rfl) rfl #[.agg #[.int .i64 a0_0, .int .i64 a0_1], .agg #[.int .i64 a1_0, .int .i64 a1_1]] rfl (by (try simp only [List.map_toArray, List.map_cons, List.map_nil]); first | done | rfl | (simp only [List.length_drop, List.length_take]; rfl)) ?_; (with_reducible refine (cred_Before.calls a0_0 a0_1 a1_0 a1_1 t326 _ A4.out).mono ?_); rintro e w15 ⟨rfl, hb⟩; refine ⟨_, rfl, ?_⟩; have n0_ := Aside0.mk (blk_below (g := gb323) (o := .cells #[.int .i64 a0_0, .int .i64 a0_1] 23 (0, 0)) (by (with_reducible repeat (first | refine blk_drewN ?_ _ | refine blk_drew ?_ | refine blk_alloc ?_ _)); exact BK323.out) hb); have n1_ := Aside0.mk (blk_below (g := gb324) (o := .cells #[.int .i64 a1_0, .int .i64 a1_1] 23 (0, 0)) (by (with_reducible repeat (first | refine blk_drewN ?_ _ | refine blk_drew ?_ | refine blk_alloc ?_ _)); exact BK324.out) hb); have n2_ := Aside0.mk (blk_below (g := gb325) (o := .cells #[.int .i64 a2_0, .int .i64 a2_1] 23 (0, 0)) (by (with_reducible repeat (first | refine blk_drewN ?_ _ | refine blk_drew ?_ | refine blk_alloc ?_ _)); exact BK325.out) hb); have n3_ := Aside0.mk (below_step (by repeat (first | (with_reducible first | exact HB.out | apply below_alloc | apply pw_below_drewN | apply below_drew1 | refine below_set ?_ GE323.out | refine below_set ?_ GE324.out | refine below_set ?_ GE325.out) | exact HB.out)) hb); clear BK323; clear BK324; clear BK325; clear HB; have BK323 := n0_; have BK324 := n1_; have BK325 := n2_; have HB := n3_; clear n0_ n1_ n2_ n3_; (try clear hb); (try clear hb2); (try clear hk); (try clear hi); obtain ⟨hcz16_0, hcz16_1, hfz16_0, hfz16_1⟩ := blk_all2 BK324.out; obtain ⟨hcz17_0, hcz17_1, hfz17_0, hfz17_1⟩ := blk_all2 BK323.out) | ((with_reducible refine gate_callee (f := 19) rfl ?_); refine goesL_ (some 14) rfl rfl Tryd.func19 (by kernel_rfl) rfl #[.agg #[.int .i64 a1_0, .int .i64 a1_1], .agg #[.int .i64 a0_0, .int .i64 a0_1]] rfl (by (try simp only [List.map_toArray, List.map_cons, List.map_nil]); first | done | rfl | (simp only [List.length_drop, List.length_take]; rfl)) ?_; (with_reducible refine (cred_Before.calls a1_0 a1_1 a0_0 a0_1 t327 _ A5.out).mono ?_); rintro e w18 ⟨rfl, hb⟩; refine ⟨_, rfl, ?_⟩; have n0_ := Aside0.mk (blk_below (g := gb323) (o := .cells #[.int .i64 a0_0, .int .i64 a0_1] 23 (0, 0)) (by (with_reducible repeat (first | refine blk_drewN ?_ _ | refine blk_drew ?_ | refine blk_alloc ?_ _)); exact BK323.out) hb); have n1_ := Aside0.mk (blk_below (g := gb324) (o := .cells #[.int .i64 a1_0, .int .i64 a1_1] 23 (0, 0)) (by (with_reducible repeat (first | refine blk_drewN ?_ _ | refine blk_drew ?_ | refine blk_alloc ?_ _)); exact BK324.out) hb); have n2_ := Aside0.mk (blk_below (g := gb325) (o := .cells #[.int .i64 a2_0, .int .i64 a2_1] 23 (0, 0)) (by (with_reducible repeat (first | refine blk_drewN ?_ _ | refine blk_drew ?_ | refine blk_alloc ?_ _)); exact BK325.out) hb); have n3_ := Aside0.mk (below_step (by repeat (first | (with_reducible first | exact HB.out | apply below_alloc | apply pw_below_drewN | apply below_drew1 | refine below_set ?_ GE323.out | refine below_set ?_ GE324.out | refine below_set ?_ GE325.out) | exact HB.out)) hb); clear BK323; clear BK324; clear BK325; clear HB; have BK323 := n0_; have BK324 := n1_; have BK325 := n2_; have HB := n3_; clear n0_ n1_ n2_ n3_; (try clear hb); (try clear hb2); (try clear hk); (try clear hi)))
  (try simp only [Act.put, List.setIfInBounds_toArray, List.set_cons_zero, List.set_cons_succ])
  go_cut [37] (fun v37 wc => ∃ (kq : Nat) (x37_5 : Bool), v37 = .bool x37_5 ∧ Aside0 (liverylaw05_CredOrder.j0 kq t326 x37_5 a0_0 a0_1 a1_0 a1_1 a2_0 a2_1 = some r) ∧ Aside0 (kq ≤ k) ∧ Aside0 (wc.heap[gb323]? = some (.cells #[.int .i64 a0_0, .int .i64 a0_1] 23 (0, 0))) ∧ Aside0 (wc.heap[gb324]? = some (.cells #[.int .i64 a1_0, .int .i64 a1_1] 23 (0, 0))) ∧ Aside0 (wc.heap[gb325]? = some (.cells #[.int .i64 a2_0, .int .i64 a2_1] 23 (0, 0))) ∧ Aside0 (Below w.heap.size w wc))
  case first =>
    have H := HC6.out
    clear HC6
    replace H := Option.bind_eq_some_iff.mp H
    obtain ⟨t328, A190, H⟩ := H
    replace H : (if (t326 != t328) = true then (liverylaw05_CredOrder.j0 k t326 true a0_0 a0_1 a1_0 a1_1 a2_0 a2_1) else (if t326 = true then (if t327 = true then (liverylaw05_CredOrder.j0 k t326 true a0_0 a0_1 a1_0 a1_1 a2_0 a2_1) else (liverylaw05_CredOrder.j0 k t326 (false != (a0_0 == a1_0 && (a0_1 == a1_1))) a0_0 a0_1 a1_0 a1_1 a2_0 a2_1)) else (liverylaw05_CredOrder.j0 k t326 ((!t327) != (a0_0 == a1_0 && (a0_1 == a1_1))) a0_0 a0_1 a1_0 a1_1 a2_0 a2_1))) = some r := H
    have A19 := Aside0.mk A190
    clear A190
    by_cases c20 : (t326 != t328) = true
    · rw [if_pos c20] at H
      have c20b0 : (t326 != t328) = true := c20
      (try (have c20b1 : decide (t326 = t328) = false := by simpa using c20))
      (try (have c20b2 : (t326 == t328) = false := by simpa using c20))
      (try (have c20b3 : ¬ (t326 = t328) := by simpa using c20))
      clear c20
      (first | rw [c20b0] | (simp only [i64_w, i32_w]; rw [c20b0]) | skip)
      have H' := Aside0.mk H
      clear H
      have hnb21 := NB323_324.out
      have hnc21 := NB324_323.out
      have hnb22 := NB323_325.out
      have hnc22 := NB325_323.out
      obtain ⟨hcz23_0, hcz23_1, hfz23_0, hfz23_1⟩ := blk_all2 BK323.out
      have hnb24 := NB324_325.out
      have hnc24 := NB325_324.out
      obtain ⟨hcz25_0, hcz25_1, hfz25_0, hfz25_1⟩ := blk_all2 BK324.out
      go_wp2_with (first | ((with_reducible refine gate_callee (f := 20) rfl ?_); refine goesL_ (some 18) rfl rfl Tryd.func20 (by kernel_rfl) rfl #[.agg #[.int .i64 a0_0, .int .i64 a0_1], .agg #[.int .i64 a1_0, .int .i64 a1_1]] rfl (by (try simp only [List.map_toArray, List.map_cons, List.map_nil]); first | done | rfl | (simp only [List.length_drop, List.length_take]; rfl)) ?_; (with_reducible refine (liveryref05_Before.calls a0_0 a0_1 a1_0 a1_1 t328 _ A19.out).mono ?_); rintro e w26 ⟨rfl, hb⟩; refine ⟨_, rfl, ?_⟩; have n0_ := Aside0.mk (blk_below (g := gb323) (o := .cells #[.int .i64 a0_0, .int .i64 a0_1] 23 (0, 0)) (by (with_reducible repeat (first | refine blk_drewN ?_ _ | refine blk_drew ?_ | refine blk_alloc ?_ _)); exact BK323.out) hb); have n1_ := Aside0.mk (blk_below (g := gb324) (o := .cells #[.int .i64 a1_0, .int .i64 a1_1] 23 (0, 0)) (by (with_reducible repeat (first | refine blk_drewN ?_ _ | refine blk_drew ?_ | refine blk_alloc ?_ _)); exact BK324.out) hb); have n2_ := Aside0.mk (blk_below (g := gb325) (o := .cells #[.int .i64 a2_0, .int .i64 a2_1] 23 (0, 0)) (by (with_reducible repeat (first | refine blk_drewN ?_ _ | refine blk_drew ?_ | refine blk_alloc ?_ _)); exact BK325.out) hb); have n3_ := Aside0.mk (below_step (by repeat (first | (with_reducible first | exact HB.out | apply below_alloc | apply pw_below_drewN | apply below_drew1 | refine below_set ?_ GE323.out | refine below_set ?_ GE324.out | refine below_set ?_ GE325.out) | exact HB.out)) hb); clear BK323; clear BK324; clear BK325; clear HB; have BK323 := n0_; have BK324 := n1_; have BK325 := n2_; have HB := n3_; clear n0_ n1_ n2_ n3_; (try clear hb); (try clear hb2); (try clear hk); (try clear hi)))
      go_meet
      case rel => exact ⟨_, (true), (by first | rfl | (simp; done) | (simp [*]; done)), H', ⟨by first | omega | exact Nat.le_refl _⟩, ⟨by (with_reducible repeat (first | refine blk_drewN ?_ _ | refine blk_drew ?_ | refine blk_alloc ?_ _)); exact BK323.out⟩, ⟨by (with_reducible repeat (first | refine blk_drewN ?_ _ | refine blk_drew ?_ | refine blk_alloc ?_ _)); exact BK324.out⟩, ⟨by (with_reducible repeat (first | refine blk_drewN ?_ _ | refine blk_drew ?_ | refine blk_alloc ?_ _)); exact BK325.out⟩, ⟨by repeat (first | (with_reducible first | exact HB.out | apply below_alloc | apply pw_below_drewN | apply below_drew1 | refine below_set ?_ GE323.out | refine below_set ?_ GE324.out | refine below_set ?_ GE325.out) | exact HB.out)⟩⟩
    · rw [if_neg c20] at H
      have c20b0 : (t326 != t328) = false := by simpa using c20
      (try (have c20b1 : decide (t326 = t328) = true := by simpa using c20))
      (try (have c20b2 : (t326 == t328) = true := by simpa using c20))
      clear c20
      (first | rw [c20b0] | (simp only [i64_w, i32_w]; rw [c20b0]) | skip)
      by_cases c27 : t326 = true
      · subst c27
        have H1 : (if t327 = true then (liverylaw05_CredOrder.j0 k true true a0_0 a0_1 a1_0 a1_1 a2_0 a2_1) else (liverylaw05_CredOrder.j0 k true (false != (a0_0 == a1_0 && (a0_1 == a1_1))) a0_0 a0_1 a1_0 a1_1 a2_0 a2_1)) = some r := by rw [if_pos rfl] at H; exact H
        clear H
        have H := H1
        clear H1
        by_cases c28 : t327 = true
        · subst c28
          have H1 : (liverylaw05_CredOrder.j0 k true true a0_0 a0_1 a1_0 a1_1 a2_0 a2_1) = some r := by rw [if_pos rfl] at H; exact H
          clear H
          have H := H1
          clear H1
          have H' := Aside0.mk H
          clear H
          have hnb29 := NB323_324.out
          have hnc29 := NB324_323.out
          have hnb30 := NB323_325.out
          have hnc30 := NB325_323.out
          obtain ⟨hcz31_0, hcz31_1, hfz31_0, hfz31_1⟩ := blk_all2 BK323.out
          have hnb32 := NB324_325.out
          have hnc32 := NB325_324.out
          obtain ⟨hcz33_0, hcz33_1, hfz33_0, hfz33_1⟩ := blk_all2 BK324.out
          go_wp2_with (first | ((with_reducible refine gate_callee (f := 20) rfl ?_); refine goesL_ (some 18) rfl rfl Tryd.func20 (by kernel_rfl) rfl #[.agg #[.int .i64 a0_0, .int .i64 a0_1], .agg #[.int .i64 a1_0, .int .i64 a1_1]] rfl (by (try simp only [List.map_toArray, List.map_cons, List.map_nil]); first | done | rfl | (simp only [List.length_drop, List.length_take]; rfl)) ?_; (with_reducible refine (liveryref05_Before.calls a0_0 a0_1 a1_0 a1_1 t328 _ A19.out).mono ?_); rintro e w34 ⟨rfl, hb⟩; refine ⟨_, rfl, ?_⟩; have n0_ := Aside0.mk (blk_below (g := gb323) (o := .cells #[.int .i64 a0_0, .int .i64 a0_1] 23 (0, 0)) (by (with_reducible repeat (first | refine blk_drewN ?_ _ | refine blk_drew ?_ | refine blk_alloc ?_ _)); exact BK323.out) hb); have n1_ := Aside0.mk (blk_below (g := gb324) (o := .cells #[.int .i64 a1_0, .int .i64 a1_1] 23 (0, 0)) (by (with_reducible repeat (first | refine blk_drewN ?_ _ | refine blk_drew ?_ | refine blk_alloc ?_ _)); exact BK324.out) hb); have n2_ := Aside0.mk (blk_below (g := gb325) (o := .cells #[.int .i64 a2_0, .int .i64 a2_1] 23 (0, 0)) (by (with_reducible repeat (first | refine blk_drewN ?_ _ | refine blk_drew ?_ | refine blk_alloc ?_ _)); exact BK325.out) hb); have n3_ := Aside0.mk (below_step (by repeat (first | (with_reducible first | exact HB.out | apply below_alloc | apply pw_below_drewN | apply below_drew1 | refine below_set ?_ GE323.out | refine below_set ?_ GE324.out | refine below_set ?_ GE325.out) | exact HB.out)) hb); clear BK323; clear BK324; clear BK325; clear HB; have BK323 := n0_; have BK324 := n1_; have BK325 := n2_; have HB := n3_; clear n0_ n1_ n2_ n3_; (try clear hb); (try clear hb2); (try clear hk); (try clear hi)))
          go_meet
          case rel => exact ⟨_, (true), (by first | rfl | (simp; done) | (simp [*]; done)), H', ⟨by first | omega | exact Nat.le_refl _⟩, ⟨by (with_reducible repeat (first | refine blk_drewN ?_ _ | refine blk_drew ?_ | refine blk_alloc ?_ _)); exact BK323.out⟩, ⟨by (with_reducible repeat (first | refine blk_drewN ?_ _ | refine blk_drew ?_ | refine blk_alloc ?_ _)); exact BK324.out⟩, ⟨by (with_reducible repeat (first | refine blk_drewN ?_ _ | refine blk_drew ?_ | refine blk_alloc ?_ _)); exact BK325.out⟩, ⟨by repeat (first | (with_reducible first | exact HB.out | apply below_alloc | apply pw_below_drewN | apply below_drew1 | refine below_set ?_ GE323.out | refine below_set ?_ GE324.out | refine below_set ?_ GE325.out) | exact HB.out)⟩⟩
        · replace c28 := Bool.eq_false_iff.mpr c28
          subst c28
          have H1 : (liverylaw05_CredOrder.j0 k true (false != (a0_0 == a1_0 && (a0_1 == a1_1))) a0_0 a0_1 a1_0 a1_1 a2_0 a2_1) = some r := by rw [if_neg (show ¬ (false = true) by decide)] at H; exact H
          clear H
          have H := H1
          clear H1
          have H' := Aside0.mk H
          clear H
          have hnb35 := NB323_324.out
          have hnc35 := NB324_323.out
          have hnb36 := NB323_325.out
          have hnc36 := NB325_323.out
          obtain ⟨hcz37_0, hcz37_1, hfz37_0, hfz37_1⟩ := blk_all2 BK323.out
          have hnb38 := NB324_325.out
          have hnc38 := NB325_324.out
          obtain ⟨hcz39_0, hcz39_1, hfz39_0, hfz39_1⟩ := blk_all2 BK324.out
          go_wp2_with (first | ((with_reducible refine gate_callee (f := 20) rfl ?_); refine goesL_ (some 18) rfl rfl Tryd.func20 (by kernel_rfl) rfl #[.agg #[.int .i64 a0_0, .int .i64 a0_1], .agg #[.int .i64 a1_0, .int .i64 a1_1]] rfl (by (try simp only [List.map_toArray, List.map_cons, List.map_nil]); first | done | rfl | (simp only [List.length_drop, List.length_take]; rfl)) ?_; (with_reducible refine (liveryref05_Before.calls a0_0 a0_1 a1_0 a1_1 t328 _ A19.out).mono ?_); rintro e w40 ⟨rfl, hb⟩; refine ⟨_, rfl, ?_⟩; have n0_ := Aside0.mk (blk_below (g := gb323) (o := .cells #[.int .i64 a0_0, .int .i64 a0_1] 23 (0, 0)) (by (with_reducible repeat (first | refine blk_drewN ?_ _ | refine blk_drew ?_ | refine blk_alloc ?_ _)); exact BK323.out) hb); have n1_ := Aside0.mk (blk_below (g := gb324) (o := .cells #[.int .i64 a1_0, .int .i64 a1_1] 23 (0, 0)) (by (with_reducible repeat (first | refine blk_drewN ?_ _ | refine blk_drew ?_ | refine blk_alloc ?_ _)); exact BK324.out) hb); have n2_ := Aside0.mk (blk_below (g := gb325) (o := .cells #[.int .i64 a2_0, .int .i64 a2_1] 23 (0, 0)) (by (with_reducible repeat (first | refine blk_drewN ?_ _ | refine blk_drew ?_ | refine blk_alloc ?_ _)); exact BK325.out) hb); have n3_ := Aside0.mk (below_step (by repeat (first | (with_reducible first | exact HB.out | apply below_alloc | apply pw_below_drewN | apply below_drew1 | refine below_set ?_ GE323.out | refine below_set ?_ GE324.out | refine below_set ?_ GE325.out) | exact HB.out)) hb); clear BK323; clear BK324; clear BK325; clear HB; have BK323 := n0_; have BK324 := n1_; have BK325 := n2_; have HB := n3_; clear n0_ n1_ n2_ n3_; (try clear hb); (try clear hb2); (try clear hk); (try clear hi); obtain ⟨hcz41_0, hcz41_1, hfz41_0, hfz41_1⟩ := blk_all2 BK323.out; obtain ⟨hcz42_0, hcz42_1, hfz42_0, hfz42_1⟩ := blk_all2 BK324.out))
          go_meet
          case rel => exact ⟨_, ((false != (a0_0 == a1_0 && (a0_1 == a1_1)))), (by first | rfl | (simp; done) | (simp [*]; done)), H', ⟨by first | omega | exact Nat.le_refl _⟩, ⟨by (with_reducible repeat (first | refine blk_drewN ?_ _ | refine blk_drew ?_ | refine blk_alloc ?_ _)); exact BK323.out⟩, ⟨by (with_reducible repeat (first | refine blk_drewN ?_ _ | refine blk_drew ?_ | refine blk_alloc ?_ _)); exact BK324.out⟩, ⟨by (with_reducible repeat (first | refine blk_drewN ?_ _ | refine blk_drew ?_ | refine blk_alloc ?_ _)); exact BK325.out⟩, ⟨by repeat (first | (with_reducible first | exact HB.out | apply below_alloc | apply pw_below_drewN | apply below_drew1 | refine below_set ?_ GE323.out | refine below_set ?_ GE324.out | refine below_set ?_ GE325.out) | exact HB.out)⟩⟩
      · replace c27 := Bool.eq_false_iff.mpr c27
        subst c27
        have H1 : (liverylaw05_CredOrder.j0 k false ((!t327) != (a0_0 == a1_0 && (a0_1 == a1_1))) a0_0 a0_1 a1_0 a1_1 a2_0 a2_1) = some r := by rw [if_neg (show ¬ (false = true) by decide)] at H; exact H
        clear H
        have H := H1
        clear H1
        have H' := Aside0.mk H
        clear H
        have hnb43 := NB323_324.out
        have hnc43 := NB324_323.out
        have hnb44 := NB323_325.out
        have hnc44 := NB325_323.out
        obtain ⟨hcz45_0, hcz45_1, hfz45_0, hfz45_1⟩ := blk_all2 BK323.out
        have hnb46 := NB324_325.out
        have hnc46 := NB325_324.out
        obtain ⟨hcz47_0, hcz47_1, hfz47_0, hfz47_1⟩ := blk_all2 BK324.out
        go_wp2_with (first | ((with_reducible refine gate_callee (f := 20) rfl ?_); refine goesL_ (some 18) rfl rfl Tryd.func20 (by kernel_rfl) rfl #[.agg #[.int .i64 a0_0, .int .i64 a0_1], .agg #[.int .i64 a1_0, .int .i64 a1_1]] rfl (by (try simp only [List.map_toArray, List.map_cons, List.map_nil]); first | done | rfl | (simp only [List.length_drop, List.length_take]; rfl)) ?_; (with_reducible refine (liveryref05_Before.calls a0_0 a0_1 a1_0 a1_1 t328 _ A19.out).mono ?_); rintro e w48 ⟨rfl, hb⟩; refine ⟨_, rfl, ?_⟩; have n0_ := Aside0.mk (blk_below (g := gb323) (o := .cells #[.int .i64 a0_0, .int .i64 a0_1] 23 (0, 0)) (by (with_reducible repeat (first | refine blk_drewN ?_ _ | refine blk_drew ?_ | refine blk_alloc ?_ _)); exact BK323.out) hb); have n1_ := Aside0.mk (blk_below (g := gb324) (o := .cells #[.int .i64 a1_0, .int .i64 a1_1] 23 (0, 0)) (by (with_reducible repeat (first | refine blk_drewN ?_ _ | refine blk_drew ?_ | refine blk_alloc ?_ _)); exact BK324.out) hb); have n2_ := Aside0.mk (blk_below (g := gb325) (o := .cells #[.int .i64 a2_0, .int .i64 a2_1] 23 (0, 0)) (by (with_reducible repeat (first | refine blk_drewN ?_ _ | refine blk_drew ?_ | refine blk_alloc ?_ _)); exact BK325.out) hb); have n3_ := Aside0.mk (below_step (by repeat (first | (with_reducible first | exact HB.out | apply below_alloc | apply pw_below_drewN | apply below_drew1 | refine below_set ?_ GE323.out | refine below_set ?_ GE324.out | refine below_set ?_ GE325.out) | exact HB.out)) hb); clear BK323; clear BK324; clear BK325; clear HB; have BK323 := n0_; have BK324 := n1_; have BK325 := n2_; have HB := n3_; clear n0_ n1_ n2_ n3_; (try clear hb); (try clear hb2); (try clear hk); (try clear hi); obtain ⟨hcz49_0, hcz49_1, hfz49_0, hfz49_1⟩ := blk_all2 BK323.out; obtain ⟨hcz50_0, hcz50_1, hfz50_0, hfz50_1⟩ := blk_all2 BK324.out))
        go_meet
        case rel => exact ⟨_, (((!t327) != (a0_0 == a1_0 && (a0_1 == a1_1)))), (by first | rfl | (simp; done) | (simp [*]; done)), H', ⟨by first | omega | exact Nat.le_refl _⟩, ⟨by (with_reducible repeat (first | refine blk_drewN ?_ _ | refine blk_drew ?_ | refine blk_alloc ?_ _)); exact BK323.out⟩, ⟨by (with_reducible repeat (first | refine blk_drewN ?_ _ | refine blk_drew ?_ | refine blk_alloc ?_ _)); exact BK324.out⟩, ⟨by (with_reducible repeat (first | refine blk_drewN ?_ _ | refine blk_drew ?_ | refine blk_alloc ?_ _)); exact BK325.out⟩, ⟨by repeat (first | (with_reducible first | exact HB.out | apply below_alloc | apply pw_below_drewN | apply below_drew1 | refine below_set ?_ GE323.out | refine below_set ?_ GE324.out | refine below_set ?_ GE325.out) | exact HB.out)⟩⟩
  case rest =>
    clear HC6
    try clear c1
    try clear c2
    try clear p2
    try clear c3
    try clear c4
    try clear c6
    try clear c10
    try clear c11
    try clear c13
    try clear c19
    try clear c20
    try clear c20b0
    try clear c20b1
    try clear c20b2
    try clear c21
    try clear c22
    try clear c24
    try clear c27
    try clear c28
    try clear c29
    try clear c30
    try clear c32
    try clear c35
    try clear c36
    try clear c38
    try clear c43
    try clear c44
    try clear c46
    try clear hcz12_0
    try clear hcz12_1
    try clear hcz14_0
    try clear hcz14_1
    try clear hcz16_0
    try clear hcz16_1
    try clear hcz17_0
    try clear hcz17_1
    try clear hcz23_0
    try clear hcz23_1
    try clear hcz25_0
    try clear hcz25_1
    try clear hcz31_0
    try clear hcz31_1
    try clear hcz33_0
    try clear hcz33_1
    try clear hcz37_0
    try clear hcz37_1
    try clear hcz39_0
    try clear hcz39_1
    try clear hcz41_0
    try clear hcz41_1
    try clear hcz42_0
    try clear hcz42_1
    try clear hcz45_0
    try clear hcz45_1
    try clear hcz47_0
    try clear hcz47_1
    try clear hcz49_0
    try clear hcz49_1
    try clear hcz50_0
    try clear hcz50_1
    try clear hfz12_0
    try clear hfz12_1
    try clear hfz14_0
    try clear hfz14_1
    try clear hfz16_0
    try clear hfz16_1
    try clear hfz17_0
    try clear hfz17_1
    try clear hfz23_0
    try clear hfz23_1
    try clear hfz25_0
    try clear hfz25_1
    try clear hfz31_0
    try clear hfz31_1
    try clear hfz33_0
    try clear hfz33_1
    try clear hfz37_0
    try clear hfz37_1
    try clear hfz39_0
    try clear hfz39_1
    try clear hfz41_0
    try clear hfz41_1
    try clear hfz42_0
    try clear hfz42_1
    try clear hfz45_0
    try clear hfz45_1
    try clear hfz47_0
    try clear hfz47_1
    try clear hfz49_0
    try clear hfz49_1
    try clear hfz50_0
    try clear hfz50_1
    obtain ⟨kq, x37_5, rfl, HA, HJ5, BK323, BK324, BK325, HB⟩ := hcut
    cases kq with
    | zero => exact absurd HA.out (by simp [liverylaw05_CredOrder.j0])
    | succ kj5 =>
      have H := HA.out
      clear HA
      simp only [liverylaw05_CredOrder.j0] at H
      by_cases c51 : x37_5 = true
      · subst c51
        have H1 : (some false) = some r := by rw [if_pos rfl] at H; exact H
        clear H
        have H := H1
        clear H1
        obtain rfl := Option.some.inj H
        go_wp2
        go_ret
        exact ⟨by first | rfl | (simp [errW_none, errW_some] <;> rfl) | (simp [*, errW_none, errW_some] <;> rfl), by repeat (first | (with_reducible first | exact HB.out | apply below_alloc | apply pw_below_drewN | apply below_drew1 | refine below_set ?_ GE323.out | refine below_set ?_ GE324.out | refine below_set ?_ GE325.out) | exact HB.out)⟩
      · replace c51 := Bool.eq_false_iff.mpr c51
        subst c51
        have H1 : (if t326 = true then ((cred_Before.f a1_0 a1_1 a2_0 a2_1).bind fun t329 => (if t329 = true then ((cred_Before.f a0_0 a0_1 a2_0 a2_1).bind fun t330 => (if (¬ (t330 = true)) then (some false) else ((liverylaw05_lives.f kj5).bind fun t331 => (some t331)))) else ((liverylaw05_lives.f kj5).bind fun t332 => (some t332)))) else ((liverylaw05_lives.f kj5).bind fun t333 => (some t333))) = some r := by rw [if_neg (show ¬ (false = true) by decide)] at H; exact H
        clear H
        have H := H1
        clear H1
        by_cases c52 : t326 = true
        · subst c52
          have H1 : ((cred_Before.f a1_0 a1_1 a2_0 a2_1).bind fun t329 => (if t329 = true then ((cred_Before.f a0_0 a0_1 a2_0 a2_1).bind fun t330 => (if (¬ (t330 = true)) then (some false) else ((liverylaw05_lives.f kj5).bind fun t331 => (some t331)))) else ((liverylaw05_lives.f kj5).bind fun t332 => (some t332)))) = some r := by rw [if_pos rfl] at H; exact H
          clear H
          have H := H1
          clear H1
          replace H := Option.bind_eq_some_iff.mp H
          obtain ⟨t329, A530, H⟩ := H
          replace H : (if t329 = true then ((cred_Before.f a0_0 a0_1 a2_0 a2_1).bind fun t330 => (if (¬ (t330 = true)) then (some false) else ((liverylaw05_lives.f kj5).bind fun t331 => (some t331)))) else ((liverylaw05_lives.f kj5).bind fun t332 => (some t332))) = some r := H
          have A53 := Aside0.mk A530
          clear A530
          by_cases c54 : t329 = true
          · subst c54
            have H1 : ((cred_Before.f a0_0 a0_1 a2_0 a2_1).bind fun t330 => (if (¬ (t330 = true)) then (some false) else ((liverylaw05_lives.f kj5).bind fun t331 => (some t331)))) = some r := by rw [if_pos rfl] at H; exact H
            clear H
            have H := H1
            clear H1
            replace H := Option.bind_eq_some_iff.mp H
            obtain ⟨t330, A550, H⟩ := H
            replace H : (if (¬ (t330 = true)) then (some false) else ((liverylaw05_lives.f kj5).bind fun t331 => (some t331))) = some r := H
            have A55 := Aside0.mk A550
            clear A550
            replace H : (if t330 = true then ((liverylaw05_lives.f kj5).bind fun t331 => (some t331)) else (some false)) = some r := by first | (rw [ite_not] at H; exact H) | (simp only [ite_not] at H ⊢; exact H)
            by_cases c56 : t330 = true
            · subst c56
              have H1 : ((liverylaw05_lives.f kj5).bind fun t331 => (some t331)) = some r := by rw [if_pos rfl] at H; exact H
              clear H
              have H := H1
              clear H1
              replace H := Option.bind_eq_some_iff.mp H
              obtain ⟨t331, A570, H⟩ := H
              replace H : (some t331) = some r := H
              have A57 := Aside0.mk A570
              clear A570
              obtain rfl := Option.some.inj H
              have hnb58 := NB324_323.out
              have hnc58 := NB323_324.out
              have hnb59 := NB324_325.out
              have hnc59 := NB325_324.out
              obtain ⟨hcz60_0, hcz60_1, hfz60_0, hfz60_1⟩ := blk_all2 BK324.out
              have hnb61 := NB325_323.out
              have hnc61 := NB323_325.out
              obtain ⟨hcz62_0, hcz62_1, hfz62_0, hfz62_1⟩ := blk_all2 BK325.out
              go_wp2_with (first | (go_at_call 19; (with_reducible refine (cred_Before.calls a1_0 a1_1 a2_0 a2_1 true _ A53.out).mono ?_); rintro e w63 ⟨rfl, hb⟩; have n0_ := Aside0.mk (blk_below (g := gb323) (o := .cells #[.int .i64 a0_0, .int .i64 a0_1] 23 (0, 0)) (by (with_reducible repeat (first | refine blk_drewN ?_ _ | refine blk_drew ?_ | refine blk_alloc ?_ _)); exact BK323.out) hb); have n1_ := Aside0.mk (blk_below (g := gb324) (o := .cells #[.int .i64 a1_0, .int .i64 a1_1] 23 (0, 0)) (by (with_reducible repeat (first | refine blk_drewN ?_ _ | refine blk_drew ?_ | refine blk_alloc ?_ _)); exact BK324.out) hb); have n2_ := Aside0.mk (blk_below (g := gb325) (o := .cells #[.int .i64 a2_0, .int .i64 a2_1] 23 (0, 0)) (by (with_reducible repeat (first | refine blk_drewN ?_ _ | refine blk_drew ?_ | refine blk_alloc ?_ _)); exact BK325.out) hb); have n3_ := Aside0.mk (below_step (by repeat (first | (with_reducible first | exact HB.out | apply below_alloc | apply pw_below_drewN | apply below_drew1 | refine below_set ?_ GE323.out | refine below_set ?_ GE324.out | refine below_set ?_ GE325.out) | exact HB.out)) hb); clear BK323; clear BK324; clear BK325; clear HB; have BK323 := n0_; have BK324 := n1_; have BK325 := n2_; have HB := n3_; clear n0_ n1_ n2_ n3_; (try clear hb); (try clear hb2); (try clear hk); (try clear hi); obtain ⟨hcz64_0, hcz64_1, hfz64_0, hfz64_1⟩ := blk_all2 BK323.out; obtain ⟨hcz65_0, hcz65_1, hfz65_0, hfz65_1⟩ := blk_all2 BK325.out) | (go_at_call 19; (with_reducible refine (cred_Before.calls a0_0 a0_1 a2_0 a2_1 true _ A55.out).mono ?_); rintro e w66 ⟨rfl, hb⟩; have n0_ := Aside0.mk (blk_below (g := gb323) (o := .cells #[.int .i64 a0_0, .int .i64 a0_1] 23 (0, 0)) (by (with_reducible repeat (first | refine blk_drewN ?_ _ | refine blk_drew ?_ | refine blk_alloc ?_ _)); exact BK323.out) hb); have n1_ := Aside0.mk (blk_below (g := gb324) (o := .cells #[.int .i64 a1_0, .int .i64 a1_1] 23 (0, 0)) (by (with_reducible repeat (first | refine blk_drewN ?_ _ | refine blk_drew ?_ | refine blk_alloc ?_ _)); exact BK324.out) hb); have n2_ := Aside0.mk (blk_below (g := gb325) (o := .cells #[.int .i64 a2_0, .int .i64 a2_1] 23 (0, 0)) (by (with_reducible repeat (first | refine blk_drewN ?_ _ | refine blk_drew ?_ | refine blk_alloc ?_ _)); exact BK325.out) hb); have n3_ := Aside0.mk (below_step (by repeat (first | (with_reducible first | exact HB.out | apply below_alloc | apply pw_below_drewN | apply below_drew1 | refine below_set ?_ GE323.out | refine below_set ?_ GE324.out | refine below_set ?_ GE325.out) | exact HB.out)) hb); clear BK323; clear BK324; clear BK325; clear HB; have BK323 := n0_; have BK324 := n1_; have BK325 := n2_; have HB := n3_; clear n0_ n1_ n2_ n3_; (try clear hb); (try clear hb2); (try clear hk); (try clear hi)) | (go_at_call 15; (with_reducible refine (liverylaw05_lives.calls kj5  t331 _ A57.out).mono ?_); rintro e w67 ⟨rfl, hb⟩; have n0_ := Aside0.mk (blk_below (g := gb323) (o := .cells #[.int .i64 a0_0, .int .i64 a0_1] 23 (0, 0)) (by (with_reducible repeat (first | refine blk_drewN ?_ _ | refine blk_drew ?_ | refine blk_alloc ?_ _)); exact BK323.out) hb); have n1_ := Aside0.mk (blk_below (g := gb324) (o := .cells #[.int .i64 a1_0, .int .i64 a1_1] 23 (0, 0)) (by (with_reducible repeat (first | refine blk_drewN ?_ _ | refine blk_drew ?_ | refine blk_alloc ?_ _)); exact BK324.out) hb); have n2_ := Aside0.mk (blk_below (g := gb325) (o := .cells #[.int .i64 a2_0, .int .i64 a2_1] 23 (0, 0)) (by (with_reducible repeat (first | refine blk_drewN ?_ _ | refine blk_drew ?_ | refine blk_alloc ?_ _)); exact BK325.out) hb); have n3_ := Aside0.mk (below_step (by repeat (first | (with_reducible first | exact HB.out | apply below_alloc | apply pw_below_drewN | apply below_drew1 | refine below_set ?_ GE323.out | refine below_set ?_ GE324.out | refine below_set ?_ GE325.out) | exact HB.out)) hb); clear BK323; clear BK324; clear BK325; clear HB; have BK323 := n0_; have BK324 := n1_; have BK325 := n2_; have HB := n3_; clear n0_ n1_ n2_ n3_; (try clear hb); (try clear hb2); (try clear hk); (try clear hi)))
              go_ret
              exact ⟨by first | rfl | (simp [errW_none, errW_some] <;> rfl) | (simp [*, errW_none, errW_some] <;> rfl), by repeat (first | (with_reducible first | exact HB.out | apply below_alloc | apply pw_below_drewN | apply below_drew1 | refine below_set ?_ GE323.out | refine below_set ?_ GE324.out | refine below_set ?_ GE325.out) | exact HB.out)⟩
            · replace c56 := Bool.eq_false_iff.mpr c56
              subst c56
              have H1 : (some false) = some r := by rw [if_neg (show ¬ (false = true) by decide)] at H; exact H
              clear H
              have H := H1
              clear H1
              obtain rfl := Option.some.inj H
              have hnb68 := NB324_323.out
              have hnc68 := NB323_324.out
              have hnb69 := NB324_325.out
              have hnc69 := NB325_324.out
              obtain ⟨hcz70_0, hcz70_1, hfz70_0, hfz70_1⟩ := blk_all2 BK324.out
              have hnb71 := NB325_323.out
              have hnc71 := NB323_325.out
              obtain ⟨hcz72_0, hcz72_1, hfz72_0, hfz72_1⟩ := blk_all2 BK325.out
              go_wp2_with (first | (go_at_call 19; (with_reducible refine (cred_Before.calls a1_0 a1_1 a2_0 a2_1 true _ A53.out).mono ?_); rintro e w73 ⟨rfl, hb⟩; have n0_ := Aside0.mk (blk_below (g := gb323) (o := .cells #[.int .i64 a0_0, .int .i64 a0_1] 23 (0, 0)) (by (with_reducible repeat (first | refine blk_drewN ?_ _ | refine blk_drew ?_ | refine blk_alloc ?_ _)); exact BK323.out) hb); have n1_ := Aside0.mk (blk_below (g := gb324) (o := .cells #[.int .i64 a1_0, .int .i64 a1_1] 23 (0, 0)) (by (with_reducible repeat (first | refine blk_drewN ?_ _ | refine blk_drew ?_ | refine blk_alloc ?_ _)); exact BK324.out) hb); have n2_ := Aside0.mk (blk_below (g := gb325) (o := .cells #[.int .i64 a2_0, .int .i64 a2_1] 23 (0, 0)) (by (with_reducible repeat (first | refine blk_drewN ?_ _ | refine blk_drew ?_ | refine blk_alloc ?_ _)); exact BK325.out) hb); have n3_ := Aside0.mk (below_step (by repeat (first | (with_reducible first | exact HB.out | apply below_alloc | apply pw_below_drewN | apply below_drew1 | refine below_set ?_ GE323.out | refine below_set ?_ GE324.out | refine below_set ?_ GE325.out) | exact HB.out)) hb); clear BK323; clear BK324; clear BK325; clear HB; have BK323 := n0_; have BK324 := n1_; have BK325 := n2_; have HB := n3_; clear n0_ n1_ n2_ n3_; (try clear hb); (try clear hb2); (try clear hk); (try clear hi); obtain ⟨hcz74_0, hcz74_1, hfz74_0, hfz74_1⟩ := blk_all2 BK323.out; obtain ⟨hcz75_0, hcz75_1, hfz75_0, hfz75_1⟩ := blk_all2 BK325.out) | (go_at_call 19; (with_reducible refine (cred_Before.calls a0_0 a0_1 a2_0 a2_1 false _ A55.out).mono ?_); rintro e w76 ⟨rfl, hb⟩; have n0_ := Aside0.mk (blk_below (g := gb323) (o := .cells #[.int .i64 a0_0, .int .i64 a0_1] 23 (0, 0)) (by (with_reducible repeat (first | refine blk_drewN ?_ _ | refine blk_drew ?_ | refine blk_alloc ?_ _)); exact BK323.out) hb); have n1_ := Aside0.mk (blk_below (g := gb324) (o := .cells #[.int .i64 a1_0, .int .i64 a1_1] 23 (0, 0)) (by (with_reducible repeat (first | refine blk_drewN ?_ _ | refine blk_drew ?_ | refine blk_alloc ?_ _)); exact BK324.out) hb); have n2_ := Aside0.mk (blk_below (g := gb325) (o := .cells #[.int .i64 a2_0, .int .i64 a2_1] 23 (0, 0)) (by (with_reducible repeat (first | refine blk_drewN ?_ _ | refine blk_drew ?_ | refine blk_alloc ?_ _)); exact BK325.out) hb); have n3_ := Aside0.mk (below_step (by repeat (first | (with_reducible first | exact HB.out | apply below_alloc | apply pw_below_drewN | apply below_drew1 | refine below_set ?_ GE323.out | refine below_set ?_ GE324.out | refine below_set ?_ GE325.out) | exact HB.out)) hb); clear BK323; clear BK324; clear BK325; clear HB; have BK323 := n0_; have BK324 := n1_; have BK325 := n2_; have HB := n3_; clear n0_ n1_ n2_ n3_; (try clear hb); (try clear hb2); (try clear hk); (try clear hi)))
              go_ret
              exact ⟨by first | rfl | (simp [errW_none, errW_some] <;> rfl) | (simp [*, errW_none, errW_some] <;> rfl), by repeat (first | (with_reducible first | exact HB.out | apply below_alloc | apply pw_below_drewN | apply below_drew1 | refine below_set ?_ GE323.out | refine below_set ?_ GE324.out | refine below_set ?_ GE325.out) | exact HB.out)⟩
          · replace c54 := Bool.eq_false_iff.mpr c54
            subst c54
            have H1 : ((liverylaw05_lives.f kj5).bind fun t332 => (some t332)) = some r := by rw [if_neg (show ¬ (false = true) by decide)] at H; exact H
            clear H
            have H := H1
            clear H1
            replace H := Option.bind_eq_some_iff.mp H
            obtain ⟨t332, A770, H⟩ := H
            replace H : (some t332) = some r := H
            have A77 := Aside0.mk A770
            clear A770
            obtain rfl := Option.some.inj H
            have hnb78 := NB324_323.out
            have hnc78 := NB323_324.out
            have hnb79 := NB324_325.out
            have hnc79 := NB325_324.out
            obtain ⟨hcz80_0, hcz80_1, hfz80_0, hfz80_1⟩ := blk_all2 BK324.out
            have hnb81 := NB325_323.out
            have hnc81 := NB323_325.out
            obtain ⟨hcz82_0, hcz82_1, hfz82_0, hfz82_1⟩ := blk_all2 BK325.out
            go_wp2_with (first | (go_at_call 19; (with_reducible refine (cred_Before.calls a1_0 a1_1 a2_0 a2_1 false _ A53.out).mono ?_); rintro e w83 ⟨rfl, hb⟩; have n0_ := Aside0.mk (blk_below (g := gb323) (o := .cells #[.int .i64 a0_0, .int .i64 a0_1] 23 (0, 0)) (by (with_reducible repeat (first | refine blk_drewN ?_ _ | refine blk_drew ?_ | refine blk_alloc ?_ _)); exact BK323.out) hb); have n1_ := Aside0.mk (blk_below (g := gb324) (o := .cells #[.int .i64 a1_0, .int .i64 a1_1] 23 (0, 0)) (by (with_reducible repeat (first | refine blk_drewN ?_ _ | refine blk_drew ?_ | refine blk_alloc ?_ _)); exact BK324.out) hb); have n2_ := Aside0.mk (blk_below (g := gb325) (o := .cells #[.int .i64 a2_0, .int .i64 a2_1] 23 (0, 0)) (by (with_reducible repeat (first | refine blk_drewN ?_ _ | refine blk_drew ?_ | refine blk_alloc ?_ _)); exact BK325.out) hb); have n3_ := Aside0.mk (below_step (by repeat (first | (with_reducible first | exact HB.out | apply below_alloc | apply pw_below_drewN | apply below_drew1 | refine below_set ?_ GE323.out | refine below_set ?_ GE324.out | refine below_set ?_ GE325.out) | exact HB.out)) hb); clear BK323; clear BK324; clear BK325; clear HB; have BK323 := n0_; have BK324 := n1_; have BK325 := n2_; have HB := n3_; clear n0_ n1_ n2_ n3_; (try clear hb); (try clear hb2); (try clear hk); (try clear hi)) | (go_at_call 15; (with_reducible refine (liverylaw05_lives.calls kj5  t332 _ A77.out).mono ?_); rintro e w84 ⟨rfl, hb⟩; have n0_ := Aside0.mk (blk_below (g := gb323) (o := .cells #[.int .i64 a0_0, .int .i64 a0_1] 23 (0, 0)) (by (with_reducible repeat (first | refine blk_drewN ?_ _ | refine blk_drew ?_ | refine blk_alloc ?_ _)); exact BK323.out) hb); have n1_ := Aside0.mk (blk_below (g := gb324) (o := .cells #[.int .i64 a1_0, .int .i64 a1_1] 23 (0, 0)) (by (with_reducible repeat (first | refine blk_drewN ?_ _ | refine blk_drew ?_ | refine blk_alloc ?_ _)); exact BK324.out) hb); have n2_ := Aside0.mk (blk_below (g := gb325) (o := .cells #[.int .i64 a2_0, .int .i64 a2_1] 23 (0, 0)) (by (with_reducible repeat (first | refine blk_drewN ?_ _ | refine blk_drew ?_ | refine blk_alloc ?_ _)); exact BK325.out) hb); have n3_ := Aside0.mk (below_step (by repeat (first | (with_reducible first | exact HB.out | apply below_alloc | apply pw_below_drewN | apply below_drew1 | refine below_set ?_ GE323.out | refine below_set ?_ GE324.out | refine below_set ?_ GE325.out) | exact HB.out)) hb); clear BK323; clear BK324; clear BK325; clear HB; have BK323 := n0_; have BK324 := n1_; have BK325 := n2_; have HB := n3_; clear n0_ n1_ n2_ n3_; (try clear hb); (try clear hb2); (try clear hk); (try clear hi)))
            go_ret
            exact ⟨by first | rfl | (simp [errW_none, errW_some] <;> rfl) | (simp [*, errW_none, errW_some] <;> rfl), by repeat (first | (with_reducible first | exact HB.out | apply below_alloc | apply pw_below_drewN | apply below_drew1 | refine below_set ?_ GE323.out | refine below_set ?_ GE324.out | refine below_set ?_ GE325.out) | exact HB.out)⟩
        · replace c52 := Bool.eq_false_iff.mpr c52
          subst c52
          have H1 : ((liverylaw05_lives.f kj5).bind fun t333 => (some t333)) = some r := by rw [if_neg (show ¬ (false = true) by decide)] at H; exact H
          clear H
          have H := H1
          clear H1
          replace H := Option.bind_eq_some_iff.mp H
          obtain ⟨t333, A850, H⟩ := H
          replace H : (some t333) = some r := H
          have A85 := Aside0.mk A850
          clear A850
          obtain rfl := Option.some.inj H
          go_wp2_with (first | (go_at_call 15; (with_reducible refine (liverylaw05_lives.calls kj5  t333 _ A85.out).mono ?_); rintro e w86 ⟨rfl, hb⟩; have n0_ := Aside0.mk (blk_below (g := gb323) (o := .cells #[.int .i64 a0_0, .int .i64 a0_1] 23 (0, 0)) (by (with_reducible repeat (first | refine blk_drewN ?_ _ | refine blk_drew ?_ | refine blk_alloc ?_ _)); exact BK323.out) hb); have n1_ := Aside0.mk (blk_below (g := gb324) (o := .cells #[.int .i64 a1_0, .int .i64 a1_1] 23 (0, 0)) (by (with_reducible repeat (first | refine blk_drewN ?_ _ | refine blk_drew ?_ | refine blk_alloc ?_ _)); exact BK324.out) hb); have n2_ := Aside0.mk (blk_below (g := gb325) (o := .cells #[.int .i64 a2_0, .int .i64 a2_1] 23 (0, 0)) (by (with_reducible repeat (first | refine blk_drewN ?_ _ | refine blk_drew ?_ | refine blk_alloc ?_ _)); exact BK325.out) hb); have n3_ := Aside0.mk (below_step (by repeat (first | (with_reducible first | exact HB.out | apply below_alloc | apply pw_below_drewN | apply below_drew1 | refine below_set ?_ GE323.out | refine below_set ?_ GE324.out | refine below_set ?_ GE325.out) | exact HB.out)) hb); clear BK323; clear BK324; clear BK325; clear HB; have BK323 := n0_; have BK324 := n1_; have BK325 := n2_; have HB := n3_; clear n0_ n1_ n2_ n3_; (try clear hb); (try clear hb2); (try clear hk); (try clear hi)))
          go_ret
          exact ⟨by first | rfl | (simp [errW_none, errW_some] <;> rfl) | (simp [*, errW_none, errW_some] <;> rfl), by repeat (first | (with_reducible first | exact HB.out | apply below_alloc | apply pw_below_drewN | apply below_drew1 | refine below_set ?_ GE323.out | refine below_set ?_ GE324.out | refine below_set ?_ GE325.out) | exact HB.out)⟩

/-- THE ONE PURE STATEMENT of liverylaw05_CredOrder. -/
def liverylaw05_CredOrder.Pure : Prop := ∀ (x0 : S23) (x1 : S23) (x2 : S23), q23 x0 → q23 x1 → q23 x2 → ∃ k, liverylaw05_CredOrder.f k x0.f0 x0.f1 x1.f0 x1.f1 x2.f0 x2.f1 = some true
theorem liverylaw05_CredOrder.walk (P : liverylaw05_CredOrder.Pure) (x0 : S23) (x1 : S23) (x2 : S23) (w : World) (w0 : q23 x0) (w1 : q23 x1) (w2 : q23 x2) :
    Calls Tryd.prog 6 #[.agg #[.int .i64 x0.f0, .int .i64 x0.f1], .agg #[.int .i64 x1.f0, .int .i64 x1.f1], .agg #[.int .i64 x2.f0, .int .i64 x2.f1]] w fun e w' => e = .returned (.bool true) ∧ Below w.heap.size w w' := by
  obtain ⟨k, h⟩ := P x0 x1 x2 w0 w1 w2
  refine (liverylaw05_CredOrder.calls k x0.f0 x0.f1 x1.f0 x1.f1 x2.f0 x2.f1 true w  h).mono ?_
  rintro e w' ⟨rfl, hd⟩
  exact ⟨rfl, hd⟩

end Go.Proofs.YtpnmmkoiemeodaaDoor.P
