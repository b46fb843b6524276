/- Written by a program of this session's, for this claim: the functions that the law reaches, their contracts, the law's row. Not trusted: it is checked as any text. -/
import Derived.Test.YtmfmoddaejoekaaP15
import Derived.Test.YtmfmoddaejoekaaHJourF
import Derived.Test.YtmfmoddaejoekaaP12
namespace Go.Proofs.Ytmfmoddaejoekaa.P
open Go.RowKit Go.Proofs.YtmfmoddaejoekaaW.PrintWords Go.Proofs.YtmfmoddaejoekaaW.PrintLast Go.Proofs.YtmfmoddaejoekaaW.PrintMore
attribute [local go_sem] max2_int min2_int max_two min_two max_three min_three max_four min_four   -- for this text's walks alone
set_option linter.unusedVariables false
set_option linter.unusedSimpArgs false

/-! ### liveryref17_Read: function 54 -/
mutual
def liveryref17_Read.l0 : Nat → List Int → List (List Int) → Int → Int → Option ((List (List Int)) × Int × Int)
 | 0, _, _, _, _ => none
 | k + 1, x0, x146000, x146001, x146002 => if x146001 < (x0.length : Int) then (if 0 ≤ x146001 then (if x146001 ≤ (x0.length : Int) then ((some (x0.drop (x146001 : Int).toNat : List Int)).bind fun y146 => (if (y146.length : Int) < 2 then (some (x146000, x146001, 1)) else (if 0 < (y146.length : Int) then (if 1 < (y146.length : Int) then (if (wrap64 ((wrap64 (256 * (wrap64 (rd y146 0)))) + (wrap64 (rd y146 1)))) < 1 then (liveryref17_Read.j1 k x0 y146 (wrap64 ((wrap64 (256 * (wrap64 (rd y146 0)))) + (wrap64 (rd y146 1)))) true x146000 x146001 x146002) else (liveryref17_Read.j1 k x0 y146 (wrap64 ((wrap64 (256 * (wrap64 (rd y146 0)))) + (wrap64 (rd y146 1)))) (decide ((wrap64 ((wrap64 (256 * (wrap64 (rd y146 0)))) + (wrap64 (rd y146 1)))) > 8192)) x146000 x146001 x146002)) else (none)) else (none)))) else (none)) else (none)) else (some (x146000, x146001, x146002))
def liveryref17_Read.j1 : Nat → List Int → List Int → Int → Bool → List (List Int) → Int → Int → Option ((List (List Int)) × Int × Int)
 | 0, _, _, _, _, _, _, _ => none
 | k + 1, x0, x4, x5, x36, x146000, x146001, x146002 => if x36 = true then (some (x146000, x146001, 2)) else (if (x4.length : Int) < (wrap64 (x5 + 4)) then (some (x146000, x146001, 1)) else (if 0 ≤ (wrap64 (x5 + 2)) then (if (wrap64 (x5 + 2)) ≤ (wrap64 (x5 + 4)) then (if (wrap64 (x5 + 4)) ≤ (x4.length : Int) then (if (wrap64 (x5 + 2)) ≤ (x4.length : Int) then ((liveryref15_Sum.f k (x4.take ((wrap64 (x5 + 2)) : Int).toNat)).bind fun t163 => ((liveryref15_Put.f t163).bind fun t164 => ((liveryref01_Same.f k ((x4.take ((wrap64 (x5 + 4)) : Int).toNat).drop ((wrap64 (x5 + 2)) : Int).toNat) t164).bind fun t167 => (if t167 = true then (if 2 ≤ (wrap64 (x5 + 2)) then (if x146000.length < 5864062014805 then (liveryref17_Read.l0 k x0 (x146000 ++ [((x4.take ((wrap64 (x5 + 2)) : Int).toNat).drop 2)]) (wrap64 ((wrap64 (x146001 + x5)) + 4)) x146002) else (none)) else (none)) else (some (x146000, x146001, 2)))))) else (none)) else (none)) else (none)) else (none)))
end
def liveryref17_Read.f (k : Nat) (l0 : List Int) : Option ((List (List Int)) × Int × Int) := liveryref17_Read.l0 k l0 ([] : List (List Int)) 0 0
def liveryref17_Read.T7 : Bool × List (List Nat × List Nat) := (true, [([], []), ([0], [0]), ([1], [1]), ([2], [2]), ([3], [3]), ([], []), ([5], [5]), ([6], [6]), ([7], [7]), ([4, 8], [4, 8]), ([9, 0, 1, 2, 3, 4, 5, 6, 7, 8, 9], [9])])
def liveryref17_Read.B7 : List Nat := [0, 1, 3, 7, 15, 0, 32, 96, 224, 511, 1023]
theorem liveryref17_Read.tab7 : rtab .any (opsOf Try.f54 7) = liveryref17_Read.T7 := by kernel_rfl
theorem liveryref17_Read.bits7 : waitsOk liveryref17_Read.T7.2 liveryref17_Read.B7 = true := by kernel_rfl
def liveryref17_Read.T14 : Bool × List (List Nat × List Nat) := (true, [([], []), ([], []), ([1], [1]), ([], []), ([3], [3]), ([0, 2, 4], [0, 2, 4]), ([], []), ([], []), ([7], [7]), ([6, 8], [6, 8]), ([9], [9]), ([10, 10], [10]), ([5, 11, 11], [5, 11]), ([12, 12, 0, 1, 2, 3, 4, 5, 6, 7, 8, 9, 10, 11, 12], [12])])
def liveryref17_Read.B14 : List Nat := [0, 0, 2, 0, 8, 31, 0, 0, 128, 448, 960, 1984, 4095, 8191]
theorem liveryref17_Read.tab14 : rtab .any (opsOf Try.f54 14) = liveryref17_Read.T14 := by kernel_rfl
theorem liveryref17_Read.bits14 : waitsOk liveryref17_Read.T14.2 liveryref17_Read.B14 = true := by kernel_rfl
def liveryref17_Read.T18 : Bool × List (List Nat × List Nat) := (true, [([], []), ([0], [0]), ([], []), ([], []), ([3], [3]), ([2, 4], [2, 4]), ([5], [5]), ([1, 6], [1, 6]), ([0, 1, 2, 3, 4, 5, 6, 7], []), ([8, 7, 7, 0, 1, 2, 3, 4, 5, 6, 7], [7, 8])])
def liveryref17_Read.B18 : List Nat := [0, 1, 0, 0, 8, 28, 60, 127, 255, 511]
theorem liveryref17_Read.tab18 : rtab .any (opsOf Try.f54 18) = liveryref17_Read.T18 := by kernel_rfl
theorem liveryref17_Read.bits18 : waitsOk liveryref17_Read.T18.2 liveryref17_Read.B18 = true := by kernel_rfl
set_option maxHeartbeats 8000000 in
set_option maxRecDepth 100000 in
theorem liveryref17_Read.calls (k : Nat) (P0_ : Nat → Prop) (A0 : Option Addr) (c0 : Nat) (l0 : List Int) (r1 : List (List Int)) (r2 : Int) (r3 : Int) (w : World) (hs0 : Kd.V (Kd.int .u8) 5 w w.heap.size (fun k_ => P0_ k_) (.slice A0 l0.length c0) l0) (h : liveryref17_Read.f k l0 = some (r1, r2, r3)) :
  Calls Try.prog 54 #[.slice A0 l0.length c0] w fun e w' => ∃ v0_ : Value, e = .returned (.agg #[v0_, .int .i64 r2, .int .i64 r3]) ∧ Kd.N (Kd.slice 5 (Kd.int .u8)) 30 w' w.heap.size (fun k_ => (P0_ k_ ∨ w.heap.size ≤ k_)) v0_ r1 ∧ Below w.heap.size w w' := by
 have hu94 := Try.underlying94
 have HO0 := Aside0.mk (show Kd.V (Kd.int .u8) 5 w w.heap.size (fun k_ => (P0_ k_ ∨ w.heap.size ≤ k_)) (.slice A0 l0.length c0) l0 from Kd.V_mono hs0 (fun k_ hk => .inl hk))
 have HB := Aside0.mk (Below.refl w.heap.size w)
 have H : (liveryref17_Read.l0 k l0 ([] : List (List Int)) 0 0) = some (r1, r2, r3) := h
 clear h
 have H' := Aside0.mk H
 clear H
 go_enter Try.func54, Try.ntmps54
 go_wp2_with (first | ((with_reducible refine gate_dst (N := 2) rfl ?_); refine box_event ?hg (N := 2) ?hd (cs := #[.slice none 0 0, .int .i64 0, .int .i64 0]) (t := 94) ?hr ?_; (case hd => rfl); (case hg => rfl); (case hr => first | (go_simp; done) | (go_simp; rfl)); intro gb144 hg w2 hbox hb; have n0_ := aM (Kd.V_below (Kd.V_elderB (by (with_reducible repeat (first | apply Kd.V_alloc | apply Kd.V_drewN | apply Kd.V_drew)); exact HO0.out) gb144 (Nat.le_of_eq hg.symm)) hb); have n1_ := aM (below_step (by repeat (first | (with_reducible first | exact HB.out | apply below_alloc | apply pw_below_drewN | apply below_drew1) | exact HB.out)) hb); have n2_ := aM (hbox); have n3_ := aM ((by rw [hg]; exact (below_size (by repeat (first | (with_reducible first | exact HB.out | apply below_alloc | apply pw_below_drewN | apply below_drew1) | exact HB.out))) : w.heap.size ≤ gb144)); have n4_ := n3_; clear HO0 HB; have HO0 := n0_; have HB := n1_; have BK144 := n2_; have GW144 := n3_; have GE144 := n4_; clear n0_ n1_ n2_ n3_ n4_; clear hb hbox hg) | ((with_reducible refine gate_dst (N := 3) rfl ?_); refine box_event ?hg (N := 3) ?hd (cs := #[.slice none 0 0, .int .i64 0, .int .i64 0]) (t := 94) ?hr ?_; (case hd => rfl); (case hg => rfl); (case hr => first | (go_simp; done) | (go_simp; rfl)); intro gb145 hg w3 hbox hb; have n0_ := aM (Kd.V_below (Kd.V_elderB (by (with_reducible repeat (first | apply Kd.V_alloc | apply Kd.V_drewN | apply Kd.V_drew)); exact HO0.out) gb145 (Nat.le_of_eq hg.symm)) hb); have n1_ := aM (blk_below (g := gb144) (o := .cells #[.slice none 0 0, .int .i64 0, .int .i64 0] 94 (0, 0)) (by (with_reducible repeat (first | refine bN ?_ _ | refine bD ?_ | refine bA ?_ _)); exact BK144.out) hb); have n2_ := aM (below_step (by repeat (first | (with_reducible first | exact HB.out | apply below_alloc | apply pw_below_drewN | apply below_drew1 | refine below_set ?_ GE144.out) | exact HB.out)) hb); have n3_ := aM (hbox); have n4_ := aM ((by rw [hg]; exact (below_size (by repeat (first | (with_reducible first | exact HB.out | apply below_alloc | apply pw_below_drewN | apply below_drew1 | refine below_set ?_ GE144.out) | exact HB.out))) : w.heap.size ≤ gb145)); have n5_ := n4_; have n6_ := aM ((by rw [hg]; exact Nat.ne_of_lt (blk_lt (g := gb144) (o := .cells #[.slice none 0 0, .int .i64 0, .int .i64 0] 94 (0, 0)) (by (with_reducible repeat (first | refine bN ?_ _ | refine bD ?_ | refine bA ?_ _)); exact BK144.out)) : gb144 ≠ gb145)); have n7_ := aM ((by rw [hg]; exact Nat.ne_of_gt (blk_lt (g := gb144) (o := .cells #[.slice none 0 0, .int .i64 0, .int .i64 0] 94 (0, 0)) (by (with_reducible repeat (first | refine bN ?_ _ | refine bD ?_ | refine bA ?_ _)); exact BK144.out)) : gb145 ≠ gb144)); clear HO0 BK144 HB; have HO0 := n0_; have BK144 := n1_; have HB := n2_; have BK145 := n3_; have GW145 := n4_; have GE145 := n5_; have NB144_145 := n6_; have NB145_144 := n7_; clear n0_ n1_ n2_ n3_ n4_ n5_ n6_ n7_; clear hb hbox hg))
 -- patched13
 (try simp only [Act.put, List.setIfInBounds_toArray, List.set_cons_zero, List.set_cons_succ])
 go_loopg [] k (fun kq w' => ∃ (x145001_1 : Int) (x145002_1 : Int) (x146000_1 : List (List Int)) (x146001_1 : Int) (x146002_1 : Int) (u146000 : Value), Aside0 (liveryref17_Read.l0 kq l0 x146000_1 x146001_1 x146002_1 = some (r1, r2, r3)) ∧ Aside0 (kq ≤ k) ∧ Aside0 (Kd.V (Kd.int .u8) 5 w' w.heap.size (fun k_ => (P0_ k_ ∨ w.heap.size ≤ k_) ∧ some k_ ≠ (u146000 : Value).ownBlock ∧ k_ ≠ gb144 ∧ k_ ≠ gb145) (.slice A0 l0.length c0) l0) ∧ Aside0 (Kd.N (Kd.slice 5 (Kd.int .u8)) 30 w' w.heap.size (fun k_ => (P0_ k_ ∨ w.heap.size ≤ k_) ∧ k_ ≠ gb144 ∧ k_ ≠ gb145) u146000 x146000_1) ∧ Aside0 (w'.heap[gb144]? = some (.cells #[(.slice none 0 0), .int .i64 x145001_1, .int .i64 x145002_1] 94 (0, 0))) ∧ Aside0 (w'.heap[gb145]? = some (.cells #[u146000, .int .i64 x146001_1, .int .i64 x146002_1] 94 (0, 0))) ∧ Aside0 (Below w.heap.size w w'))
 case atStart => exact ⟨(0), (0), (([] : List (List Int))), (0), (0), (.slice none 0 0), H', ⟨Nat.le_refl _⟩, ⟨by (with_reducible repeat (first | apply Kd.V_alloc | apply Kd.V_drewN | apply Kd.V_drew)); exact Kd.V_mono HO0.out (fun _ hk => ⟨hk.1.1, ⟨(by simp [Value.ownBlock]), ⟨hk.1.2, hk.2⟩⟩⟩)⟩, ⟨by first | exact Kd.S_nil _ _ _ _ _ | exact Kd.N_nil _ _ _ _ _ | exact Kd.V_nil _ _ _ _ _ | exact Kd.Q_nil _ _ _ _ _ | exact Kd.R_nil _ _ _ _ _⟩, ⟨by (with_reducible repeat (first | refine bN ?_ _ | refine bD ?_ | refine bA ?_ _)); exact BK144.out⟩, ⟨by (with_reducible repeat (first | refine bN ?_ _ | refine bD ?_ | refine bA ?_ _)); exact BK145.out⟩, ⟨by repeat (first | (with_reducible first | exact HB.out | apply below_alloc | apply pw_below_drewN | apply below_drew1 | refine below_set ?_ GE144.out | refine below_set ?_ GE145.out) | exact HB.out)⟩⟩
 case round =>
  clear H'
  try clear p2
  obtain ⟨x145001_1, x145002_1, x146000_1, x146001_1, x146002_1, u146000, HA, HK1, HO_0, HO_146000, BK144, BK145, HB⟩ := hrel
  cases gk with
  | zero => exact absurd HA.out (by simp [liveryref17_Read.l0])
  | succ k1 =>
   have H := HA.out
   clear HA
   simp only [liveryref17_Read.l0] at H
   by_cases c4 : x146001_1 < (l0.length : Int)
   ·rw [if_pos c4] at H
    have c4b0 : decide (x146001_1 < (l0.length : Int)) = true := decide_eq_true c4
    clear c4
    by_cases c5 : 0 ≤ x146001_1
    ·rw [if_pos c5] at H
     have c5b0 := eq_true c5
     have c5b1 : decide (0 ≤ x146001_1) = true := decide_eq_true c5
     clear c5
     by_cases c6 : x146001_1 ≤ (l0.length : Int)
     ·rw [if_pos c6] at H
      have c6b0 := eq_true c6
      have c6b1 : decide (x146001_1 ≤ (l0.length : Int)) = true := decide_eq_true c6
      clear c6
      obtain ⟨y146, hy146⟩ : ∃ y_ : List Int, y_ = (l0.drop (x146001_1 : Int).toNat) := ⟨_, rfl⟩
      replace H : (if (y146.length : Int) < 2 then (some (x146000_1, x146001_1, 1)) else (if 0 < (y146.length : Int) then (if 1 < (y146.length : Int) then (if (wrap64 ((wrap64 (256 * (wrap64 (rd y146 0)))) + (wrap64 (rd y146 1)))) < 1 then (liveryref17_Read.j1 k1 l0 y146 (wrap64 ((wrap64 (256 * (wrap64 (rd y146 0)))) + (wrap64 (rd y146 1)))) true x146000_1 x146001_1 x146002_1) else (liveryref17_Read.j1 k1 l0 y146 (wrap64 ((wrap64 (256 * (wrap64 (rd y146 0)))) + (wrap64 (rd y146 1)))) (decide ((wrap64 ((wrap64 (256 * (wrap64 (rd y146 0)))) + (wrap64 (rd y146 1)))) > 8192)) x146000_1 x146001_1 x146002_1)) else (none)) else (none))) = some (r1, r2, r3) := by first | (rw [hy146]; with_reducible exact H) | (have H2_ := (Option.bind_some _ _).symm.trans H; rw [hy146]; with_reducible exact H2_) | (have H2_ := (Option.bind_some _ _).symm.trans H; with_reducible exact H2_) | with_reducible exact H | (rw [hy146]; exact H) | exact H
      have Ny146 := Aside0.mk hy146
      clear hy146
      by_cases c7 : (y146.length : Int) < 2
      ·rw [if_pos c7] at H
       have c7b0 : decide ((y146.length : Int) < 2) = true := decide_eq_true c7
       have c7b1 : decide (y146.length < 2) = true := decide_eq_true (by omega)
       clear c7
       simp only [Option.some.injEq, Prod.mk.injEq] at H
       obtain ⟨rfl, rfl, rfl⟩ := H
       have hnb8 := NB145_144.out
       have hnc8 := NB144_145.out
       obtain ⟨hcz9_0, hcz9_1, hcz9_2, hfz9_0, hfz9_1, hfz9_2⟩ := blk_all3 BK145.out
       have q10 : (x146001_1 : Int) ≤ ((l0.length : Int) : Int) := of_decide_eq_true (by first | (with_reducible assumption) | assumption)
       obtain ⟨i010, hi010, _, hsz10, _⟩ := info_parts info5
       have hroom10 : l0.length ≤ c0 := (Kd.V_reads' HO_0.out).2.1
       have hC10 : Kd.F (Kd.int .u8) _ _ A0 l0.length l0 := (Kd.V_at (base := w.heap.size) HO_0.out).2.2
       have q010 : (0 : Int) ≤ (x146001_1 : Int) := of_decide_eq_true (by first | (with_reducible assumption) | assumption)
       have hcut10 := cut_from (P := Try.prog) 30 5 .i64 Try.underlying30 hi010 1 hsz10 A0 l0.length c0 x146001_1 q010 q10
       have hr10 := Kd.F_cut (m := (x146001_1 : Int).toNat) (c := c0) hC10 (by omega) hroom10
       obtain ⟨A10, hA10⟩ : ∃ A1, A1 = (if c0 = (x146001_1 : Int).toNat then A0 else (A0 : Option Addr).map (·.add ((x146001_1 : Int).toNat * 1))) := ⟨_, rfl⟩
       obtain ⟨c10, hc10⟩ : ∃ c1, c1 = c0 - (x146001_1 : Int).toNat := ⟨_, rfl⟩
       have hy10 : y146.length = l0.length - (x146001_1 : Int).toNat := (by rw [Ny146.out, List.length_drop] <;> omega)
       rw [show (l0).drop (x146001_1 : Int).toNat = y146 from Ny146.out.symm] at hr10
       replace hr10 : Kd.F (Kd.int .u8) _ _ A10 y146.length y146 := (by rw [hA10]; exact hr10)
       rw [← hy10, ← hA10, ← hc10] at hcut10
       have HO150 := Aside0.mk (show Kd.V (Kd.int .u8) 5 _ w.heap.size _ (.slice A10 y146.length c10) y146 from Kd.V_mk (by rw [hy10, hc10]; exact Nat.sub_le_sub_right hroom10 _) hr10)
       have HC150 := Aside0.mk (show y146.length ≤ c10 from by rw [hy10, hc10]; exact Nat.sub_le_sub_right hroom10 _)
       clear hr10 hC10 hroom10 hi010 hsz10 hc10
       have KY10 := Aside0.mk hy10
       have KA10 := Aside0.mk hA10
       clear hy10 hA10
       replace q10 := eq_true q10
       obtain ⟨Ao11, co11, eo11⟩ := Kd.N_slice HO_146000.out
       subst eo11
       obtain ⟨hcz12_0, hcz12_1, hcz12_2, hfz12_0, hfz12_1, hfz12_2⟩ := blk_all3 BK144.out
       go_wp2
       refine bodyPost_ret (results_cell_row rfl _ _ gb144 94 #[.slice Ao11 x146000_1.length co11, .int .i64 x146001_1, .int .i64 1] (0, 0) _ rfl (by (with_reducible repeat (first | refine bN ?_ _ | refine bD ?_ | refine bA ?_ _)); refine blk_put (cs := #[.slice Ao11 x146000_1.length co11, .int .i64 x146001_1, .int .i64 x145002_1]) ?_ 2 _ rfl; (with_reducible repeat (first | refine bN ?_ _ | refine bD ?_ | refine bA ?_ _)); refine blk_put (cs := #[.slice Ao11 x146000_1.length co11, .int .i64 x145001_1, .int .i64 x145002_1]) ?_ 1 _ rfl; (with_reducible repeat (first | refine bN ?_ _ | refine bD ?_ | refine bA ?_ _)); refine blk_put (cs := #[.slice none 0 0, .int .i64 x145001_1, .int .i64 x145002_1]) ?_ 0 _ rfl; (with_reducible repeat (first | refine bN ?_ _ | refine bD ?_ | refine bA ?_ _)); refine blk_far ?_ NB144_145.out _; (with_reducible repeat (first | refine bN ?_ _ | refine bD ?_ | refine bA ?_ _)); exact BK144.out) Try.underlying94 rfl (by kernel_rfl)) rfl ?_
       exact ⟨_, by first | rfl | (simp [errW_none, errW_some] <;> rfl) | (simp [*, errW_none, errW_some] <;> rfl), by (with_reducible repeat (first | apply Kd.N_alloc | apply Kd.N_drewN | apply Kd.N_drew)); exact Kd.N_mono (Kd.N_far (p := ⟨gb144, 2, none⟩) (Kd.N_far (p := ⟨gb144, 1, none⟩) (Kd.N_far (p := ⟨gb144, 0, none⟩) (Kd.N_far (p := ⟨gb145, 2, none⟩) (Kd.N_mono (Kd.N_mono HO_146000.out (fun k_ hk => (⟨hk, hk.2.2⟩ : _ ∧ k_ ≠ gb145))) (fun k_ hk => (⟨hk, hk.1.2.1⟩ : _ ∧ k_ ≠ gb144))) (fun _ hk => hk.1.2) (.int .i64 1)) (fun _ hk => hk.2) (.slice Ao11 x146000_1.length co11)) (fun _ hk => hk.2) (.int .i64 x146001_1)) (fun _ hk => hk.2) (.int .i64 1)) (fun _ hk => hk.1.1.1), by repeat (first | (with_reducible first | exact HB.out | apply below_alloc | apply pw_below_drewN | apply below_drew1 | refine below_set ?_ GE144.out | refine below_set ?_ GE145.out) | exact HB.out)⟩
      ·rw [if_neg c7] at H
       have c7b0 : decide ((y146.length : Int) < 2) = false := decide_eq_false c7
       have c7b1 : decide (y146.length < 2) = false := decide_eq_false (by omega)
       clear c7
       by_cases c13 : 0 < (y146.length : Int)
       ·rw [if_pos c13] at H
        have c13b0 : decide (0 < (y146.length : Int)) = true := decide_eq_true c13
        have c13b1 : decide (0 < y146.length) = true := decide_eq_true (by omega)
        clear c13
        by_cases c14 : 1 < (y146.length : Int)
        ·rw [if_pos c14] at H
         have c14b0 : decide (1 < (y146.length : Int)) = true := decide_eq_true c14
         have c14b1 : decide (1 < y146.length) = true := decide_eq_true (by omega)
         clear c14
         have HC15 := Aside0.mk H
         clear H
         have hnb16 := NB145_144.out
         have hnc16 := NB144_145.out
         obtain ⟨hcz17_0, hcz17_1, hcz17_2, hfz17_0, hfz17_1, hfz17_2⟩ := blk_all3 BK145.out
         have q18 : (x146001_1 : Int) ≤ ((l0.length : Int) : Int) := of_decide_eq_true (by first | (with_reducible assumption) | assumption)
         obtain ⟨i018, hi018, _, hsz18, _⟩ := info_parts info5
         have hroom18 : l0.length ≤ c0 := (Kd.V_reads' HO_0.out).2.1
         have hC18 : Kd.F (Kd.int .u8) _ _ A0 l0.length l0 := (Kd.V_at (base := w.heap.size) HO_0.out).2.2
         have q018 : (0 : Int) ≤ (x146001_1 : Int) := of_decide_eq_true (by first | (with_reducible assumption) | assumption)
         have hcut18 := cut_from (P := Try.prog) 30 5 .i64 Try.underlying30 hi018 1 hsz18 A0 l0.length c0 x146001_1 q018 q18
         have hr18 := Kd.F_cut (m := (x146001_1 : Int).toNat) (c := c0) hC18 (by omega) hroom18
         obtain ⟨A18, hA18⟩ : ∃ A1, A1 = (if c0 = (x146001_1 : Int).toNat then A0 else (A0 : Option Addr).map (·.add ((x146001_1 : Int).toNat * 1))) := ⟨_, rfl⟩
         obtain ⟨c18, hc18⟩ : ∃ c1, c1 = c0 - (x146001_1 : Int).toNat := ⟨_, rfl⟩
         have hy18 : y146.length = l0.length - (x146001_1 : Int).toNat := (by rw [Ny146.out, List.length_drop] <;> omega)
         rw [show (l0).drop (x146001_1 : Int).toNat = y146 from Ny146.out.symm] at hr18
         replace hr18 : Kd.F (Kd.int .u8) _ _ A18 y146.length y146 := (by rw [hA18]; exact hr18)
         rw [← hy18, ← hA18, ← hc18] at hcut18
         have HO150 := Aside0.mk (show Kd.V (Kd.int .u8) 5 _ w.heap.size _ (.slice A18 y146.length c18) y146 from Kd.V_mk (by rw [hy18, hc18]; exact Nat.sub_le_sub_right hroom18 _) hr18)
         have HC150 := Aside0.mk (show y146.length ≤ c18 from by rw [hy18, hc18]; exact Nat.sub_le_sub_right hroom18 _)
         clear hr18 hC18 hroom18 hi018 hsz18 hc18
         have KY18 := Aside0.mk hy18
         have KA18 := Aside0.mk hA18
         clear hy18 hA18
         replace q18 := eq_true q18
         try go_wp2
         have n0_ := aM (Kd.V_drew HO_0.out)
         have n1_ := aM (Kd.N_drew HO_146000.out)
         have n2_ := aM (Kd.V_drew HO150.out)
         have n3_ := aM (blk_drew BK144.out)
         have n4_ := aM (blk_drew BK145.out)
         have n5_ := aM (below_drew1 HB.out)
         clear HO_0
         clear HO_146000
         clear HO150
         clear BK144
         clear BK145
         clear HB
         have HO_0 := n0_
         have HO_146000 := n1_
         have HO150 := n2_
         have BK144 := n3_
         have BK145 := n4_
         have HB := n5_
         clear n0_ n1_ n2_ n3_ n4_ n5_
         have p151 : 0 ≤ (0 : Int) := (by omega)
         have q151 : 0 < (y146.length : Int) := of_decide_eq_true (by first | (with_reducible assumption) | assumption)
         obtain ⟨ad151, e151, hx151_0⟩ := Kd.at_int (Kd.V_reads' HO150.out).2.2 0 p151 q151
         cases e151
         have qi151 : (0 < y146.length) = True := eq_true (by omega)
         (try rw [show ((0 : Int)).toNat = 0 from rfl] at hx151_0)
         (try rw [Addr.add_zero'] at hx151_0)
         replace p151 := eq_true p151
         replace q151 := eq_true q151
         have p152 : 0 ≤ (1 : Int) := (by omega)
         have q152 : 1 < (y146.length : Int) := of_decide_eq_true (by first | (with_reducible assumption) | assumption)
         obtain ⟨ad152, e152, hx152_0⟩ := Kd.at_int (Kd.V_reads' HO150.out).2.2 1 p152 q152
         obtain rfl : ad151 = ad152 := (by injection e152)
         (try simp only [show (1 : Int).toNat = 1 from rfl, Nat.reduceMul, Nat.reduceEqDiff, Go.Addr.add, ↓reduceIte] at hx152_0)
         have qi152 : (1 < y146.length) = True := eq_true (by omega)
         (try rw [show ((1 : Int)).toNat = 1 from rfl] at hx152_0)
         replace p152 := eq_true p152
         replace q152 := eq_true q152
         refine start_ (n := 11) (S := fun w' => w'.cell? ad151 = some (.int .u8 (rd y146 0)) ∧ w'.cell? ⟨ad151.block, ad151.off + 1, none⟩ = some (.int .u8 (rd y146 1))) (ds := []) #[false, false, false, false, false, false, false, false, false, false, false] (by kernel_rfl) rfl rfl ⟨hx151_0, hx152_0⟩ (fun hHeld => ?_); refine with_tabW liveryref17_Read.tab7 liveryref17_Read.bits7 (fun HT_ HW_ => ?_)
         generalize wr.drew = w19 at HO_0 HO_146000 HO150 BK144 BK145 HB hx151_0 hx152_0 hHeld ⊢
         refine pure_ (i := 0) (N := some 21) (v := ?_) (a' := ?_) #[true, false, false, false, false, false, false, false, false, false, false] rfl rfl (any_of HT_.out (by kernel_rfl)) (fun _ _ _ h => h) (Or.inl ⟨by rfl, ?_⟩) ?_ ?_
         rotate_left
         ·intro w'
          go_simp
          with_reducible rfl
         rotate_left
         ·simp only [Act.put, List.setIfInBounds_toArray, List.set_cons_zero, List.set_cons_succ, i64_w, i32_w]
          rfl
         refine pure_ (i := 1) (N := some 22) (v := ?_) (a' := ?_) #[true, true, false, false, false, false, false, false, false, false, false] rfl rfl (any_of HT_.out (by kernel_rfl)) (fun _ _ _ h => h) (Or.inl ⟨by rfl, ?_⟩) ?_ ?_
         rotate_left
         ·intro w'
          go_simp
          with_reducible rfl
         rotate_left
         ·simp only [Act.put, List.setIfInBounds_toArray, List.set_cons_zero, List.set_cons_succ, i64_w, i32_w]
          rfl
         refine pure_ (i := 5) (N := some 26) (v := ?_) (a' := ?_) #[true, true, false, false, false, true, false, false, false, false, false] rfl rfl (any_of HT_.out (by kernel_rfl)) (fun _ _ _ h => h) (Or.inl ⟨by rfl, ?_⟩) ?_ ?_
         rotate_left
         ·intro w'
          go_simp
          with_reducible rfl
         rotate_left
         ·simp only [Act.put, List.setIfInBounds_toArray, List.set_cons_zero, List.set_cons_succ, i64_w, i32_w]
          rfl
         refine pure_ (i := 6) (N := some 27) (v := ?_) (a' := ?_) #[true, true, false, false, false, true, true, false, false, false, false] rfl rfl (any_of HT_.out (by kernel_rfl)) (fun _ _ _ h => h) (Or.inl ⟨by rfl, ?_⟩) ?_ ?_
         rotate_left
         ·intro w'
          go_simp
          with_reducible rfl
         rotate_left
         ·simp only [Act.put, List.setIfInBounds_toArray, List.set_cons_zero, List.set_cons_succ, i64_w, i32_w]
          rfl
         refine take_ (i := 2) (N := some 23) (v := ?_) (a' := ?_) #[true, true, true, false, false, true, true, false, false, false, false] rfl rfl (take_ofW HT_.out HW_.out (by kernel_rfl)) (fun _ _ _ h => h) (Or.inl ⟨by rfl, ?_⟩) hHeld ?_ ?_
         rotate_left
         ·rintro w' ⟨s0, s1⟩
          go_simp
          with_reducible rfl
         rotate_left
         ·simp only [Act.put, List.setIfInBounds_toArray, List.set_cons_zero, List.set_cons_succ, i64_w, i32_w]
          rfl
         refine pure_ (i := 3) (N := some 24) (v := ?_) (a' := ?_) #[true, true, true, true, false, true, true, false, false, false, false] rfl rfl (any_of HT_.out (by kernel_rfl)) (fun _ _ _ h => h) (Or.inl ⟨by rfl, ?_⟩) ?_ ?_
         rotate_left
         ·intro w'
          go_simp
          with_reducible rfl
         rotate_left
         ·simp only [Act.put, List.setIfInBounds_toArray, List.set_cons_zero, List.set_cons_succ, i64_w, i32_w]
          rfl
         refine pure_ (i := 4) (N := some 25) (v := ?_) (a' := ?_) #[true, true, true, true, true, true, true, false, false, false, false] rfl rfl (any_of HT_.out (by kernel_rfl)) (fun _ _ _ h => h) (Or.inl ⟨by rfl, ?_⟩) ?_ ?_
         rotate_left
         ·intro w'
          go_simp
          with_reducible rfl
         rotate_left
         ·simp only [Act.put, List.setIfInBounds_toArray, List.set_cons_zero, List.set_cons_succ, i64_w, i32_w]
          rfl
         refine take_ (i := 7) (N := some 28) (v := ?_) (a' := ?_) #[true, true, true, true, true, true, true, true, false, false, false] rfl rfl (take_ofW HT_.out HW_.out (by kernel_rfl)) (fun _ _ _ h => h) (Or.inl ⟨by rfl, ?_⟩) hHeld ?_ ?_
         rotate_left
         ·rintro w' ⟨s0, s1⟩
          go_simp
          with_reducible rfl
         rotate_left
         ·simp only [Act.put, List.setIfInBounds_toArray, List.set_cons_zero, List.set_cons_succ, i64_w, i32_w]
          rfl
         refine pure_ (i := 8) (N := some 29) (v := ?_) (a' := ?_) #[true, true, true, true, true, true, true, true, true, false, false] rfl rfl (any_of HT_.out (by kernel_rfl)) (fun _ _ _ h => h) (Or.inl ⟨by rfl, ?_⟩) ?_ ?_
         rotate_left
         ·intro w'
          go_simp
          with_reducible rfl
         rotate_left
         ·simp only [Act.put, List.setIfInBounds_toArray, List.set_cons_zero, List.set_cons_succ, i64_w, i32_w]
          rfl
         refine pure_ (i := 9) (N := some 30) (v := ?_) (a' := ?_) #[true, true, true, true, true, true, true, true, true, true, false] rfl rfl (any_of HT_.out (by kernel_rfl)) (fun _ _ _ h => h) (Or.inl ⟨by rfl, ?_⟩) ?_ ?_
         rotate_left
         ·intro w'
          go_simp
          with_reducible rfl
         rotate_left
         ·simp only [Act.put, List.setIfInBounds_toArray, List.set_cons_zero, List.set_cons_succ, i64_w, i32_w]
          rfl
         refine pure_ (i := 10) (N := some 5) (v := ?_) (a' := ?_) #[true, true, true, true, true, true, true, true, true, true, true] rfl rfl (any_of HT_.out (by kernel_rfl)) (fun _ _ _ h => h) (Or.inl ⟨by rfl, ?_⟩) ?_ ?_
         rotate_left
         ·intro w'
          go_simp
          with_reducible rfl
         rotate_left
         ·simp only [Act.put, List.setIfInBounds_toArray, List.set_cons_zero, List.set_cons_succ, i64_w, i32_w]
          rfl
         refine done_ (done_of HT_.out (by kernel_rfl)) ?_
         go_upto_region 8 with (fail)
         go_cut [36] (fun v36 wc => ∃ (kq : Nat) (x36_14 : Bool), v36 = .bool x36_14 ∧ Aside0 (liveryref17_Read.j1 kq l0 y146 (wrap64 ((wrap64 (256 * (wrap64 (rd y146 0)))) + (wrap64 (rd y146 1)))) x36_14 x146000_1 x146001_1 x146002_1 = some (r1, r2, r3)) ∧ Aside0 (kq ≤ k1) ∧ Aside0 (Kd.V (Kd.int .u8) 5 wc w.heap.size (fun k_ => (P0_ k_ ∨ w.heap.size ≤ k_) ∧ some k_ ≠ (u146000 : Value).ownBlock ∧ k_ ≠ gb144 ∧ k_ ≠ gb145) (.slice A0 l0.length c0) l0) ∧ Aside0 (Kd.V (Kd.int .u8) 5 wc w.heap.size (fun k_ => (P0_ k_ ∨ w.heap.size ≤ k_) ∧ some k_ ≠ (u146000 : Value).ownBlock ∧ k_ ≠ gb144 ∧ k_ ≠ gb145) (.slice (some ad151) y146.length c18) y146) ∧ Aside0 (Kd.N (Kd.slice 5 (Kd.int .u8)) 30 wc w.heap.size (fun k_ => (P0_ k_ ∨ w.heap.size ≤ k_) ∧ k_ ≠ gb144 ∧ k_ ≠ gb145) u146000 x146000_1) ∧ Aside0 (wc.heap[gb144]? = some (.cells #[(.slice none 0 0), .int .i64 x145001_1, .int .i64 x145002_1] 94 (0, 0))) ∧ Aside0 (wc.heap[gb145]? = some (.cells #[u146000, .int .i64 x146001_1, .int .i64 x146002_1] 94 (0, 0))) ∧ Aside0 (Below w.heap.size w wc))
         case first =>
          have H := HC15.out
          clear HC15
          by_cases c20 : (wrap64 ((wrap64 (256 * (wrap64 (rd y146 0)))) + (wrap64 (rd y146 1)))) < 1
          ·rw [if_pos c20] at H
           have c20b0 : decide ((wrap64 ((wrap64 (256 * (wrap64 (rd y146 0)))) + (wrap64 (rd y146 1)))) < 1) = true := decide_eq_true c20
           clear c20
           (first | rw [c20b0] | (simp only [i64_w, i32_w]; rw [c20b0]) | skip)
           have H' := Aside0.mk H
           clear H
           go_wp2
           go_meet
           case rel => exact ⟨_, (true), (by first | rfl | (simp; done) | (simp [*]; done)), H', ⟨by have := HK1.out; first | omega | exact Nat.le_refl _⟩, ⟨by (with_reducible repeat (first | apply Kd.V_alloc | apply Kd.V_drewN | apply Kd.V_drew)); exact HO_0.out⟩, ⟨by (with_reducible repeat (first | apply Kd.V_alloc | apply Kd.V_drewN | apply Kd.V_drew)); exact HO150.out⟩, ⟨by (with_reducible repeat (first | apply Kd.N_alloc | apply Kd.N_drewN | apply Kd.N_drew)); exact HO_146000.out⟩, ⟨by (with_reducible repeat (first | refine bN ?_ _ | refine bD ?_ | refine bA ?_ _)); exact BK144.out⟩, ⟨by (with_reducible repeat (first | refine bN ?_ _ | refine bD ?_ | refine bA ?_ _)); exact BK145.out⟩, ⟨by repeat (first | (with_reducible first | exact HB.out | apply below_alloc | apply pw_below_drewN | apply below_drew1 | refine below_set ?_ GE144.out | refine below_set ?_ GE145.out) | exact HB.out)⟩⟩
          ·rw [if_neg c20] at H
           have c20b0 : decide ((wrap64 ((wrap64 (256 * (wrap64 (rd y146 0)))) + (wrap64 (rd y146 1)))) < 1) = false := decide_eq_false c20
           clear c20
           (first | rw [c20b0] | (simp only [i64_w, i32_w]; rw [c20b0]) | skip)
           have H' := Aside0.mk H
           clear H
           go_wp2
           go_meet
           case rel => exact ⟨_, (decide ((wrap64 ((wrap64 (256 * (wrap64 (rd y146 0)))) + (wrap64 (rd y146 1)))) > 8192)), (by first | rfl | (simp; done) | (simp [*]; done)), H', ⟨by have := HK1.out; first | omega | exact Nat.le_refl _⟩, ⟨by (with_reducible repeat (first | apply Kd.V_alloc | apply Kd.V_drewN | apply Kd.V_drew)); exact HO_0.out⟩, ⟨by (with_reducible repeat (first | apply Kd.V_alloc | apply Kd.V_drewN | apply Kd.V_drew)); exact HO150.out⟩, ⟨by (with_reducible repeat (first | apply Kd.N_alloc | apply Kd.N_drewN | apply Kd.N_drew)); exact HO_146000.out⟩, ⟨by (with_reducible repeat (first | refine bN ?_ _ | refine bD ?_ | refine bA ?_ _)); exact BK144.out⟩, ⟨by (with_reducible repeat (first | refine bN ?_ _ | refine bD ?_ | refine bA ?_ _)); exact BK145.out⟩, ⟨by repeat (first | (with_reducible first | exact HB.out | apply below_alloc | apply pw_below_drewN | apply below_drew1 | refine below_set ?_ GE144.out | refine below_set ?_ GE145.out) | exact HB.out)⟩⟩
         case rest =>
          clear HC15
          try clear c1
          try clear p1
          try clear q1
          try clear hx1
          try clear qi1
          try clear c2
          try clear p2
          try clear c4
          try clear c4b0
          try clear c5
          try clear c5b0
          try clear c5b1
          try clear c6
          try clear c6b0
          try clear c6b1
          try clear p6
          try clear c7
          try clear c7b0
          try clear c7b1
          try clear c8
          try clear c10
          try clear q10
          try clear c13
          try clear c13b0
          try clear c13b1
          try clear c14
          try clear c14b0
          try clear c14b1
          try clear p15
          try clear q15
          try clear hx15
          try clear qi15
          try clear c16
          try clear c18
          try clear q18
          try clear c20
          try clear c20b0
          try clear hcz12_0
          try clear hcz12_1
          try clear hcz12_2
          try clear hcz17_0
          try clear hcz17_1
          try clear hcz17_2
          try clear hcz9_0
          try clear hcz9_1
          try clear hcz9_2
          try clear hfz12_0
          try clear hfz12_1
          try clear hfz12_2
          try clear hfz17_0
          try clear hfz17_1
          try clear hfz17_2
          try clear hfz9_0
          try clear hfz9_1
          try clear hfz9_2
          try clear hx151_0
          try clear hx152_0
          try clear p151
          try clear p152
          try clear p2
          try clear q010
          try clear q018
          try clear q10
          try clear q151
          try clear q152
          try clear q18
          obtain ⟨kq, x36_14, rfl, HA, HJ14, HO_0, HO_4, HO_146000, BK144, BK145, HB⟩ := hcut
          cases kq with
          | zero => exact absurd HA.out (by simp [liveryref17_Read.j1])
          | succ kj14 =>
           have H := HA.out
           clear HA
           simp only [liveryref17_Read.j1] at H
           by_cases c21 : x36_14 = true
           ·subst c21
            have H1 : (some (x146000_1, x146001_1, 2)) = some (r1, r2, r3) := by rw [if_pos rfl] at H; exact H
            clear H
            have H := H1
            clear H1
            simp only [Option.some.injEq, Prod.mk.injEq] at H
            obtain ⟨rfl, rfl, rfl⟩ := H
            have hnb22 := NB145_144.out
            have hnc22 := NB144_145.out
            obtain ⟨hcz23_0, hcz23_1, hcz23_2, hfz23_0, hfz23_1, hfz23_2⟩ := blk_all3 BK145.out
            obtain ⟨Ao24, co24, eo24⟩ := Kd.N_slice HO_146000.out
            subst eo24
            obtain ⟨hcz25_0, hcz25_1, hcz25_2, hfz25_0, hfz25_1, hfz25_2⟩ := blk_all3 BK144.out
            go_wp2
            refine bodyPost_ret (results_cell_row rfl _ _ gb144 94 #[.slice Ao24 x146000_1.length co24, .int .i64 x146001_1, .int .i64 2] (0, 0) _ rfl (by (with_reducible repeat (first | refine bN ?_ _ | refine bD ?_ | refine bA ?_ _)); refine blk_put (cs := #[.slice Ao24 x146000_1.length co24, .int .i64 x146001_1, .int .i64 x145002_1]) ?_ 2 _ rfl; (with_reducible repeat (first | refine bN ?_ _ | refine bD ?_ | refine bA ?_ _)); refine blk_put (cs := #[.slice Ao24 x146000_1.length co24, .int .i64 x145001_1, .int .i64 x145002_1]) ?_ 1 _ rfl; (with_reducible repeat (first | refine bN ?_ _ | refine bD ?_ | refine bA ?_ _)); refine blk_put (cs := #[.slice none 0 0, .int .i64 x145001_1, .int .i64 x145002_1]) ?_ 0 _ rfl; (with_reducible repeat (first | refine bN ?_ _ | refine bD ?_ | refine bA ?_ _)); refine blk_far ?_ NB144_145.out _; (with_reducible repeat (first | refine bN ?_ _ | refine bD ?_ | refine bA ?_ _)); exact BK144.out) Try.underlying94 rfl (by kernel_rfl)) rfl ?_
            exact ⟨_, by first | rfl | (simp [errW_none, errW_some] <;> rfl) | (simp [*, errW_none, errW_some] <;> rfl), by (with_reducible repeat (first | apply Kd.N_alloc | apply Kd.N_drewN | apply Kd.N_drew)); exact Kd.N_mono (Kd.N_far (p := ⟨gb144, 2, none⟩) (Kd.N_far (p := ⟨gb144, 1, none⟩) (Kd.N_far (p := ⟨gb144, 0, none⟩) (Kd.N_far (p := ⟨gb145, 2, none⟩) (Kd.N_mono (Kd.N_mono HO_146000.out (fun k_ hk => (⟨hk, hk.2.2⟩ : _ ∧ k_ ≠ gb145))) (fun k_ hk => (⟨hk, hk.1.2.1⟩ : _ ∧ k_ ≠ gb144))) (fun _ hk => hk.1.2) (.int .i64 2)) (fun _ hk => hk.2) (.slice Ao24 x146000_1.length co24)) (fun _ hk => hk.2) (.int .i64 x146001_1)) (fun _ hk => hk.2) (.int .i64 2)) (fun _ hk => hk.1.1.1), by repeat (first | (with_reducible first | exact HB.out | apply below_alloc | apply pw_below_drewN | apply below_drew1 | refine below_set ?_ GE144.out | refine below_set ?_ GE145.out) | exact HB.out)⟩
           ·replace c21 := Bool.eq_false_iff.mpr c21
            subst c21
            have H1 : (if (y146.length : Int) < (wrap64 ((wrap64 ((wrap64 (256 * (wrap64 (rd y146 0)))) + (wrap64 (rd y146 1)))) + 4)) then (some (x146000_1, x146001_1, 1)) else (if 0 ≤ (wrap64 ((wrap64 ((wrap64 (256 * (wrap64 (rd y146 0)))) + (wrap64 (rd y146 1)))) + 2)) then (if (wrap64 ((wrap64 ((wrap64 (256 * (wrap64 (rd y146 0)))) + (wrap64 (rd y146 1)))) + 2)) ≤ (wrap64 ((wrap64 ((wrap64 (256 * (wrap64 (rd y146 0)))) + (wrap64 (rd y146 1)))) + 4)) then (if (wrap64 ((wrap64 ((wrap64 (256 * (wrap64 (rd y146 0)))) + (wrap64 (rd y146 1)))) + 4)) ≤ (y146.length : Int) then (if (wrap64 ((wrap64 ((wrap64 (256 * (wrap64 (rd y146 0)))) + (wrap64 (rd y146 1)))) + 2)) ≤ (y146.length : Int) then ((liveryref15_Sum.f kj14 (y146.take ((wrap64 ((wrap64 ((wrap64 (256 * (wrap64 (rd y146 0)))) + (wrap64 (rd y146 1)))) + 2)) : Int).toNat)).bind fun t163 => ((liveryref15_Put.f t163).bind fun t164 => ((liveryref01_Same.f kj14 ((y146.take ((wrap64 ((wrap64 ((wrap64 (256 * (wrap64 (rd y146 0)))) + (wrap64 (rd y146 1)))) + 4)) : Int).toNat).drop ((wrap64 ((wrap64 ((wrap64 (256 * (wrap64 (rd y146 0)))) + (wrap64 (rd y146 1)))) + 2)) : Int).toNat) t164).bind fun t167 => (if t167 = true then (if 2 ≤ (wrap64 ((wrap64 ((wrap64 (256 * (wrap64 (rd y146 0)))) + (wrap64 (rd y146 1)))) + 2)) then (if x146000_1.length < 5864062014805 then (liveryref17_Read.l0 kj14 l0 (x146000_1 ++ [((y146.take ((wrap64 ((wrap64 ((wrap64 (256 * (wrap64 (rd y146 0)))) + (wrap64 (rd y146 1)))) + 2)) : Int).toNat).drop 2)]) (wrap64 ((wrap64 (x146001_1 + (wrap64 ((wrap64 (256 * (wrap64 (rd y146 0)))) + (wrap64 (rd y146 1)))))) + 4)) x146002_1) else (none)) else (none)) else (some (x146000_1, x146001_1, 2)))))) else (none)) else (none)) else (none)) else (none))) = some (r1, r2, r3) := by rw [if_neg (show ¬ (false = true) by decide)] at H; exact H
            clear H
            have H := H1
            clear H1
            by_cases c26 : (y146.length : Int) < (wrap64 ((wrap64 ((wrap64 (256 * (wrap64 (rd y146 0)))) + (wrap64 (rd y146 1)))) + 4))
            ·rw [if_pos c26] at H
             have c26b0 : decide ((y146.length : Int) < (wrap64 ((wrap64 ((wrap64 (256 * (wrap64 (rd y146 0)))) + (wrap64 (rd y146 1)))) + 4))) = true := decide_eq_true c26
             clear c26
             simp only [Option.some.injEq, Prod.mk.injEq] at H
             obtain ⟨rfl, rfl, rfl⟩ := H
             have hnb27 := NB145_144.out
             have hnc27 := NB144_145.out
             obtain ⟨hcz28_0, hcz28_1, hcz28_2, hfz28_0, hfz28_1, hfz28_2⟩ := blk_all3 BK145.out
             obtain ⟨Ao29, co29, eo29⟩ := Kd.N_slice HO_146000.out
             subst eo29
             obtain ⟨hcz30_0, hcz30_1, hcz30_2, hfz30_0, hfz30_1, hfz30_2⟩ := blk_all3 BK144.out
             go_wp2
             refine bodyPost_ret (results_cell_row rfl _ _ gb144 94 #[.slice Ao29 x146000_1.length co29, .int .i64 x146001_1, .int .i64 1] (0, 0) _ rfl (by (with_reducible repeat (first | refine bN ?_ _ | refine bD ?_ | refine bA ?_ _)); refine blk_put (cs := #[.slice Ao29 x146000_1.length co29, .int .i64 x146001_1, .int .i64 x145002_1]) ?_ 2 _ rfl; (with_reducible repeat (first | refine bN ?_ _ | refine bD ?_ | refine bA ?_ _)); refine blk_put (cs := #[.slice Ao29 x146000_1.length co29, .int .i64 x145001_1, .int .i64 x145002_1]) ?_ 1 _ rfl; (with_reducible repeat (first | refine bN ?_ _ | refine bD ?_ | refine bA ?_ _)); refine blk_put (cs := #[.slice none 0 0, .int .i64 x145001_1, .int .i64 x145002_1]) ?_ 0 _ rfl; (with_reducible repeat (first | refine bN ?_ _ | refine bD ?_ | refine bA ?_ _)); refine blk_far ?_ NB144_145.out _; (with_reducible repeat (first | refine bN ?_ _ | refine bD ?_ | refine bA ?_ _)); exact BK144.out) Try.underlying94 rfl (by kernel_rfl)) rfl ?_
             exact ⟨_, by first | rfl | (simp [errW_none, errW_some] <;> rfl) | (simp [*, errW_none, errW_some] <;> rfl), by (with_reducible repeat (first | apply Kd.N_alloc | apply Kd.N_drewN | apply Kd.N_drew)); exact Kd.N_mono (Kd.N_far (p := ⟨gb144, 2, none⟩) (Kd.N_far (p := ⟨gb144, 1, none⟩) (Kd.N_far (p := ⟨gb144, 0, none⟩) (Kd.N_far (p := ⟨gb145, 2, none⟩) (Kd.N_mono (Kd.N_mono HO_146000.out (fun k_ hk => (⟨hk, hk.2.2⟩ : _ ∧ k_ ≠ gb145))) (fun k_ hk => (⟨hk, hk.1.2.1⟩ : _ ∧ k_ ≠ gb144))) (fun _ hk => hk.1.2) (.int .i64 1)) (fun _ hk => hk.2) (.slice Ao29 x146000_1.length co29)) (fun _ hk => hk.2) (.int .i64 x146001_1)) (fun _ hk => hk.2) (.int .i64 1)) (fun _ hk => hk.1.1.1), by repeat (first | (with_reducible first | exact HB.out | apply below_alloc | apply pw_below_drewN | apply below_drew1 | refine below_set ?_ GE144.out | refine below_set ?_ GE145.out) | exact HB.out)⟩
            ·rw [if_neg c26] at H
             have c26b0 : decide ((y146.length : Int) < (wrap64 ((wrap64 ((wrap64 (256 * (wrap64 (rd y146 0)))) + (wrap64 (rd y146 1)))) + 4))) = false := decide_eq_false c26
             clear c26
             obtain ⟨ji31, hji31⟩ : ∃ j_ : Int, (wrap64 ((wrap64 ((wrap64 (256 * (wrap64 (rd y146 0)))) + (wrap64 (rd y146 1)))) + 2)) = j_ := ⟨_, rfl⟩
             replace H : (if 0 ≤ (ji31) then (if (ji31) ≤ (wrap64 ((wrap64 ((wrap64 (256 * (wrap64 (rd y146 0)))) + (wrap64 (rd y146 1)))) + 4)) then (if (wrap64 ((wrap64 ((wrap64 (256 * (wrap64 (rd y146 0)))) + (wrap64 (rd y146 1)))) + 4)) ≤ (y146.length : Int) then (if (ji31) ≤ (y146.length : Int) then ((liveryref15_Sum.f kj14 (y146.take ((ji31) : Int).toNat)).bind fun t163 => ((liveryref15_Put.f t163).bind fun t164 => ((liveryref01_Same.f kj14 ((y146.take ((wrap64 ((wrap64 ((wrap64 (256 * (wrap64 (rd y146 0)))) + (wrap64 (rd y146 1)))) + 4)) : Int).toNat).drop ((ji31) : Int).toNat) t164).bind fun t167 => (if t167 = true then (if 2 ≤ (ji31) then (if x146000_1.length < 5864062014805 then (liveryref17_Read.l0 kj14 l0 (x146000_1 ++ [((y146.take ((ji31) : Int).toNat).drop 2)]) (wrap64 ((wrap64 (x146001_1 + (wrap64 ((wrap64 (256 * (wrap64 (rd y146 0)))) + (wrap64 (rd y146 1)))))) + 4)) x146002_1) else (none)) else (none)) else (some (x146000_1, x146001_1, 2)))))) else (none)) else (none)) else (none)) else (none)) = some (r1, r2, r3) := by first | (rw [hji31] at H; exact H) | (simp only [hji31] at H ⊢; exact H)
             have hji31w : (IntKind.i64.wrap ((wrap64 ((wrap64 (256 * (wrap64 (rd y146 0)))) + (wrap64 (rd y146 1)))) + 2)) = ji31 := (i64_w _).trans hji31
             by_cases c32 : 0 ≤ (ji31)
             ·rw [if_pos c32] at H
              have c32b0 := eq_true c32
              have c32b1 : decide (0 ≤ (ji31)) = true := decide_eq_true c32
              clear c32
              by_cases c33 : (ji31) ≤ (wrap64 ((wrap64 ((wrap64 (256 * (wrap64 (rd y146 0)))) + (wrap64 (rd y146 1)))) + 4))
              ·rw [if_pos c33] at H
               have c33b0 := eq_true c33
               have c33b1 : decide ((ji31) ≤ (wrap64 ((wrap64 ((wrap64 (256 * (wrap64 (rd y146 0)))) + (wrap64 (rd y146 1)))) + 4))) = true := decide_eq_true c33
               by_cases c34 : (wrap64 ((wrap64 ((wrap64 (256 * (wrap64 (rd y146 0)))) + (wrap64 (rd y146 1)))) + 4)) ≤ (y146.length : Int)
               ·rw [if_pos c34] at H
                have c34b0 := eq_true c34
                have c34b1 : decide ((wrap64 ((wrap64 ((wrap64 (256 * (wrap64 (rd y146 0)))) + (wrap64 (rd y146 1)))) + 4)) ≤ (y146.length : Int)) = true := decide_eq_true c34
                obtain ⟨y153, hy153⟩ : ∃ y_ : List Int, y_ = ((y146.take ((wrap64 ((wrap64 ((wrap64 (256 * (wrap64 (rd y146 0)))) + (wrap64 (rd y146 1)))) + 4)) : Int).toNat).drop ((ji31) : Int).toNat) := ⟨_, rfl⟩
                replace H : (if (ji31) ≤ (y146.length : Int) then ((liveryref15_Sum.f kj14 (y146.take ((ji31) : Int).toNat)).bind fun t163 => ((liveryref15_Put.f t163).bind fun t164 => ((liveryref01_Same.f kj14 y153 t164).bind fun t167 => (if t167 = true then (if 2 ≤ (ji31) then (if x146000_1.length < 5864062014805 then (liveryref17_Read.l0 kj14 l0 (x146000_1 ++ [((y146.take ((ji31) : Int).toNat).drop 2)]) (wrap64 ((wrap64 (x146001_1 + (wrap64 ((wrap64 (256 * (wrap64 (rd y146 0)))) + (wrap64 (rd y146 1)))))) + 4)) x146002_1) else (none)) else (none)) else (some (x146000_1, x146001_1, 2)))))) else (none)) = some (r1, r2, r3) := by first | (rw [hy153]; with_reducible exact H) | (have H2_ := (Option.bind_some _ _).symm.trans H; rw [hy153]; with_reducible exact H2_) | (have H2_ := (Option.bind_some _ _).symm.trans H; with_reducible exact H2_) | with_reducible exact H | (rw [hy153]; exact H) | exact H
                have Ny153 := Aside0.mk hy153
                clear hy153
                have c35b0 := eq_true (of_decide_eq_true (by first | (with_reducible assumption) | assumption) : 0 ≤ (ji31))
                by_cases c36 : (ji31) ≤ (y146.length : Int)
                ·rw [if_pos c36] at H
                 have c36b0 := eq_true c36
                 have c36b1 : decide ((ji31) ≤ (y146.length : Int)) = true := decide_eq_true c36
                 clear c36
                 obtain ⟨y158, hy158⟩ : ∃ y_ : List Int, y_ = (y146.take ((ji31) : Int).toNat) := ⟨_, rfl⟩
                 replace H : ((liveryref15_Sum.f kj14 y158).bind fun t163 => ((liveryref15_Put.f t163).bind fun t164 => ((liveryref01_Same.f kj14 y153 t164).bind fun t167 => (if t167 = true then (if 2 ≤ (ji31) then (if x146000_1.length < 5864062014805 then (liveryref17_Read.l0 kj14 l0 (x146000_1 ++ [((y146.take ((ji31) : Int).toNat).drop 2)]) (wrap64 ((wrap64 (x146001_1 + (wrap64 ((wrap64 (256 * (wrap64 (rd y146 0)))) + (wrap64 (rd y146 1)))))) + 4)) x146002_1) else (none)) else (none)) else (some (x146000_1, x146001_1, 2)))))) = some (r1, r2, r3) := by first | (rw [hy158]; with_reducible exact H) | (have H2_ := (Option.bind_some _ _).symm.trans H; rw [hy158]; with_reducible exact H2_) | (have H2_ := (Option.bind_some _ _).symm.trans H; with_reducible exact H2_) | with_reducible exact H | (rw [hy158]; exact H) | exact H
                 have Ny158 := Aside0.mk hy158
                 clear hy158
                 replace H := Option.bind_eq_some_iff.mp H
                 obtain ⟨t163, A370, H⟩ := H
                 replace H : ((liveryref15_Put.f t163).bind fun t164 => ((liveryref01_Same.f kj14 y153 t164).bind fun t167 => (if t167 = true then (if 2 ≤ (ji31) then (if x146000_1.length < 5864062014805 then (liveryref17_Read.l0 kj14 l0 (x146000_1 ++ [((y146.take ((ji31) : Int).toNat).drop 2)]) (wrap64 ((wrap64 (x146001_1 + (wrap64 ((wrap64 (256 * (wrap64 (rd y146 0)))) + (wrap64 (rd y146 1)))))) + 4)) x146002_1) else (none)) else (none)) else (some (x146000_1, x146001_1, 2))))) = some (r1, r2, r3) := H
                 have A37 := Aside0.mk A370
                 clear A370
                 replace H := Option.bind_eq_some_iff.mp H
                 obtain ⟨t164, A380, H⟩ := H
                 replace H : ((liveryref01_Same.f kj14 y153 t164).bind fun t167 => (if t167 = true then (if 2 ≤ (ji31) then (if x146000_1.length < 5864062014805 then (liveryref17_Read.l0 kj14 l0 (x146000_1 ++ [((y146.take ((ji31) : Int).toNat).drop 2)]) (wrap64 ((wrap64 (x146001_1 + (wrap64 ((wrap64 (256 * (wrap64 (rd y146 0)))) + (wrap64 (rd y146 1)))))) + 4)) x146002_1) else (none)) else (none)) else (some (x146000_1, x146001_1, 2)))) = some (r1, r2, r3) := H
                 have A38 := Aside0.mk A380
                 clear A380
                 replace H := Option.bind_eq_some_iff.mp H
                 obtain ⟨t167, A390, H⟩ := H
                 replace H : (if t167 = true then (if 2 ≤ (ji31) then (if x146000_1.length < 5864062014805 then (liveryref17_Read.l0 kj14 l0 (x146000_1 ++ [((y146.take ((ji31) : Int).toNat).drop 2)]) (wrap64 ((wrap64 (x146001_1 + (wrap64 ((wrap64 (256 * (wrap64 (rd y146 0)))) + (wrap64 (rd y146 1)))))) + 4)) x146002_1) else (none)) else (none)) else (some (x146000_1, x146001_1, 2))) = some (r1, r2, r3) := H
                 have A39 := Aside0.mk A390
                 clear A390
                 by_cases c40 : t167 = true
                 ·subst c40
                  have H1 : (if 2 ≤ (ji31) then (if x146000_1.length < 5864062014805 then (liveryref17_Read.l0 kj14 l0 (x146000_1 ++ [((y146.take ((ji31) : Int).toNat).drop 2)]) (wrap64 ((wrap64 (x146001_1 + (wrap64 ((wrap64 (256 * (wrap64 (rd y146 0)))) + (wrap64 (rd y146 1)))))) + 4)) x146002_1) else (none)) else (none)) = some (r1, r2, r3) := by rw [if_pos rfl] at H; exact H
                  clear H
                  have H := H1
                  clear H1
                  by_cases c41 : 2 ≤ (ji31)
                  ·rw [if_pos c41] at H
                   have c41b0 := eq_true c41
                   have c41b1 : decide (2 ≤ (ji31)) = true := decide_eq_true c41
                   clear c41
                   have c42b0 := eq_true (of_decide_eq_true (by first | (with_reducible assumption) | assumption) : (ji31) ≤ (y146.length : Int))
                   obtain ⟨y168, hy168⟩ : ∃ y_ : List Int, y_ = ((y146.take ((ji31) : Int).toNat).drop 2) := ⟨_, rfl⟩
                   replace H : (if x146000_1.length < 5864062014805 then (liveryref17_Read.l0 kj14 l0 (x146000_1 ++ [y168]) (wrap64 ((wrap64 (x146001_1 + (wrap64 ((wrap64 (256 * (wrap64 (rd y146 0)))) + (wrap64 (rd y146 1)))))) + 4)) x146002_1) else (none)) = some (r1, r2, r3) := by first | (rw [hy168]; with_reducible exact H) | (have H2_ := (Option.bind_some _ _).symm.trans H; rw [hy168]; with_reducible exact H2_) | (have H2_ := (Option.bind_some _ _).symm.trans H; with_reducible exact H2_) | with_reducible exact H | (rw [hy168]; exact H) | exact H
                   have Ny168 := Aside0.mk hy168
                   clear hy168
                   by_cases c43 : x146000_1.length < 5864062014805
                   ·rw [if_pos c43] at H
                    have LMc43 := Aside0.mk c43
                    clear c43
                    obtain ⟨y173, hy173⟩ : ∃ y_ : List (List Int), y_ = (x146000_1 ++ [y168]) := ⟨_, rfl⟩
                    replace H : (liveryref17_Read.l0 kj14 l0 y173 (wrap64 ((wrap64 (x146001_1 + (wrap64 ((wrap64 (256 * (wrap64 (rd y146 0)))) + (wrap64 (rd y146 1)))))) + 4)) x146002_1) = some (r1, r2, r3) := by first | (rw [hy173]; with_reducible exact H) | (have H2_ := (Option.bind_some _ _).symm.trans H; rw [hy173]; with_reducible exact H2_) | (have H2_ := (Option.bind_some _ _).symm.trans H; with_reducible exact H2_) | with_reducible exact H | (rw [hy173]; exact H) | exact H
                    have Ny173 := Aside0.mk hy173
                    clear hy173
                    have H' := Aside0.mk H
                    clear H
                    try go_wp2
                    have n0_ := aM (Kd.V_drew HO_0.out)
                    have n1_ := aM (Kd.V_drew HO_4.out)
                    have n2_ := aM (Kd.N_drew HO_146000.out)
                    have n3_ := aM (blk_drew BK144.out)
                    have n4_ := aM (blk_drew BK145.out)
                    have n5_ := aM (below_drew1 HB.out)
                    clear HO_0
                    clear HO_4
                    clear HO_146000
                    clear BK144
                    clear BK145
                    clear HB
                    have HO_0 := n0_
                    have HO_4 := n1_
                    have HO_146000 := n2_
                    have BK144 := n3_
                    have BK145 := n4_
                    have HB := n5_
                    clear n0_ n1_ n2_ n3_ n4_ n5_
                    have q45 : ((wrap64 ((wrap64 ((wrap64 (256 * (wrap64 (rd y146 0)))) + (wrap64 (rd y146 1)))) + 4)) : Int) ≤ ((y146.length : Int) : Int) := of_decide_eq_true (by first | (with_reducible assumption) | assumption)
                    obtain ⟨i045, hi045, _, hsz45, _⟩ := info_parts info5
                    have hroom45 : y146.length ≤ c18 := (Kd.V_reads' HO_4.out).2.1
                    have hC45 : Kd.F (Kd.int .u8) _ _ (some ad151) y146.length y146 := (Kd.V_at (base := w.heap.size) HO_4.out).2.2
                    have ql45 : ((ji31) : Int) ≤ ((wrap64 ((wrap64 ((wrap64 (256 * (wrap64 (rd y146 0)))) + (wrap64 (rd y146 1)))) + 4)) : Int) := of_decide_eq_true (by first | (with_reducible assumption) | assumption)
                    have q045 : (0 : Int) ≤ ((ji31) : Int) := of_decide_eq_true (by first | (with_reducible assumption) | assumption)
                    have hcut45 := cut_mid (P := Try.prog) 30 5 .i64 .i64 Try.underlying30 hi045 1 hsz45 (some ad151) y146.length c18 (ji31) (wrap64 ((wrap64 ((wrap64 (256 * (wrap64 (rd y146 0)))) + (wrap64 (rd y146 1)))) + 4)) q045 ql45 q45 hroom45
                    have hr45 := Kd.F_mid (lo := ((ji31) : Int).toNat) (hi := ((wrap64 ((wrap64 ((wrap64 (256 * (wrap64 (rd y146 0)))) + (wrap64 (rd y146 1)))) + 4)) : Int).toNat) (c := c18) hC45 (by omega) (by omega) hroom45
                    obtain ⟨A45, hA45⟩ : ∃ A1, A1 = (if c18 = ((ji31) : Int).toNat then (some ad151) else ((some ad151) : Option Addr).map (·.add (((ji31) : Int).toNat * 1))) := ⟨_, rfl⟩
                    obtain ⟨c45, hc45⟩ : ∃ c1, c1 = c18 - ((ji31) : Int).toNat := ⟨_, rfl⟩
                    have hy45 : y153.length = ((wrap64 ((wrap64 ((wrap64 (256 * (wrap64 (rd y146 0)))) + (wrap64 (rd y146 1)))) + 4)) : Int).toNat - ((ji31) : Int).toNat := (by rw [Ny153.out, List.length_drop, List.length_take] <;> omega)
                    rw [show ((y146).take ((wrap64 ((wrap64 ((wrap64 (256 * (wrap64 (rd y146 0)))) + (wrap64 (rd y146 1)))) + 4)) : Int).toNat).drop ((ji31) : Int).toNat = y153 from Ny153.out.symm] at hr45
                    replace hr45 : Kd.F (Kd.int .u8) _ _ A45 y153.length y153 := (by rw [hA45]; exact hr45)
                    rw [← hy45, ← hA45, ← hc45] at hcut45
                    have HO157 := Aside0.mk (show Kd.V (Kd.int .u8) 5 _ w.heap.size _ (.slice A45 y153.length c45) y153 from Kd.V_mk (by rw [hy45, hc45]; exact Nat.sub_le_sub_right (Nat.le_trans (by omega) hroom45) _) hr45)
                    have HC157 := Aside0.mk (show y153.length ≤ c45 from by rw [hy45, hc45]; exact Nat.sub_le_sub_right (Nat.le_trans (by omega) hroom45) _)
                    clear hr45 hC45 hroom45 hi045 hsz45 hc45
                    have KY45 := Aside0.mk hy45
                    have KA45 := Aside0.mk hA45
                    clear hy45 hA45
                    replace q45 := eq_true q45
                    have q46 : ((ji31) : Int) ≤ ((y146.length : Int) : Int) := of_decide_eq_true (by first | (with_reducible assumption) | assumption)
                    obtain ⟨i046, hi046, _, hsz46, _⟩ := info_parts info5
                    have hroom46 : y146.length ≤ c18 := (Kd.V_reads' HO_4.out).2.1
                    have hC46 : Kd.F (Kd.int .u8) _ _ (some ad151) y146.length y146 := (Kd.V_at (base := w.heap.size) HO_4.out).2.2
                    have hcut46 := cut_to (P := Try.prog) 30 5 .i64 Try.underlying30 hi046 (some ad151) y146.length c18 (ji31) (of_decide_eq_true (by first | (with_reducible assumption) | assumption)) q46 hroom46
                    have hr46 := Kd.F_take (m := ((ji31) : Int).toNat) hC46 (by omega)
                    have hy46 : y158.length = ((ji31) : Int).toNat := (by rw [Ny158.out, List.length_take]; omega)
                    rw [← Ny158.out] at hr46
                    rw [← hy46] at hcut46
                    have HO162 := Aside0.mk (show Kd.V (Kd.int .u8) 5 _ w.heap.size _ (.slice (some ad151) y158.length c18) y158 from Kd.V_mk (by omega) hr46)
                    have HC162 := Aside0.mk (show y158.length ≤ c18 from by omega)
                    clear hr46 hC46 hroom46 hi046 hsz46
                    have KY46 := Aside0.mk hy46
                    clear hy46
                    replace q46 := eq_true q46
                    refine start_ (n := 14) (S := fun w' => True) (ds := []) #[false, false, false, false, false, false, false, false, false, false, false, false, false, false] (by kernel_rfl) rfl rfl trivial (fun hHeld => ?_); refine with_tabW liveryref17_Read.tab14 liveryref17_Read.bits14 (fun HT_ HW_ => ?_)
                    generalize wc.drew = w44 at HO_0 HO_4 HO_146000 BK144 BK145 HB HO157 HO162 hHeld ⊢
                    refine pure_ (i := 0) (N := some 46) (v := ?_) (a' := ?_) #[true, false, false, false, false, false, false, false, false, false, false, false, false, false] rfl rfl (any_of HT_.out (by kernel_rfl)) (fun _ _ _ h => h) (Or.inl ⟨by rfl, ?_⟩) ?_ ?_
                    rotate_left
                    ·intro w'
                     go_simp
                     with_reducible rfl
                    rotate_left
                    ·simp only [Act.put, List.setIfInBounds_toArray, List.set_cons_zero, List.set_cons_succ, i64_w, i32_w]
                     rfl
                    refine pure_ (i := 1) (N := some 47) (v := ?_) (a' := ?_) #[true, true, false, false, false, false, false, false, false, false, false, false, false, false] rfl rfl (any_of HT_.out (by kernel_rfl)) (fun _ _ _ h => h) (Or.inl ⟨by rfl, ?_⟩) ?_ ?_
                    rotate_left
                    ·intro w'
                     go_simp
                     with_reducible rfl
                    rotate_left
                    ·simp only [Act.put, List.setIfInBounds_toArray, List.set_cons_zero, List.set_cons_succ, i64_w, i32_w]
                     rfl
                    refine pure_ (i := 2) (N := some 48) (v := ?_) (a' := ?_) #[true, true, true, false, false, false, false, false, false, false, false, false, false, false] rfl rfl (any_of HT_.out (by kernel_rfl)) (fun _ _ _ h => h) (Or.inl ⟨by rfl, ?_⟩) ?_ ?_
                    rotate_left
                    ·intro w'
                     go_simp
                     with_reducible rfl
                    rotate_left
                    ·simp only [Act.put, List.setIfInBounds_toArray, List.set_cons_zero, List.set_cons_succ, i64_w, i32_w]
                     rfl
                    refine pure_ (i := 3) (N := some 49) (v := ?_) (a' := ?_) #[true, true, true, true, false, false, false, false, false, false, false, false, false, false] rfl rfl (any_of HT_.out (by kernel_rfl)) (fun _ _ _ h => h) (Or.inl ⟨by rfl, ?_⟩) ?_ ?_
                    rotate_left
                    ·intro w'
                     go_simp
                     with_reducible rfl
                    rotate_left
                    ·simp only [Act.put, List.setIfInBounds_toArray, List.set_cons_zero, List.set_cons_succ, i64_w, i32_w]
                     rfl
                    refine pure_ (i := 4) (N := some 50) (v := ?_) (a' := ?_) #[true, true, true, true, true, false, false, false, false, false, false, false, false, false] rfl rfl (any_of HT_.out (by kernel_rfl)) (fun _ _ _ h => h) (Or.inl ⟨by rfl, ?_⟩) ?_ ?_
                    rotate_left
                    ·intro w'
                     go_simp
                     with_reducible rfl
                    rotate_left
                    ·simp only [Act.put, List.setIfInBounds_toArray, List.set_cons_zero, List.set_cons_succ, i64_w, i32_w]
                     rfl
                    refine pure_ (i := 5) (N := some 51) (v := ?_) (a' := ?_) #[true, true, true, true, true, true, false, false, false, false, false, false, false, false] rfl rfl (any_of HT_.out (by kernel_rfl)) (fun _ _ _ h => h) (Or.inl ⟨by rfl, ?_⟩) ?_ ?_
                    rotate_left
                    ·intro w'
                     go_simp
                     with_reducible rfl
                    rotate_left
                    ·simp only [Act.put, List.setIfInBounds_toArray, List.set_cons_zero, List.set_cons_succ, i64_w, i32_w]
                     rfl
                    refine pure_ (i := 6) (N := some 52) (v := ?_) (a' := ?_) #[true, true, true, true, true, true, true, false, false, false, false, false, false, false] rfl rfl (any_of HT_.out (by kernel_rfl)) (fun _ _ _ h => h) (Or.inl ⟨by rfl, ?_⟩) ?_ ?_
                    rotate_left
                    ·intro w'
                     go_simp
                     with_reducible rfl
                    rotate_left
                    ·simp only [Act.put, List.setIfInBounds_toArray, List.set_cons_zero, List.set_cons_succ, i64_w, i32_w]
                     rfl
                    refine pure_ (i := 7) (N := some 53) (v := ?_) (a' := ?_) #[true, true, true, true, true, true, true, true, false, false, false, false, false, false] rfl rfl (any_of HT_.out (by kernel_rfl)) (fun _ _ _ h => h) (Or.inl ⟨by rfl, ?_⟩) ?_ ?_
                    rotate_left
                    ·intro w'
                     go_simp
                     with_reducible rfl
                    rotate_left
                    ·simp only [Act.put, List.setIfInBounds_toArray, List.set_cons_zero, List.set_cons_succ, i64_w, i32_w]
                     rfl
                    refine pure_ (i := 8) (N := some 54) (v := ?_) (a' := ?_) #[true, true, true, true, true, true, true, true, true, false, false, false, false, false] rfl rfl (any_of HT_.out (by kernel_rfl)) (fun _ _ _ h => h) (Or.inl ⟨by rfl, ?_⟩) ?_ ?_
                    rotate_left
                    ·intro w'
                     go_simp
                     with_reducible rfl
                    rotate_left
                    ·simp only [Act.put, List.setIfInBounds_toArray, List.set_cons_zero, List.set_cons_succ, i64_w, i32_w]
                     rfl
                    refine pure_ (i := 9) (N := some 55) (v := ?_) (a' := ?_) #[true, true, true, true, true, true, true, true, true, true, false, false, false, false] rfl rfl (any_of HT_.out (by kernel_rfl)) (fun _ _ _ h => h) (Or.inl ⟨by rfl, ?_⟩) ?_ ?_
                    rotate_left
                    ·intro w'
                     go_simp
                     with_reducible rfl
                    rotate_left
                    ·simp only [Act.put, List.setIfInBounds_toArray, List.set_cons_zero, List.set_cons_succ, i64_w, i32_w]
                     rfl
                    refine one_ (i := 10) (N := some 56) #[true, true, true, true, true, true, true, true, true, true, true, false, false, false] rfl rfl (one_of HT_.out (by kernel_rfl)) (by decide) (fun K hK => ?_)
                    refine goes_ Try.func70 (by kernel_rfl) rfl #[.slice (some ad151) y158.length c18] (by rfl) rfl rfl (by (try simp only [mA, mB, mC]); first | done | rfl | (simp only [List.length_drop, List.length_take]; rfl)) ?_
                    with_reducible refine (liveryref15_Sum.calls kj14 _ _ y158 t163 _ ?side1 ?side2 A37.out).mono ?_
                    (case side1 => repeat (first | exact (Kd.V_reads' HO162.out).2.2 | (with_reducible refine Kd.C_alloc ?_ _) | (with_reducible refine Kd.C_drewN ?_ _) | (with_reducible refine Kd.C_drew ?_)))
                    (case side2 => exact (Kd.V_reads' HO162.out).2.1)
                    rintro e w' ⟨rfl, ⟨nd, rfl⟩⟩
                    refine ⟨_, rfl, ?_⟩
                    refine hK.out _ _ trivial (fun hHeld => ?_)
                    clear hK K
                    refine norm_ (a' := ?_) ?_ ?_
                    rotate_left
                    ·show Act.put _ (some 56) _ = _
                     simp only [Act.put, List.setIfInBounds_toArray, List.set_cons_zero, List.set_cons_succ, i64_w, i32_w]
                     rfl
                    refine one_ (i := 11) (N := some 57) #[true, true, true, true, true, true, true, true, true, true, true, true, false, false] rfl rfl (one_of HT_.out (by kernel_rfl)) (by decide) (fun K hK => ?_)
                    refine goes_ Try.func69 (by kernel_rfl) rfl #[.int .i64 t163] (by rfl) rfl rfl (by (try simp only [mA, mB, mC]); first | done | rfl | (simp only [List.length_drop, List.length_take]; rfl)) ?_
                    with_reducible refine (liveryref15_Put.calls t163 t164 _ A38.out).mono ?_
                    rintro e w47 ⟨v165, rfl, ho0, hb⟩
                    refine ⟨_, rfl, ?_⟩
                    have n0_ := aM (Kd.V_elder' (by (with_reducible repeat (first | apply Kd.V_alloc | apply Kd.V_drewN | apply Kd.V_drew)); exact HO_0.out) (Kd.R_base ho0) hb)
                    have n1_ := aM (Kd.V_elder' (by (with_reducible repeat (first | apply Kd.V_alloc | apply Kd.V_drewN | apply Kd.V_drew)); exact HO_4.out) (Kd.R_base ho0) hb)
                    have n2_ := aM (Kd.N_elder' (by (with_reducible repeat (first | apply Kd.N_alloc | apply Kd.N_drewN | apply Kd.N_drew)); exact HO_146000.out) (Kd.R_base ho0) hb)
                    have n3_ := aM (Kd.V_elder' (by (with_reducible repeat (first | apply Kd.V_alloc | apply Kd.V_drewN | apply Kd.V_drew)); exact HO157.out) (Kd.R_base ho0) hb)
                    have n4_ := aM (Kd.V_elder' (by (with_reducible repeat (first | apply Kd.V_alloc | apply Kd.V_drewN | apply Kd.V_drew)); exact HO162.out) (Kd.R_base ho0) hb)
                    have n5_ := aM (Kd.R_lower (Kd.R_newM (M := fun k_ => (w.heap.size ≤ k_)) ho0 (below_size (by repeat (first | (with_reducible first | exact HB.out | apply below_alloc | apply pw_below_drewN | apply below_drew1 | refine below_set ?_ GE144.out | refine below_set ?_ GE145.out) | exact HB.out))) (fun k_ h_ => h_)) (below_size (by repeat (first | (with_reducible first | exact HB.out | apply below_alloc | apply pw_below_drewN | apply below_drew1 | refine below_set ?_ GE144.out | refine below_set ?_ GE145.out) | exact HB.out))))
                    have n6_ := aM (blk_below (g := gb144) (o := .cells #[.slice none 0 0, .int .i64 x145001_1, .int .i64 x145002_1] 94 (0, 0)) (by (with_reducible repeat (first | refine bN ?_ _ | refine bD ?_ | refine bA ?_ _)); exact BK144.out) hb)
                    have n7_ := aM (blk_below (g := gb145) (o := .cells #[u146000, .int .i64 x146001_1, .int .i64 x146002_1] 94 (0, 0)) (by (with_reducible repeat (first | refine bN ?_ _ | refine bD ?_ | refine bA ?_ _)); exact BK145.out) hb)
                    have n8_ := aM (below_step (by repeat (first | (with_reducible first | exact HB.out | apply below_alloc | apply pw_below_drewN | apply below_drew1 | refine below_set ?_ GE144.out | refine below_set ?_ GE145.out) | exact HB.out)) hb)
                    clear HO_0
                    clear HO_4
                    clear HO_146000
                    clear HO157
                    clear HO162
                    clear BK144
                    clear BK145
                    clear HB
                    have HO_0 := n0_
                    have HO_4 := n1_
                    have HO_146000 := n2_
                    have HO157 := n3_
                    have HO162 := n4_
                    have HO166 := n5_
                    have BK144 := n6_
                    have BK145 := n7_
                    have HB := n8_
                    clear n0_ n1_ n2_ n3_ n4_ n5_ n6_ n7_ n8_
                    (try clear hb)
                    (try clear hb2)
                    (try clear hk)
                    (try clear hi)
                    (try clear ho0)
                    obtain ⟨Ao48, co48, eo48⟩ := Kd.R_slice HO166.out
                    (first | subst eo48 | (injection eo48 with f1_ f2_ f3_; have f4_ := f1_.symm; have f5_ := f3_.symm; clear f1_ f2_ f3_; subst f4_; subst f5_))
                    refine hK.out _ _ trivial (fun hHeld => ?_)
                    clear hK K
                    refine norm_ (a' := ?_) ?_ ?_
                    rotate_left
                    ·show Act.put _ (some 57) _ = _
                     simp only [Act.put, List.setIfInBounds_toArray, List.set_cons_zero, List.set_cons_succ, i64_w, i32_w]
                     rfl
                    refine one_ (i := 12) (N := some 58) #[true, true, true, true, true, true, true, true, true, true, true, true, true, false] rfl rfl (one_of HT_.out (by kernel_rfl)) (by decide) (fun K hK => ?_)
                    refine goes_ Try.func45 (by kernel_rfl) rfl #[.slice A45 y153.length c45, .slice Ao48 t164.length co48] (by rfl) rfl rfl (by (try simp only [mA, mB, mC]); first | done | rfl | (simp only [List.length_drop, List.length_take]; rfl)) ?_
                    with_reducible refine (liveryref01_Same.calls kj14 _ _ y153 _ _ t164 true _ ?side1 ?side2 ?side3 ?side4 A39.out).mono ?_
                    (case side1 => repeat (first | exact (Kd.V_reads' HO157.out).2.2 | (with_reducible refine Kd.C_alloc ?_ _) | (with_reducible refine Kd.C_drewN ?_ _) | (with_reducible refine Kd.C_drew ?_)))
                    (case side2 => exact (Kd.V_reads' HO157.out).2.1)
                    (case side3 => repeat (first | exact (Kd.R_reads' HO166.out).2.2 | (with_reducible refine Kd.C_alloc ?_ _) | (with_reducible refine Kd.C_drewN ?_ _) | (with_reducible refine Kd.C_drew ?_)))
                    (case side4 => exact (Kd.R_reads' HO166.out).2.1)
                    rintro e w' ⟨rfl, ⟨nd, rfl⟩⟩
                    refine ⟨_, rfl, ?_⟩
                    refine hK.out _ _ trivial (fun hHeld => ?_)
                    clear hK K
                    refine norm_ (a' := ?_) ?_ ?_
                    rotate_left
                    ·show Act.put _ (some 58) _ = _
                     simp only [Act.put, List.setIfInBounds_toArray, List.set_cons_zero, List.set_cons_succ, i64_w, i32_w]
                     rfl
                    refine pure_ (i := 13) (N := some 6) (v := ?_) (a' := ?_) #[true, true, true, true, true, true, true, true, true, true, true, true, true, true] rfl rfl (any_of HT_.out (by kernel_rfl)) (fun _ _ _ h => h) (Or.inl ⟨by rfl, ?_⟩) ?_ ?_
                    rotate_left
                    ·intro w'
                     go_simp
                     with_reducible rfl
                    rotate_left
                    ·simp only [Act.put, List.setIfInBounds_toArray, List.set_cons_zero, List.set_cons_succ, i64_w, i32_w]
                     rfl
                    refine done_ (done_of HT_.out (by kernel_rfl)) ?_
                    try go_wp2
                    (try (rw [drewN_self w47]; generalize hq_ : World.drewN w47 _ = w47; have n0_ : Aside0 (Kd.V (Kd.int .u8) 5 w47 w.heap.size (fun k_ => (P0_ k_ ∨ w.heap.size ≤ k_) ∧ some k_ ≠ (.slice Ao48 t164.length co48 : Value).ownBlock ∧ some k_ ≠ (u146000 : Value).ownBlock ∧ k_ ≠ gb144 ∧ k_ ≠ gb145) (.slice A45 y153.length c45) y153) := ⟨by rw [← hq_]; exact (by (with_reducible repeat (first | apply Kd.V_alloc | apply Kd.V_drewN | apply Kd.V_drew)); exact Kd.V_mono HO157.out (fun _ hk => ⟨hk.1.1, ⟨hk.2, ⟨hk.1.2.1, ⟨hk.1.2.2.1, hk.1.2.2.2⟩⟩⟩⟩))⟩; have n1_ : Aside0 (Kd.V (Kd.int .u8) 5 w47 w.heap.size (fun k_ => (P0_ k_ ∨ w.heap.size ≤ k_) ∧ some k_ ≠ (.slice Ao48 t164.length co48 : Value).ownBlock ∧ some k_ ≠ (u146000 : Value).ownBlock ∧ k_ ≠ gb144 ∧ k_ ≠ gb145) (.slice (some ad151) y158.length c18) y158) := ⟨by rw [← hq_]; exact (by (with_reducible repeat (first | apply Kd.V_alloc | apply Kd.V_drewN | apply Kd.V_drew)); exact Kd.V_mono HO162.out (fun _ hk => ⟨hk.1.1, ⟨hk.2, ⟨hk.1.2.1, ⟨hk.1.2.2.1, hk.1.2.2.2⟩⟩⟩⟩))⟩; have n2_ : Aside0 (Kd.R (Kd.int .u8) 5 w47 w.heap.size (fun k_ => (w.heap.size ≤ k_)) (.slice Ao48 t164.length co48) t164) := ⟨by rw [← hq_]; exact (by (with_reducible repeat (first | apply Kd.R_alloc | apply Kd.R_drewN | apply Kd.R_drew)); exact Kd.R_mono HO166.out (fun _ hk => hk.1))⟩; have n3_ : Aside0 (Kd.V (Kd.int .u8) 5 w47 w.heap.size (fun k_ => (P0_ k_ ∨ w.heap.size ≤ k_) ∧ some k_ ≠ (.slice Ao48 t164.length co48 : Value).ownBlock ∧ some k_ ≠ (u146000 : Value).ownBlock ∧ k_ ≠ gb144 ∧ k_ ≠ gb145) (.slice A0 l0.length c0) l0) := ⟨by rw [← hq_]; exact (by (with_reducible repeat (first | apply Kd.V_alloc | apply Kd.V_drewN | apply Kd.V_drew)); exact Kd.V_mono HO_0.out (fun _ hk => ⟨hk.1.1, ⟨hk.2, ⟨hk.1.2.1, ⟨hk.1.2.2.1, hk.1.2.2.2⟩⟩⟩⟩))⟩; have n4_ : Aside0 (Kd.N (Kd.slice 5 (Kd.int .u8)) 30 w47 w.heap.size (fun k_ => (P0_ k_ ∨ w.heap.size ≤ k_) ∧ some k_ ≠ (.slice Ao48 t164.length co48 : Value).ownBlock ∧ k_ ≠ gb144 ∧ k_ ≠ gb145) u146000 x146000_1) := ⟨by rw [← hq_]; exact (by (with_reducible repeat (first | apply Kd.N_alloc | apply Kd.N_drewN | apply Kd.N_drew)); exact Kd.N_mono HO_146000.out (fun _ hk => by first | exact ⟨hk.1.1, ⟨hk.2, ⟨hk.1.2.1, hk.1.2.2⟩⟩⟩ | exact hk))⟩; have n5_ : Aside0 (Kd.V (Kd.int .u8) 5 w47 w.heap.size (fun k_ => (P0_ k_ ∨ w.heap.size ≤ k_) ∧ some k_ ≠ (.slice Ao48 t164.length co48 : Value).ownBlock ∧ some k_ ≠ (u146000 : Value).ownBlock ∧ k_ ≠ gb144 ∧ k_ ≠ gb145) (.slice (some ad151) y146.length c18) y146) := ⟨by rw [← hq_]; exact (by (with_reducible repeat (first | apply Kd.V_alloc | apply Kd.V_drewN | apply Kd.V_drew)); exact Kd.V_mono HO_4.out (fun _ hk => ⟨hk.1.1, ⟨hk.2, ⟨hk.1.2.1, ⟨hk.1.2.2.1, hk.1.2.2.2⟩⟩⟩⟩))⟩; have n6_ : Aside0 (w47.heap[gb144]? = some (.cells #[.slice none 0 0, .int .i64 x145001_1, .int .i64 x145002_1] 94 (0, 0))) := ⟨by rw [← hq_]; exact (by (with_reducible repeat (first | refine bN ?_ _ | refine bD ?_ | refine bA ?_ _)); exact BK144.out)⟩; have n7_ : Aside0 (w47.heap[gb145]? = some (.cells #[u146000, .int .i64 x146001_1, .int .i64 x146002_1] 94 (0, 0))) := ⟨by rw [← hq_]; exact (by (with_reducible repeat (first | refine bN ?_ _ | refine bD ?_ | refine bA ?_ _)); exact BK145.out)⟩; have n8_ : Aside0 (Below w.heap.size w w47) := ⟨by rw [← hq_]; exact (by repeat (first | (with_reducible first | exact HB.out | apply below_alloc | apply pw_below_drewN | apply below_drew1 | refine below_set ?_ GE144.out | refine below_set ?_ GE145.out) | exact HB.out))⟩; clear HO157 HO162 HO166 HO_0 HO_146000 HO_4 BK144 BK145 HB hq_; have HO157 := n0_; have HO162 := n1_; have HO166 := n2_; have HO_0 := n3_; have HO_146000 := n4_; have HO_4 := n5_; have BK144 := n6_; have BK145 := n7_; have HB := n8_; clear n0_ n1_ n2_ n3_ n4_ n5_ n6_ n7_ n8_))
                    have n0_ := aM (Kd.V_drew HO_0.out)
                    have n1_ := aM (Kd.V_drew HO_4.out)
                    have n2_ := aM (Kd.N_drew HO_146000.out)
                    have n3_ := aM (Kd.V_drew HO157.out)
                    have n4_ := aM (Kd.V_drew HO162.out)
                    have n5_ := aM (Kd.R_drew HO166.out)
                    have n6_ := aM (blk_drew BK144.out)
                    have n7_ := aM (blk_drew BK145.out)
                    have n8_ := aM (below_drew1 HB.out)
                    clear HO_0
                    clear HO_4
                    clear HO_146000
                    clear HO157
                    clear HO162
                    clear HO166
                    clear BK144
                    clear BK145
                    clear HB
                    have HO_0 := n0_
                    have HO_4 := n1_
                    have HO_146000 := n2_
                    have HO157 := n3_
                    have HO162 := n4_
                    have HO166 := n5_
                    have BK144 := n6_
                    have BK145 := n7_
                    have HB := n8_
                    clear n0_ n1_ n2_ n3_ n4_ n5_ n6_ n7_ n8_
                    have q50 : ((ji31) : Int) ≤ ((y146.length : Int) : Int) := of_decide_eq_true (by first | (with_reducible assumption) | assumption)
                    obtain ⟨i050, hi050, _, hsz50, _⟩ := info_parts info5
                    have hroom50 : y146.length ≤ c18 := (Kd.V_reads' HO_4.out).2.1
                    have hC50 : Kd.F (Kd.int .u8) _ _ (some ad151) y146.length y146 := (Kd.V_at (base := w.heap.size) HO_4.out).2.2
                    have ql50 : (2 : Int) ≤ ((ji31) : Int) := of_decide_eq_true (by first | (with_reducible assumption) | assumption)
                    have hcut50 := cut_mid (P := Try.prog) 30 5 .i64 .i64 Try.underlying30 hi050 1 hsz50 (some ad151) y146.length c18 2 (ji31) (by omega) ql50 q50 hroom50
                    have hr50 := Kd.F_mid (lo := (2 : Int).toNat) (hi := ((ji31) : Int).toNat) (c := c18) hC50 (by omega) (by omega) hroom50
                    obtain ⟨A50, hA50⟩ : ∃ A1, A1 = (if c18 = (2 : Int).toNat then (some ad151) else ((some ad151) : Option Addr).map (·.add ((2 : Int).toNat * 1))) := ⟨_, rfl⟩
                    obtain ⟨c50, hc50⟩ : ∃ c1, c1 = c18 - (2 : Int).toNat := ⟨_, rfl⟩
                    have hy50 : y168.length = ((ji31) : Int).toNat - (2 : Int).toNat := (by rw [Ny168.out, List.length_drop, List.length_take] <;> omega)
                    rw [show ((y146).take ((ji31) : Int).toNat).drop (2 : Int).toNat = y168 from Ny168.out.symm] at hr50
                    replace hr50 : Kd.F (Kd.int .u8) _ _ A50 y168.length y168 := (by rw [hA50]; exact hr50)
                    rw [← hy50, ← hA50, ← hc50] at hcut50
                    have HO172 := Aside0.mk (show Kd.V (Kd.int .u8) 5 _ w.heap.size _ (.slice A50 y168.length c50) y168 from Kd.V_mk (by rw [hy50, hc50]; exact Nat.sub_le_sub_right (Nat.le_trans (by omega) hroom50) _) hr50)
                    have HC172 := Aside0.mk (show y168.length ≤ c50 from by rw [hy50, hc50]; exact Nat.sub_le_sub_right (Nat.le_trans (by omega) hroom50) _)
                    clear hr50 hC50 hroom50 hi050 hsz50 hc50
                    have KY50 := Aside0.mk hy50
                    have KA50 := Aside0.mk hA50
                    clear hy50 hA50
                    replace q50 := eq_true q50
                    refine start_ (n := 10) (S := fun w' => w'.cell? ⟨gb145, 0, none⟩ = some (u146000) ∧ w'.cell? ⟨gb145, 1, none⟩ = some (.int .i64 x146001_1) ∧ w'.cell? ⟨gb145, 2, none⟩ = some (.int .i64 x146002_1)) (ds := [9]) #[false, false, false, false, false, false, false, false, false, false] (by kernel_rfl) rfl rfl ⟨(blk_cell BK145.out 0).trans rfl, (blk_cell BK145.out 1).trans rfl, (blk_cell BK145.out 2).trans rfl⟩ (fun hHeld => ?_); refine with_tabW liveryref17_Read.tab18 liveryref17_Read.bits18 (fun HT_ HW_ => ?_)
                    generalize w47.drew = w49 at HO_0 HO_4 HO_146000 HO157 HO162 HO166 BK144 BK145 HB HO172 hHeld ⊢
                    refine pure_ (i := 0) (N := some 63) (v := ?_) (a' := ?_) #[true, false, false, false, false, false, false, false, false, false] rfl rfl (any_of HT_.out (by kernel_rfl)) (fun _ _ _ h => h) (Or.inl ⟨by rfl, ?_⟩) ?_ ?_
                    rotate_left
                    ·intro w'
                     go_simp
                     with_reducible rfl
                    rotate_left
                    ·simp only [Act.put, List.setIfInBounds_toArray, List.set_cons_zero, List.set_cons_succ, i64_w, i32_w]
                     rfl
                    refine pure_ (i := 2) (N := some 65) (v := ?_) (a' := ?_) #[true, false, true, false, false, false, false, false, false, false] rfl rfl (any_of HT_.out (by kernel_rfl)) (fun _ _ _ h => h) (Or.inl ⟨by rfl, ?_⟩) ?_ ?_
                    rotate_left
                    ·intro w'
                     go_simp
                     with_reducible rfl
                    rotate_left
                    ·simp only [Act.put, List.setIfInBounds_toArray, List.set_cons_zero, List.set_cons_succ, i64_w, i32_w]
                     rfl
                    refine pure_ (i := 3) (N := some 66) (v := ?_) (a' := ?_) #[true, false, true, true, false, false, false, false, false, false] rfl rfl (any_of HT_.out (by kernel_rfl)) (fun _ _ _ h => h) (Or.inl ⟨by rfl, ?_⟩) ?_ ?_
                    rotate_left
                    ·intro w'
                     go_simp
                     with_reducible rfl
                    rotate_left
                    ·simp only [Act.put, List.setIfInBounds_toArray, List.set_cons_zero, List.set_cons_succ, i64_w, i32_w]
                     rfl
                    refine pure_ (i := 4) (N := some 67) (v := ?_) (a' := ?_) #[true, false, true, true, true, false, false, false, false, false] rfl rfl (any_of HT_.out (by kernel_rfl)) (fun _ _ _ h => h) (Or.inl ⟨by rfl, ?_⟩) ?_ ?_
                    rotate_left
                    ·intro w'
                     go_simp
                     with_reducible rfl
                    rotate_left
                    ·simp only [Act.put, List.setIfInBounds_toArray, List.set_cons_zero, List.set_cons_succ, i64_w, i32_w]
                     rfl
                    refine pure_ (i := 5) (N := some 68) (v := ?_) (a' := ?_) #[true, false, true, true, true, true, false, false, false, false] rfl rfl (any_of HT_.out (by kernel_rfl)) (fun _ _ _ h => h) (Or.inl ⟨by rfl, ?_⟩) ?_ ?_
                    rotate_left
                    ·intro w'
                     go_simp
                     with_reducible rfl
                    rotate_left
                    ·simp only [Act.put, List.setIfInBounds_toArray, List.set_cons_zero, List.set_cons_succ, i64_w, i32_w]
                     rfl
                    refine take_ (i := 1) (N := some 64) (v := ?_) (a' := ?_) #[true, true, true, true, true, true, false, false, false, false] rfl rfl (take_ofW HT_.out HW_.out (by kernel_rfl)) (fun _ _ _ h => h) (Or.inl ⟨by rfl, ?_⟩) hHeld ?_ ?_
                    rotate_left
                    ·rintro w' ⟨s0, s1, s2⟩
                     go_simp
                     with_reducible rfl
                    rotate_left
                    ·simp only [Act.put, List.setIfInBounds_toArray, List.set_cons_zero, List.set_cons_succ, i64_w, i32_w]
                     rfl
                    refine one_ (i := 6) (N := some 69) #[true, true, true, true, true, true, true, false, false, false] rfl rfl (one_of HT_.out (by kernel_rfl)) (by decide) (fun K hK => ?_)
                    refine value_ (w1 := ?_) (v := ?_) (by rfl) rfl ?_ ?_
                    rotate_left 2
                    ·go_simp
                     constructor
                     ·rfl
                     ·rfl
                    refine hK.out _ _ ⟨(blk_cell (blk_alloc BK145.out _) 0).trans rfl, (blk_cell (blk_alloc BK145.out _) 1).trans rfl, (blk_cell (blk_alloc BK145.out _) 2).trans rfl⟩ (fun hHeld => ?_)
                    clear hK K
                    refine norm_ (a' := ?_) ?_ ?_
                    rotate_left
                    ·show Act.put _ (some 69) _ = _
                     simp only [Act.put, List.setIfInBounds_toArray, List.set_cons_zero, List.set_cons_succ, i64_w, i32_w]
                     rfl
                    refine one_ (i := 7) (N := some 70) #[true, true, true, true, true, true, true, true, false, false] rfl rfl (one_of HT_.out (by kernel_rfl)) (by decide) (fun K hK => ?_)
                    refine Kd.N_append_step (Kd.slice 5 (Kd.int .u8)) (w0 := w) w.heap.size (by rfl) (.tmp 64) (.tmp 69) 29 30 (.slice none 0 0) 24 rfl Try.underlying29 info30 rfl (by decide) (by omega) u146000 x146000_1 y168 [.slice A50 y168.length c50] (fun k_ => (P0_ k_ ∨ w.heap.size ≤ k_) ∧ some k_ ≠ (.slice Ao48 t164.length co48 : Value).ownBlock ∧ k_ ≠ gb144 ∧ k_ ≠ gb145) (fun k_ => ((fun k_ => (P0_ k_ ∨ w.heap.size ≤ k_) ∧ some k_ ≠ (.slice Ao48 t164.length co48 : Value).ownBlock ∧ k_ ≠ gb144 ∧ k_ ≠ gb145)) k_ ∧ some k_ ≠ (u146000 : Value).ownBlock) rfl rfl ?aP (fun _ hk => hk) ?aF ?aO ?aB ?aS ?aL ?_
                    (case aP => exact (Kd.FK_slice_mk (Kd.V_reads' (Kd.V_mono (ok' := (fun k_ => ((fun k_ => (P0_ k_ ∨ w.heap.size ≤ k_) ∧ some k_ ≠ (.slice Ao48 t164.length co48 : Value).ownBlock ∧ k_ ≠ gb144 ∧ k_ ≠ gb145)) k_ ∧ some k_ ≠ (u146000 : Value).ownBlock)) (HO172.out) (fun k_ hk => by first | exact ⟨⟨hk.1.1, ⟨hk.2, ⟨hk.1.2.2.1, hk.1.2.2.2⟩⟩⟩, hk.1.2.1⟩ | exact ⟨⟨hk.1, hk.2.1, hk.2.2.2.1, hk.2.2.2.2⟩, hk.2.2.1⟩))).2.1 (Kd.V_F (Kd.V_mono (ok' := (fun k_ => ((fun k_ => (P0_ k_ ∨ w.heap.size ≤ k_) ∧ some k_ ≠ (.slice Ao48 t164.length co48 : Value).ownBlock ∧ k_ ≠ gb144 ∧ k_ ≠ gb145)) k_ ∧ some k_ ≠ (u146000 : Value).ownBlock)) (HO172.out) (fun k_ hk => by first | exact ⟨⟨hk.1.1, ⟨hk.2, ⟨hk.1.2.2.1, hk.1.2.2.2⟩⟩⟩, hk.1.2.1⟩ | exact ⟨⟨hk.1, hk.2.1, hk.2.2.2.1, hk.2.2.2.2⟩, hk.2.2.1⟩)))))
                    (case aB => exact (by repeat (first | (with_reducible first | exact HB.out | apply below_alloc | apply pw_below_drewN | apply below_drew1 | refine below_set ?_ GE144.out | refine below_set ?_ GE145.out) | exact HB.out)))
                    (case aF => exact (fun k_ hk => ⟨(.inr (Nat.le_trans (below_size (by repeat (first | (with_reducible first | exact HB.out | apply below_alloc | apply pw_below_drewN | apply below_drew1 | refine below_set ?_ GE144.out | refine below_set ?_ GE145.out) | exact HB.out))) hk)), Kd.fresh' (Kd.R_lt (by (with_reducible repeat (first | apply Kd.R_alloc | apply Kd.R_drewN | apply Kd.R_drew)); exact HO166.out)) k_ hk, Kd.freshB (g := gb144) (o := .cells #[.slice none 0 0, .int .i64 x145001_1, .int .i64 x145002_1] 94 (0, 0)) (by (with_reducible repeat (first | refine bN ?_ _ | refine bD ?_ | refine bA ?_ _)); exact BK144.out) k_ hk, Kd.freshB (g := gb145) (o := .cells #[u146000, .int .i64 x146001_1, .int .i64 x146002_1] 94 (0, 0)) (by (with_reducible repeat (first | refine bN ?_ _ | refine bD ?_ | refine bA ?_ _)); exact BK145.out) k_ hk⟩))
                    (case aO => exact (by (with_reducible repeat (first | apply Kd.N_alloc | apply Kd.N_drewN | apply Kd.N_drew)); exact Kd.N_mono HO_146000.out (fun _ hk => by first | exact ⟨hk.1.1, ⟨hk.2, ⟨hk.1.2.1, hk.1.2.2⟩⟩⟩ | exact hk)))
                    (case aS => exact (below_size (by repeat (first | (with_reducible first | exact HB.out | apply below_alloc | apply pw_below_drewN | apply below_drew1 | refine below_set ?_ GE144.out | refine below_set ?_ GE145.out) | exact HB.out))))
                    (case aL => have := LMc43.out; omega)
                    intro v174 w51 ho hb hg hat
                    rw [← Ny173.out] at ho
                    have n0_ := aM (Kd.V_afterv (ok := (fun k_ => (P0_ k_ ∨ w.heap.size ≤ k_) ∧ some k_ ≠ (.slice Ao48 t164.length co48 : Value).ownBlock ∧ k_ ≠ gb144 ∧ k_ ≠ gb145)) (by (with_reducible repeat (first | apply Kd.V_alloc | apply Kd.V_drewN | apply Kd.V_drew)); exact Kd.V_mono HO_0.out (fun _ hk => by first | exact ⟨⟨hk.1.1, ⟨hk.2, ⟨hk.1.2.2.1, hk.1.2.2.2⟩⟩⟩, hk.1.2.1⟩ | exact ⟨⟨hk.1, hk.2.1, hk.2.2.2.1, hk.2.2.2.2⟩, hk.2.2.1⟩)) hg hat)
                    have n1_ := aM (Kd.V_afterv (ok := (fun k_ => (P0_ k_ ∨ w.heap.size ≤ k_) ∧ some k_ ≠ (.slice Ao48 t164.length co48 : Value).ownBlock ∧ k_ ≠ gb144 ∧ k_ ≠ gb145)) (by (with_reducible repeat (first | apply Kd.V_alloc | apply Kd.V_drewN | apply Kd.V_drew)); exact Kd.V_mono HO_4.out (fun _ hk => by first | exact ⟨⟨hk.1.1, ⟨hk.2, ⟨hk.1.2.2.1, hk.1.2.2.2⟩⟩⟩, hk.1.2.1⟩ | exact ⟨⟨hk.1, hk.2.1, hk.2.2.2.1, hk.2.2.2.2⟩, hk.2.2.1⟩)) hg hat)
                    have n2_ := aM (blk_grown (g := gb144) (o := .cells #[.slice none 0 0, .int .i64 x145001_1, .int .i64 x145002_1] 94 (0, 0)) (by (with_reducible repeat (first | refine bN ?_ _ | refine bD ?_ | refine bA ?_ _)); exact BK144.out) hg (Kd.N_ne HO_146000.out BK144.out (by decide)))
                    have n3_ := aM (blk_grown (g := gb145) (o := .cells #[u146000, .int .i64 x146001_1, .int .i64 x146002_1] 94 (0, 0)) (by (with_reducible repeat (first | refine bN ?_ _ | refine bD ?_ | refine bA ?_ _)); exact BK145.out) hg (Kd.N_ne HO_146000.out BK145.out (by decide)))
                    have n4_ := aM (Kd.V_afterv (ok := (fun k_ => (P0_ k_ ∨ w.heap.size ≤ k_) ∧ some k_ ≠ (.slice Ao48 t164.length co48 : Value).ownBlock ∧ k_ ≠ gb144 ∧ k_ ≠ gb145)) (by (with_reducible repeat (first | apply Kd.V_alloc | apply Kd.V_drewN | apply Kd.V_drew)); exact Kd.V_mono HO157.out (fun _ hk => by first | exact ⟨⟨hk.1.1, ⟨hk.2, ⟨hk.1.2.2.1, hk.1.2.2.2⟩⟩⟩, hk.1.2.1⟩ | exact ⟨⟨hk.1, hk.2.1, hk.2.2.2.1, hk.2.2.2.2⟩, hk.2.2.1⟩)) hg hat)
                    have n5_ := aM (Kd.V_afterv (ok := (fun k_ => (P0_ k_ ∨ w.heap.size ≤ k_) ∧ some k_ ≠ (.slice Ao48 t164.length co48 : Value).ownBlock ∧ k_ ≠ gb144 ∧ k_ ≠ gb145)) (by (with_reducible repeat (first | apply Kd.V_alloc | apply Kd.V_drewN | apply Kd.V_drew)); exact Kd.V_mono HO162.out (fun _ hk => by first | exact ⟨⟨hk.1.1, ⟨hk.2, ⟨hk.1.2.2.1, hk.1.2.2.2⟩⟩⟩, hk.1.2.1⟩ | exact ⟨⟨hk.1, hk.2.1, hk.2.2.2.1, hk.2.2.2.2⟩, hk.2.2.1⟩)) hg hat)
                    have n6_ := aM (Kd.R_over' (by (with_reducible repeat (first | apply Kd.R_alloc | apply Kd.R_drewN | apply Kd.R_drew)); exact HO166.out) (Kd.N_typed (by (with_reducible repeat (first | apply Kd.N_alloc | apply Kd.N_drewN | apply Kd.N_drew)); exact HO_146000.out)) (by decide) hg)
                    have n7_ := aM (Kd.V_afterv (ok := (fun k_ => (P0_ k_ ∨ w.heap.size ≤ k_) ∧ some k_ ≠ (.slice Ao48 t164.length co48 : Value).ownBlock ∧ k_ ≠ gb144 ∧ k_ ≠ gb145)) (by (with_reducible repeat (first | apply Kd.V_alloc | apply Kd.V_drewN | apply Kd.V_drew)); exact Kd.V_mono HO172.out (fun _ hk => by first | exact ⟨⟨hk.1.1, ⟨hk.2, ⟨hk.1.2.2.1, hk.1.2.2.2⟩⟩⟩, hk.1.2.1⟩ | exact ⟨⟨hk.1, hk.2.1, hk.2.2.2.1, hk.2.2.2.2⟩, hk.2.2.1⟩)) hg hat)
                    have n8_ := aM (hb)
                    have n9_ := aM (ho)
                    clear HO_0
                    clear HO_4
                    clear BK144
                    clear BK145
                    clear HO157
                    clear HO162
                    clear HO166
                    clear HO172
                    clear HB
                    clear HO_146000
                    have HO_0 := n0_
                    have HO_4 := n1_
                    have BK144 := n2_
                    have BK145 := n3_
                    have HO157 := n4_
                    have HO162 := n5_
                    have HO166 := n6_
                    have HO172 := n7_
                    have HB := n8_
                    have HO175 := n9_
                    clear n0_ n1_ n2_ n3_ n4_ n5_ n6_ n7_ n8_ n9_
                    clear ho hb hg hat
                    obtain ⟨Ao52, co52, eo52⟩ := Kd.N_slice HO175.out
                    (first | subst eo52 | (injection eo52 with f1_ f2_ f3_; have f4_ := f1_.symm; have f5_ := f3_.symm; clear f1_ f2_ f3_; subst f4_; subst f5_))
                    refine hK.out _ _ ⟨(blk_cell BK145.out 0).trans rfl, (blk_cell BK145.out 1).trans rfl, (blk_cell BK145.out 2).trans rfl⟩ (fun hHeld => ?_)
                    clear hK K
                    refine norm_ (a' := ?_) ?_ ?_
                    rotate_left
                    ·show Act.put _ (some 70) _ = _
                     simp only [Act.put, List.setIfInBounds_toArray, List.set_cons_zero, List.set_cons_succ, i64_w, i32_w]
                     rfl
                    refine pure_ (i := 8) (N := some 71) (v := ?_) (a' := ?_) #[true, true, true, true, true, true, true, true, true, false] rfl rfl (any_of HT_.out (by kernel_rfl)) (fun _ _ _ h => h) (Or.inl ⟨by rfl, ?_⟩) ?_ ?_
                    rotate_left
                    ·intro w'
                     go_simp
                     with_reducible rfl
                    rotate_left
                    ·simp only [Act.put, List.setIfInBounds_toArray, List.set_cons_zero, List.set_cons_succ, i64_w, i32_w]
                     rfl
                    refine last_ (i := 9) (N := none) #[true, true, true, true, true, true, true, true, true, true] rfl rfl (one_of HT_.out (by kernel_rfl)) (by decide) (fun K hK => ?_)
                    have hs53 : w51.cell? ⟨gb145, 0, none⟩ = some (u146000) := (blk_cell BK145.out 0).trans rfl
                    have hfs53 := blk_frozen BK145.out 0
                    have hns53_0 := NB144_145.out
                    have hms53_0 := NB145_144.out
                    refine skip_ (w1 := ?_) (by rfl) rfl ?_ ?_
                    rotate_left
                    ·go_simp
                     rfl
                    refine hK.out _ _ ?_
                    clear hK K
                    refine done_ (done_of HT_.out (by kernel_rfl)) ?_
                    have hnb54 := NB145_144.out
                    have hnc54 := NB144_145.out
                    obtain ⟨hcz55_0, hcz55_1, hcz55_2, hfz55_0, hfz55_1, hfz55_2⟩ := blk_all3 BK145.out
                    try go_wp2
                    go_roundg kj14
                    case measure => have := HK1.out; have := HJ14.out; omega
                    case rel => exact ⟨(x145001_1), (x145002_1), (y173), (wrap64 ((wrap64 (x146001_1 + (wrap64 ((wrap64 (256 * (wrap64 (rd y146 0)))) + (wrap64 (rd y146 1)))))) + 4)), (x146002_1), (.slice Ao52 y173.length co52), H', ⟨by have := HK1.out; have := HJ14.out; omega⟩, ⟨by (with_reducible repeat (first | apply Kd.V_alloc | apply Kd.V_drewN | apply Kd.V_drew)); exact Kd.V_mono (Kd.V_far (p := ⟨gb145, 1, none⟩) (Kd.V_far (p := ⟨gb145, 0, none⟩) (Kd.V_mono HO_0.out (fun k_ hk => (⟨hk, hk.1.2.2.2⟩ : _ ∧ k_ ≠ gb145))) (fun _ hk => hk.2) (.slice Ao52 y173.length co52)) (fun _ hk => hk.2) (.int .i64 (wrap64 ((wrap64 (x146001_1 + (wrap64 ((wrap64 (256 * (wrap64 (rd y146 0)))) + (wrap64 (rd y146 1)))))) + 4)))) (fun _ hk => ⟨hk.1.1.1, ⟨hk.1.2, ⟨hk.1.1.2.2.1, hk.1.1.2.2.2⟩⟩⟩)⟩, ⟨by (with_reducible repeat (first | apply Kd.N_alloc | apply Kd.N_drewN | apply Kd.N_drew)); exact Kd.N_mono (Kd.N_far (p := ⟨gb145, 1, none⟩) (Kd.N_far (p := ⟨gb145, 0, none⟩) (Kd.N_mono HO175.out (fun k_ hk => (⟨hk, hk.2.2.2⟩ : _ ∧ k_ ≠ gb145))) (fun _ hk => hk.2) (.slice Ao52 y173.length co52)) (fun _ hk => hk.2) (.int .i64 (wrap64 ((wrap64 (x146001_1 + (wrap64 ((wrap64 (256 * (wrap64 (rd y146 0)))) + (wrap64 (rd y146 1)))))) + 4)))) (fun _ hk => ⟨hk.1.1, ⟨hk.1.2.2.1, hk.1.2.2.2⟩⟩)⟩, ⟨by (with_reducible repeat (first | refine bN ?_ _ | refine bD ?_ | refine bA ?_ _)); refine blk_far ?_ NB144_145.out _; (with_reducible repeat (first | refine bN ?_ _ | refine bD ?_ | refine bA ?_ _)); refine blk_far ?_ NB144_145.out _; (with_reducible repeat (first | refine bN ?_ _ | refine bD ?_ | refine bA ?_ _)); exact BK144.out⟩, ⟨by (with_reducible repeat (first | refine bN ?_ _ | refine bD ?_ | refine bA ?_ _)); refine blk_put (cs := #[.slice Ao52 y173.length co52, .int .i64 x146001_1, .int .i64 x146002_1]) ?_ 1 _ rfl; (with_reducible repeat (first | refine bN ?_ _ | refine bD ?_ | refine bA ?_ _)); refine blk_put (cs := #[u146000, .int .i64 x146001_1, .int .i64 x146002_1]) ?_ 0 _ rfl; (with_reducible repeat (first | refine bN ?_ _ | refine bD ?_ | refine bA ?_ _)); exact BK145.out⟩, ⟨by repeat (first | (with_reducible first | exact HB.out | apply below_alloc | apply pw_below_drewN | apply below_drew1 | refine below_set ?_ GE144.out | refine below_set ?_ GE145.out) | exact HB.out)⟩⟩
                   ·rw [if_neg c43] at H
                    exact absurd H (by simp)
                  ·rw [if_neg c41] at H
                   exact absurd H (by simp)
                 ·replace c40 := Bool.eq_false_iff.mpr c40
                  subst c40
                  have H1 : (some (x146000_1, x146001_1, 2)) = some (r1, r2, r3) := by rw [if_neg (show ¬ (false = true) by decide)] at H; exact H
                  clear H
                  have H := H1
                  clear H1
                  simp only [Option.some.injEq, Prod.mk.injEq] at H
                  obtain ⟨rfl, rfl, rfl⟩ := H
                  try go_wp2
                  have n0_ := aM (Kd.V_drew HO_0.out)
                  have n1_ := aM (Kd.V_drew HO_4.out)
                  have n2_ := aM (Kd.N_drew HO_146000.out)
                  have n3_ := aM (blk_drew BK144.out)
                  have n4_ := aM (blk_drew BK145.out)
                  have n5_ := aM (below_drew1 HB.out)
                  clear HO_0
                  clear HO_4
                  clear HO_146000
                  clear BK144
                  clear BK145
                  clear HB
                  have HO_0 := n0_
                  have HO_4 := n1_
                  have HO_146000 := n2_
                  have BK144 := n3_
                  have BK145 := n4_
                  have HB := n5_
                  clear n0_ n1_ n2_ n3_ n4_ n5_
                  have q57 : ((wrap64 ((wrap64 ((wrap64 (256 * (wrap64 (rd y146 0)))) + (wrap64 (rd y146 1)))) + 4)) : Int) ≤ ((y146.length : Int) : Int) := of_decide_eq_true (by first | (with_reducible assumption) | assumption)
                  obtain ⟨i057, hi057, _, hsz57, _⟩ := info_parts info5
                  have hroom57 : y146.length ≤ c18 := (Kd.V_reads' HO_4.out).2.1
                  have hC57 : Kd.F (Kd.int .u8) _ _ (some ad151) y146.length y146 := (Kd.V_at (base := w.heap.size) HO_4.out).2.2
                  have ql57 : ((ji31) : Int) ≤ ((wrap64 ((wrap64 ((wrap64 (256 * (wrap64 (rd y146 0)))) + (wrap64 (rd y146 1)))) + 4)) : Int) := of_decide_eq_true (by first | (with_reducible assumption) | assumption)
                  have q057 : (0 : Int) ≤ ((ji31) : Int) := of_decide_eq_true (by first | (with_reducible assumption) | assumption)
                  have hcut57 := cut_mid (P := Try.prog) 30 5 .i64 .i64 Try.underlying30 hi057 1 hsz57 (some ad151) y146.length c18 (ji31) (wrap64 ((wrap64 ((wrap64 (256 * (wrap64 (rd y146 0)))) + (wrap64 (rd y146 1)))) + 4)) q057 ql57 q57 hroom57
                  have hr57 := Kd.F_mid (lo := ((ji31) : Int).toNat) (hi := ((wrap64 ((wrap64 ((wrap64 (256 * (wrap64 (rd y146 0)))) + (wrap64 (rd y146 1)))) + 4)) : Int).toNat) (c := c18) hC57 (by omega) (by omega) hroom57
                  obtain ⟨A57, hA57⟩ : ∃ A1, A1 = (if c18 = ((ji31) : Int).toNat then (some ad151) else ((some ad151) : Option Addr).map (·.add (((ji31) : Int).toNat * 1))) := ⟨_, rfl⟩
                  obtain ⟨c57, hc57⟩ : ∃ c1, c1 = c18 - ((ji31) : Int).toNat := ⟨_, rfl⟩
                  have hy57 : y153.length = ((wrap64 ((wrap64 ((wrap64 (256 * (wrap64 (rd y146 0)))) + (wrap64 (rd y146 1)))) + 4)) : Int).toNat - ((ji31) : Int).toNat := (by rw [Ny153.out, List.length_drop, List.length_take] <;> omega)
                  rw [show ((y146).take ((wrap64 ((wrap64 ((wrap64 (256 * (wrap64 (rd y146 0)))) + (wrap64 (rd y146 1)))) + 4)) : Int).toNat).drop ((ji31) : Int).toNat = y153 from Ny153.out.symm] at hr57
                  replace hr57 : Kd.F (Kd.int .u8) _ _ A57 y153.length y153 := (by rw [hA57]; exact hr57)
                  rw [← hy57, ← hA57, ← hc57] at hcut57
                  have HO157 := Aside0.mk (show Kd.V (Kd.int .u8) 5 _ w.heap.size _ (.slice A57 y153.length c57) y153 from Kd.V_mk (by rw [hy57, hc57]; exact Nat.sub_le_sub_right (Nat.le_trans (by omega) hroom57) _) hr57)
                  have HC157 := Aside0.mk (show y153.length ≤ c57 from by rw [hy57, hc57]; exact Nat.sub_le_sub_right (Nat.le_trans (by omega) hroom57) _)
                  clear hr57 hC57 hroom57 hi057 hsz57 hc57
                  have KY57 := Aside0.mk hy57
                  have KA57 := Aside0.mk hA57
                  clear hy57 hA57
                  replace q57 := eq_true q57
                  have q58 : ((ji31) : Int) ≤ ((y146.length : Int) : Int) := of_decide_eq_true (by first | (with_reducible assumption) | assumption)
                  obtain ⟨i058, hi058, _, hsz58, _⟩ := info_parts info5
                  have hroom58 : y146.length ≤ c18 := (Kd.V_reads' HO_4.out).2.1
                  have hC58 : Kd.F (Kd.int .u8) _ _ (some ad151) y146.length y146 := (Kd.V_at (base := w.heap.size) HO_4.out).2.2
                  have hcut58 := cut_to (P := Try.prog) 30 5 .i64 Try.underlying30 hi058 (some ad151) y146.length c18 (ji31) (of_decide_eq_true (by first | (with_reducible assumption) | assumption)) q58 hroom58
                  have hr58 := Kd.F_take (m := ((ji31) : Int).toNat) hC58 (by omega)
                  have hy58 : y158.length = ((ji31) : Int).toNat := (by rw [Ny158.out, List.length_take]; omega)
                  rw [← Ny158.out] at hr58
                  rw [← hy58] at hcut58
                  have HO162 := Aside0.mk (show Kd.V (Kd.int .u8) 5 _ w.heap.size _ (.slice (some ad151) y158.length c18) y158 from Kd.V_mk (by omega) hr58)
                  have HC162 := Aside0.mk (show y158.length ≤ c18 from by omega)
                  clear hr58 hC58 hroom58 hi058 hsz58
                  have KY58 := Aside0.mk hy58
                  clear hy58
                  replace q58 := eq_true q58
                  refine start_ (n := 14) (S := fun w' => True) (ds := []) #[false, false, false, false, false, false, false, false, false, false, false, false, false, false] (by kernel_rfl) rfl rfl trivial (fun hHeld => ?_); refine with_tabW liveryref17_Read.tab14 liveryref17_Read.bits14 (fun HT_ HW_ => ?_)
                  generalize wc.drew = w56 at HO_0 HO_4 HO_146000 BK144 BK145 HB HO157 HO162 hHeld ⊢
                  refine pure_ (i := 0) (N := some 46) (v := ?_) (a' := ?_) #[true, false, false, false, false, false, false, false, false, false, false, false, false, false] rfl rfl (any_of HT_.out (by kernel_rfl)) (fun _ _ _ h => h) (Or.inl ⟨by rfl, ?_⟩) ?_ ?_
                  rotate_left
                  ·intro w'
                   go_simp
                   with_reducible rfl
                  rotate_left
                  ·simp only [Act.put, List.setIfInBounds_toArray, List.set_cons_zero, List.set_cons_succ, i64_w, i32_w]
                   rfl
                  refine pure_ (i := 1) (N := some 47) (v := ?_) (a' := ?_) #[true, true, false, false, false, false, false, false, false, false, false, false, false, false] rfl rfl (any_of HT_.out (by kernel_rfl)) (fun _ _ _ h => h) (Or.inl ⟨by rfl, ?_⟩) ?_ ?_
                  rotate_left
                  ·intro w'
                   go_simp
                   with_reducible rfl
                  rotate_left
                  ·simp only [Act.put, List.setIfInBounds_toArray, List.set_cons_zero, List.set_cons_succ, i64_w, i32_w]
                   rfl
                  refine pure_ (i := 2) (N := some 48) (v := ?_) (a' := ?_) #[true, true, true, false, false, false, false, false, false, false, false, false, false, false] rfl rfl (any_of HT_.out (by kernel_rfl)) (fun _ _ _ h => h) (Or.inl ⟨by rfl, ?_⟩) ?_ ?_
                  rotate_left
                  ·intro w'
                   go_simp
                   with_reducible rfl
                  rotate_left
                  ·simp only [Act.put, List.setIfInBounds_toArray, List.set_cons_zero, List.set_cons_succ, i64_w, i32_w]
                   rfl
                  refine pure_ (i := 3) (N := some 49) (v := ?_) (a' := ?_) #[true, true, true, true, false, false, false, false, false, false, false, false, false, false] rfl rfl (any_of HT_.out (by kernel_rfl)) (fun _ _ _ h => h) (Or.inl ⟨by rfl, ?_⟩) ?_ ?_
                  rotate_left
                  ·intro w'
                   go_simp
                   with_reducible rfl
                  rotate_left
                  ·simp only [Act.put, List.setIfInBounds_toArray, List.set_cons_zero, List.set_cons_succ, i64_w, i32_w]
                   rfl
                  refine pure_ (i := 4) (N := some 50) (v := ?_) (a' := ?_) #[true, true, true, true, true, false, false, false, false, false, false, false, false, false] rfl rfl (any_of HT_.out (by kernel_rfl)) (fun _ _ _ h => h) (Or.inl ⟨by rfl, ?_⟩) ?_ ?_
                  rotate_left
                  ·intro w'
                   go_simp
                   with_reducible rfl
                  rotate_left
                  ·simp only [Act.put, List.setIfInBounds_toArray, List.set_cons_zero, List.set_cons_succ, i64_w, i32_w]
                   rfl
                  refine pure_ (i := 5) (N := some 51) (v := ?_) (a' := ?_) #[true, true, true, true, true, true, false, false, false, false, false, false, false, false] rfl rfl (any_of HT_.out (by kernel_rfl)) (fun _ _ _ h => h) (Or.inl ⟨by rfl, ?_⟩) ?_ ?_
                  rotate_left
                  ·intro w'
                   go_simp
                   with_reducible rfl
                  rotate_left
                  ·simp only [Act.put, List.setIfInBounds_toArray, List.set_cons_zero, List.set_cons_succ, i64_w, i32_w]
                   rfl
                  refine pure_ (i := 6) (N := some 52) (v := ?_) (a' := ?_) #[true, true, true, true, true, true, true, false, false, false, false, false, false, false] rfl rfl (any_of HT_.out (by kernel_rfl)) (fun _ _ _ h => h) (Or.inl ⟨by rfl, ?_⟩) ?_ ?_
                  rotate_left
                  ·intro w'
                   go_simp
                   with_reducible rfl
                  rotate_left
                  ·simp only [Act.put, List.setIfInBounds_toArray, List.set_cons_zero, List.set_cons_succ, i64_w, i32_w]
                   rfl
                  refine pure_ (i := 7) (N := some 53) (v := ?_) (a' := ?_) #[true, true, true, true, true, true, true, true, false, false, false, false, false, false] rfl rfl (any_of HT_.out (by kernel_rfl)) (fun _ _ _ h => h) (Or.inl ⟨by rfl, ?_⟩) ?_ ?_
                  rotate_left
                  ·intro w'
                   go_simp
                   with_reducible rfl
                  rotate_left
                  ·simp only [Act.put, List.setIfInBounds_toArray, List.set_cons_zero, List.set_cons_succ, i64_w, i32_w]
                   rfl
                  refine pure_ (i := 8) (N := some 54) (v := ?_) (a' := ?_) #[true, true, true, true, true, true, true, true, true, false, false, false, false, false] rfl rfl (any_of HT_.out (by kernel_rfl)) (fun _ _ _ h => h) (Or.inl ⟨by rfl, ?_⟩) ?_ ?_
                  rotate_left
                  ·intro w'
                   go_simp
                   with_reducible rfl
                  rotate_left
                  ·simp only [Act.put, List.setIfInBounds_toArray, List.set_cons_zero, List.set_cons_succ, i64_w, i32_w]
                   rfl
                  refine pure_ (i := 9) (N := some 55) (v := ?_) (a' := ?_) #[true, true, true, true, true, true, true, true, true, true, false, false, false, false] rfl rfl (any_of HT_.out (by kernel_rfl)) (fun _ _ _ h => h) (Or.inl ⟨by rfl, ?_⟩) ?_ ?_
                  rotate_left
                  ·intro w'
                   go_simp
                   with_reducible rfl
                  rotate_left
                  ·simp only [Act.put, List.setIfInBounds_toArray, List.set_cons_zero, List.set_cons_succ, i64_w, i32_w]
                   rfl
                  refine one_ (i := 10) (N := some 56) #[true, true, true, true, true, true, true, true, true, true, true, false, false, false] rfl rfl (one_of HT_.out (by kernel_rfl)) (by decide) (fun K hK => ?_)
                  refine goes_ Try.func70 (by kernel_rfl) rfl #[.slice (some ad151) y158.length c18] (by rfl) rfl rfl (by (try simp only [mA, mB, mC]); first | done | rfl | (simp only [List.length_drop, List.length_take]; rfl)) ?_
                  with_reducible refine (liveryref15_Sum.calls kj14 _ _ y158 t163 _ ?side1 ?side2 A37.out).mono ?_
                  (case side1 => repeat (first | exact (Kd.V_reads' HO162.out).2.2 | (with_reducible refine Kd.C_alloc ?_ _) | (with_reducible refine Kd.C_drewN ?_ _) | (with_reducible refine Kd.C_drew ?_)))
                  (case side2 => exact (Kd.V_reads' HO162.out).2.1)
                  rintro e w' ⟨rfl, ⟨nd, rfl⟩⟩
                  refine ⟨_, rfl, ?_⟩
                  refine hK.out _ _ trivial (fun hHeld => ?_)
                  clear hK K
                  refine norm_ (a' := ?_) ?_ ?_
                  rotate_left
                  ·show Act.put _ (some 56) _ = _
                   simp only [Act.put, List.setIfInBounds_toArray, List.set_cons_zero, List.set_cons_succ, i64_w, i32_w]
                   rfl
                  refine one_ (i := 11) (N := some 57) #[true, true, true, true, true, true, true, true, true, true, true, true, false, false] rfl rfl (one_of HT_.out (by kernel_rfl)) (by decide) (fun K hK => ?_)
                  refine goes_ Try.func69 (by kernel_rfl) rfl #[.int .i64 t163] (by rfl) rfl rfl (by (try simp only [mA, mB, mC]); first | done | rfl | (simp only [List.length_drop, List.length_take]; rfl)) ?_
                  with_reducible refine (liveryref15_Put.calls t163 t164 _ A38.out).mono ?_
                  rintro e w59 ⟨v165, rfl, ho0, hb⟩
                  refine ⟨_, rfl, ?_⟩
                  have n0_ := aM (Kd.V_elder' (by (with_reducible repeat (first | apply Kd.V_alloc | apply Kd.V_drewN | apply Kd.V_drew)); exact HO_0.out) (Kd.R_base ho0) hb)
                  have n1_ := aM (Kd.V_elder' (by (with_reducible repeat (first | apply Kd.V_alloc | apply Kd.V_drewN | apply Kd.V_drew)); exact HO_4.out) (Kd.R_base ho0) hb)
                  have n2_ := aM (Kd.N_elder' (by (with_reducible repeat (first | apply Kd.N_alloc | apply Kd.N_drewN | apply Kd.N_drew)); exact HO_146000.out) (Kd.R_base ho0) hb)
                  have n3_ := aM (Kd.V_elder' (by (with_reducible repeat (first | apply Kd.V_alloc | apply Kd.V_drewN | apply Kd.V_drew)); exact HO157.out) (Kd.R_base ho0) hb)
                  have n4_ := aM (Kd.V_elder' (by (with_reducible repeat (first | apply Kd.V_alloc | apply Kd.V_drewN | apply Kd.V_drew)); exact HO162.out) (Kd.R_base ho0) hb)
                  have n5_ := aM (Kd.R_lower (Kd.R_newM (M := fun k_ => (w.heap.size ≤ k_)) ho0 (below_size (by repeat (first | (with_reducible first | exact HB.out | apply below_alloc | apply pw_below_drewN | apply below_drew1 | refine below_set ?_ GE144.out | refine below_set ?_ GE145.out) | exact HB.out))) (fun k_ h_ => h_)) (below_size (by repeat (first | (with_reducible first | exact HB.out | apply below_alloc | apply pw_below_drewN | apply below_drew1 | refine below_set ?_ GE144.out | refine below_set ?_ GE145.out) | exact HB.out))))
                  have n6_ := aM (blk_below (g := gb144) (o := .cells #[.slice none 0 0, .int .i64 x145001_1, .int .i64 x145002_1] 94 (0, 0)) (by (with_reducible repeat (first | refine bN ?_ _ | refine bD ?_ | refine bA ?_ _)); exact BK144.out) hb)
                  have n7_ := aM (blk_below (g := gb145) (o := .cells #[u146000, .int .i64 x146001_1, .int .i64 x146002_1] 94 (0, 0)) (by (with_reducible repeat (first | refine bN ?_ _ | refine bD ?_ | refine bA ?_ _)); exact BK145.out) hb)
                  have n8_ := aM (below_step (by repeat (first | (with_reducible first | exact HB.out | apply below_alloc | apply pw_below_drewN | apply below_drew1 | refine below_set ?_ GE144.out | refine below_set ?_ GE145.out) | exact HB.out)) hb)
                  clear HO_0
                  clear HO_4
                  clear HO_146000
                  clear HO157
                  clear HO162
                  clear BK144
                  clear BK145
                  clear HB
                  have HO_0 := n0_
                  have HO_4 := n1_
                  have HO_146000 := n2_
                  have HO157 := n3_
                  have HO162 := n4_
                  have HO166 := n5_
                  have BK144 := n6_
                  have BK145 := n7_
                  have HB := n8_
                  clear n0_ n1_ n2_ n3_ n4_ n5_ n6_ n7_ n8_
                  (try clear hb)
                  (try clear hb2)
                  (try clear hk)
                  (try clear hi)
                  (try clear ho0)
                  obtain ⟨Ao60, co60, eo60⟩ := Kd.R_slice HO166.out
                  (first | subst eo60 | (injection eo60 with f1_ f2_ f3_; have f4_ := f1_.symm; have f5_ := f3_.symm; clear f1_ f2_ f3_; subst f4_; subst f5_))
                  refine hK.out _ _ trivial (fun hHeld => ?_)
                  clear hK K
                  refine norm_ (a' := ?_) ?_ ?_
                  rotate_left
                  ·show Act.put _ (some 57) _ = _
                   simp only [Act.put, List.setIfInBounds_toArray, List.set_cons_zero, List.set_cons_succ, i64_w, i32_w]
                   rfl
                  refine one_ (i := 12) (N := some 58) #[true, true, true, true, true, true, true, true, true, true, true, true, true, false] rfl rfl (one_of HT_.out (by kernel_rfl)) (by decide) (fun K hK => ?_)
                  refine goes_ Try.func45 (by kernel_rfl) rfl #[.slice A57 y153.length c57, .slice Ao60 t164.length co60] (by rfl) rfl rfl (by (try simp only [mA, mB, mC]); first | done | rfl | (simp only [List.length_drop, List.length_take]; rfl)) ?_
                  with_reducible refine (liveryref01_Same.calls kj14 _ _ y153 _ _ t164 false _ ?side1 ?side2 ?side3 ?side4 A39.out).mono ?_
                  (case side1 => repeat (first | exact (Kd.V_reads' HO157.out).2.2 | (with_reducible refine Kd.C_alloc ?_ _) | (with_reducible refine Kd.C_drewN ?_ _) | (with_reducible refine Kd.C_drew ?_)))
                  (case side2 => exact (Kd.V_reads' HO157.out).2.1)
                  (case side3 => repeat (first | exact (Kd.R_reads' HO166.out).2.2 | (with_reducible refine Kd.C_alloc ?_ _) | (with_reducible refine Kd.C_drewN ?_ _) | (with_reducible refine Kd.C_drew ?_)))
                  (case side4 => exact (Kd.R_reads' HO166.out).2.1)
                  rintro e w' ⟨rfl, ⟨nd, rfl⟩⟩
                  refine ⟨_, rfl, ?_⟩
                  refine hK.out _ _ trivial (fun hHeld => ?_)
                  clear hK K
                  refine norm_ (a' := ?_) ?_ ?_
                  rotate_left
                  ·show Act.put _ (some 58) _ = _
                   simp only [Act.put, List.setIfInBounds_toArray, List.set_cons_zero, List.set_cons_succ, i64_w, i32_w]
                   rfl
                  refine pure_ (i := 13) (N := some 6) (v := ?_) (a' := ?_) #[true, true, true, true, true, true, true, true, true, true, true, true, true, true] rfl rfl (any_of HT_.out (by kernel_rfl)) (fun _ _ _ h => h) (Or.inl ⟨by rfl, ?_⟩) ?_ ?_
                  rotate_left
                  ·intro w'
                   go_simp
                   with_reducible rfl
                  rotate_left
                  ·simp only [Act.put, List.setIfInBounds_toArray, List.set_cons_zero, List.set_cons_succ, i64_w, i32_w]
                   rfl
                  refine done_ (done_of HT_.out (by kernel_rfl)) ?_
                  have hnb61 := NB145_144.out
                  have hnc61 := NB144_145.out
                  obtain ⟨hcz62_0, hcz62_1, hcz62_2, hfz62_0, hfz62_1, hfz62_2⟩ := blk_all3 BK145.out
                  obtain ⟨Ao63, co63, eo63⟩ := Kd.N_slice HO_146000.out
                  subst eo63
                  obtain ⟨hcz64_0, hcz64_1, hcz64_2, hfz64_0, hfz64_1, hfz64_2⟩ := blk_all3 BK144.out
                  try go_wp2
                  refine bodyPost_ret (results_cell_row rfl _ _ gb144 94 #[.slice Ao63 x146000_1.length co63, .int .i64 x146001_1, .int .i64 2] (0, 0) _ rfl (by (with_reducible repeat (first | refine bN ?_ _ | refine bD ?_ | refine bA ?_ _)); refine blk_put (cs := #[.slice Ao63 x146000_1.length co63, .int .i64 x146001_1, .int .i64 x145002_1]) ?_ 2 _ rfl; (with_reducible repeat (first | refine bN ?_ _ | refine bD ?_ | refine bA ?_ _)); refine blk_put (cs := #[.slice Ao63 x146000_1.length co63, .int .i64 x145001_1, .int .i64 x145002_1]) ?_ 1 _ rfl; (with_reducible repeat (first | refine bN ?_ _ | refine bD ?_ | refine bA ?_ _)); refine blk_put (cs := #[.slice none 0 0, .int .i64 x145001_1, .int .i64 x145002_1]) ?_ 0 _ rfl; (with_reducible repeat (first | refine bN ?_ _ | refine bD ?_ | refine bA ?_ _)); refine blk_far ?_ NB144_145.out _; (with_reducible repeat (first | refine bN ?_ _ | refine bD ?_ | refine bA ?_ _)); exact BK144.out) Try.underlying94 rfl (by kernel_rfl)) rfl ?_
                  exact ⟨_, by first | rfl | (simp [errW_none, errW_some] <;> rfl) | (simp only [← hji31]; first | rfl | (simp [errW_none, errW_some] <;> rfl)) | (simp [*, errW_none, errW_some] <;> rfl), by (with_reducible repeat (first | apply Kd.N_alloc | apply Kd.N_drewN | apply Kd.N_drew)); exact Kd.N_mono (Kd.N_far (p := ⟨gb144, 2, none⟩) (Kd.N_far (p := ⟨gb144, 1, none⟩) (Kd.N_far (p := ⟨gb144, 0, none⟩) (Kd.N_far (p := ⟨gb145, 2, none⟩) (Kd.N_mono (Kd.N_mono HO_146000.out (fun k_ hk => (⟨hk, hk.1.2.2⟩ : _ ∧ k_ ≠ gb145))) (fun k_ hk => (⟨hk, hk.1.1.2.1⟩ : _ ∧ k_ ≠ gb144))) (fun _ hk => hk.1.2) (.int .i64 2)) (fun _ hk => hk.2) (.slice Ao63 x146000_1.length co63)) (fun _ hk => hk.2) (.int .i64 x146001_1)) (fun _ hk => hk.2) (.int .i64 2)) (fun _ hk => hk.1.1.1.1), by repeat (first | (with_reducible first | exact HB.out | apply below_alloc | apply pw_below_drewN | apply below_drew1 | refine below_set ?_ GE144.out | refine below_set ?_ GE145.out) | exact HB.out)⟩
                ·rw [if_neg c36] at H
                 exact absurd H (by simp)
               ·rw [if_neg c34] at H
                exact absurd H (by simp)
              ·rw [if_neg c33] at H
               exact absurd H (by simp)
             ·rw [if_neg c32] at H
              exact absurd H (by simp)
        ·rw [if_neg c14] at H
         exact absurd H (by simp)
       ·rw [if_neg c13] at H
        exact absurd H (by simp)
     ·rw [if_neg c6] at H
      exact absurd H (by simp)
    ·rw [if_neg c5] at H
     exact absurd H (by simp)
   ·rw [if_neg c4] at H
    have c4b0 : decide (x146001_1 < (l0.length : Int)) = false := decide_eq_false c4
    clear c4
    simp only [Option.some.injEq, Prod.mk.injEq] at H
    obtain ⟨rfl, rfl, rfl⟩ := H
    have hnb65 := NB145_144.out
    have hnc65 := NB144_145.out
    obtain ⟨hcz66_0, hcz66_1, hcz66_2, hfz66_0, hfz66_1, hfz66_2⟩ := blk_all3 BK145.out
    obtain ⟨Ao67, co67, eo67⟩ := Kd.N_slice HO_146000.out
    subst eo67
    obtain ⟨hcz68_0, hcz68_1, hcz68_2, hfz68_0, hfz68_1, hfz68_2⟩ := blk_all3 BK144.out
    go_wp2
    refine bodyPost_ret (results_cell_row rfl _ _ gb144 94 #[.slice Ao67 x146000_1.length co67, .int .i64 x146001_1, .int .i64 x146002_1] (0, 0) _ rfl (by (with_reducible repeat (first | refine bN ?_ _ | refine bD ?_ | refine bA ?_ _)); refine blk_put (cs := #[.slice Ao67 x146000_1.length co67, .int .i64 x146001_1, .int .i64 x145002_1]) ?_ 2 _ rfl; (with_reducible repeat (first | refine bN ?_ _ | refine bD ?_ | refine bA ?_ _)); refine blk_put (cs := #[.slice Ao67 x146000_1.length co67, .int .i64 x145001_1, .int .i64 x145002_1]) ?_ 1 _ rfl; (with_reducible repeat (first | refine bN ?_ _ | refine bD ?_ | refine bA ?_ _)); refine blk_put (cs := #[.slice none 0 0, .int .i64 x145001_1, .int .i64 x145002_1]) ?_ 0 _ rfl; (with_reducible repeat (first | refine bN ?_ _ | refine bD ?_ | refine bA ?_ _)); exact BK144.out) Try.underlying94 rfl (by kernel_rfl)) rfl ?_
    exact ⟨_, by first | rfl | (simp [errW_none, errW_some] <;> rfl) | (simp [*, errW_none, errW_some] <;> rfl), by (with_reducible repeat (first | apply Kd.N_alloc | apply Kd.N_drewN | apply Kd.N_drew)); exact Kd.N_mono (Kd.N_far (p := ⟨gb144, 2, none⟩) (Kd.N_far (p := ⟨gb144, 1, none⟩) (Kd.N_far (p := ⟨gb144, 0, none⟩) (Kd.N_mono HO_146000.out (fun k_ hk => (⟨hk, hk.2.1⟩ : _ ∧ k_ ≠ gb144))) (fun _ hk => hk.2) (.slice Ao67 x146000_1.length co67)) (fun _ hk => hk.2) (.int .i64 x146001_1)) (fun _ hk => hk.2) (.int .i64 x146002_1)) (fun _ hk => hk.1.1), by repeat (first | (with_reducible first | exact HB.out | apply below_alloc | apply pw_below_drewN | apply below_drew1 | refine below_set ?_ GE144.out | refine below_set ?_ GE145.out) | exact HB.out)⟩

end Go.Proofs.Ytmfmoddaejoekaa.P
