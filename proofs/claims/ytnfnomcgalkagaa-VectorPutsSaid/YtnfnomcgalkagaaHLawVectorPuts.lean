/- A vector is put as just the document's bytes, or refused: for any list and any bytes ahead. -/
import Derived.Test.YtnfnomcgalkagaaHFew
import Derived.Test.YtnfnomcgalkagaaVPut
import Derived.Test.YtnfnomcgalkagaaHVLives
import Derived.Test.YtnfnomcgalkagaaP9
import Derived.Test.YtnfnomcgalkagaaP12
import Derived.Test.YtnfnomcgalkagaaP9
import Derived.OpenShut
import Derived.Outline
namespace Go.Proofs.Ytnfnomcgalkagaa.P
open Go.RowKit Go.Proofs.YtnfnomcgalkagaaW.PrintWords Go.Proofs.YtnfnomcgalkagaaW.PrintLast Go.Proofs.YtnfnomcgalkagaaW.PrintMore
set_option linter.unusedVariables false
set_option linter.unusedSimpArgs false

set_option maxHeartbeats 1000000 in
set_option maxRecDepth 100000 in
theorem liverylaw10_VectorPuts.walk (a0 : Option Addr) (len0 cap0 : Nat) (z0 : List Int) (a1 : Option Addr) (len1 cap1 : Nat) (z1 : List Int) (w : World) (w0 : (a0 = none ∧ len0 = 0 ∧ cap0 = 0 ∧ z0 = []) ∨ ∃ x, a0 = some x ∧ len0 ≤ cap0 ∧ cap0 ≤ maxLen ∧ z0.length = cap0 ∧ (∀ i, i < z0.length → w.cell? (x.add i) = some (.int .u8 (z0.getD i 0))) ∧ ∀ n ∈ z0, (Lit.int .u8 n).wf = true) (y0 : len0 * 1 ≤ 140737488351232) (w1 : (a1 = none ∧ len1 = 0 ∧ cap1 = 0 ∧ z1 = []) ∨ ∃ x, a1 = some x ∧ len1 ≤ cap1 ∧ cap1 ≤ maxLen ∧ z1.length = cap1 ∧ (∀ i, i < z1.length → w.cell? (x.add i) = some (.int .i64 (z1.getD i 0))) ∧ ∀ n ∈ z1, (Lit.int .i64 n).wf = true) (y1 : len1 * 8 ≤ 140737488351232) :
    Calls Try.prog 7 #[.slice a0 len0 cap0, .slice a1 len1 cap1] w fun e w' => e = .returned (.bool true) ∧ Below w.heap.size w w' := by
  obtain ⟨l0, rfl, hr0, hm0, hw0, hc0⟩ := ReadsInt.ofRowC w0
  have L0 := Aside0.mk (Kd.C_of_reads (d := (0 : Int)) (h1 := fun _ => rfl) hr0)
  have L0c := Aside0.mk hc0
  clear hr0 hc0 hm0 w0
  obtain ⟨l1, rfl, hr1, hm1, hw1, hc1⟩ := ReadsInt.ofRowC w1
  have L1 := Aside0.mk (Kd.C_of_reads (d := (0 : Int)) (h1 := fun _ => rfl) hr1)
  have L1c := Aside0.mk hc1
  clear hr1 hc1 hm1 w1
  obtain ⟨v, ev⟩ : ∃ v, v = l1.take 20 := ⟨_, rfl⟩
  have hv : v.length ≤ 20 := by rw [ev, List.length_take]; omega
  have hvw : ∀ x ∈ v, x ≤ 9223372036854775807 := fun x hx => (Go.bounds_i64 (hw1 x (List.mem_of_mem_take (ev ▸ hx)))).2
  have efew := Aside0.mk (show liverylaw10_few.f l1 = some v by rw [few_eq, ev])
  obtain ⟨u, eu⟩ : ∃ u, u = l0.take 20 := ⟨_, rfl⟩
  have hu : u.length ≤ 20 := by rw [eu, List.length_take]; omega
  have hp := prog_Put 101 u v (by omega) hv hvw (by omega)
  have hq := ref_Put 101 u v (by omega) hv hvw (by omega)
  have hl := putV_length v hv hvw
  obtain ⟨⟨r1, r2⟩, er⟩ : ∃ p : List Int × Int, p = (if v = bareOf (getV v) then (u ++ putV v, 0) else ([], 1)) := ⟨_, rfl⟩
  have hr : r1.length ≤ 1000 := by
    by_cases h : v = bareOf (getV v)
    · rw [if_pos h] at er; cases er; rw [List.length_append]; omega
    · rw [if_neg h] at er; cases er; simp
  rw [← er] at hp hq
  have hs : liveryref01_Same.f 1001 r1 r1 = some true := by rw [ref01_Same 1001 r1 r1 (by omega) (by omega)]; simp
  have hp_ := Aside0.mk hp
  have hq_ := Aside0.mk hq
  have hs_ := Aside0.mk hs
  clear hp hq hs hr hl hv hvw hw0 hw1 er ev y0 y1
  by_cases c20 : (20 : Int) < (l0.length : Int)
  · have hcap : (20 : Int) ≤ (cap0 : Int) := by have := L0c.out; omega
    have L0k : Aside0 (20 ≤ cap0) := ⟨by omega⟩
    have e20 : Aside0 (Value.slice a0 20 cap0 = Value.slice a0 u.length cap0) := ⟨by rw [eu, List.length_take, Nat.min_eq_left (by omega)]⟩
    have Uc : Aside0 (u.length ≤ cap0) := ⟨by omega⟩
    have U : Aside0 ((Kd.int .u8).C w a0 u.length u) := ⟨by rw [eu]; exact Kd.C_take (m := 20) L0.out (by omega)⟩
    obtain ⟨i06, hi06, _, _, _⟩ := info_parts info5
    have hcut := cut_to (P := Try.prog) 32 5 .i64 Try.underlying32 hi06 a0 l0.length cap0 20 (by decide) (by omega) L0c.out
    rw [show Int.toNat 20 = u.length by rw [eu, List.length_take]; simp; omega] at hcut
    clear hi06
    clear hcap hu eu
    have c20b : decide ((20 : Int) < (l0.length : Int)) = true := decide_eq_true c20
    clear c20
    go_enter Try.func7, Try.ntmps7
    have HB := Aside0.mk (Below.refl w.heap.size w)
    go_wp2_with fail
    refine (few10_C a1 cap1 l1 v w (L1.out) L1c.out efew.out).mono ?_
    rintro e w1 ⟨v1, rfl, hv1, hb1⟩
    have HD : Aside0 (Below w.heap.size w w1) := ⟨below_step (Below.refl _ _) hb1⟩
    clear hb1
    have L0_ := Aside0.mk (Kd.C_below L0.out HD.out)
    clear L0
    have L0 := L0_
    clear L0_
    have L1_ := Aside0.mk (Kd.C_below L1.out HD.out)
    clear L1
    have L1 := L1_
    clear L1_
    have HB_ := Aside0.mk (below_step HB.out HD.out)
    clear HB HD
    have HB := HB_
    clear HB_
    obtain ⟨A1, c1, ev1⟩ := Kd.V_slice hv1
    subst ev1
    have AVc := Aside0.mk (Kd.V_reads' hv1).2.1
    have AV := Aside0.mk (Kd.V_reads' hv1).2.2
    clear hv1
    go_wp2_with fail
    clear L1 L1c
    have U_ := Aside0.mk (Kd.C_below U.out HB.out)
    clear U
    have U := U_
    clear U_
    refine (vector_Put.calls 101 a0 cap0 u A1 c1 v r1 r2 w1 (U.out) Uc.out (AV.out) AVc.out hp_.out).mono ?_
    rintro e w2 ⟨v2, rfl, hv2, hb2⟩
    have HD : Aside0 (Below w1.heap.size w1 w2) := ⟨below_step (Below.refl _ _) hb2⟩
    clear hb2
    have AV_ := Aside0.mk (Kd.C_below AV.out HD.out)
    clear AV
    have AV := AV_
    clear AV_
    have U_ := Aside0.mk (Kd.C_below U.out HD.out)
    clear U
    have U := U_
    clear U_
    have HB_ := Aside0.mk (below_step HB.out HD.out)
    clear HB HD
    have HB := HB_
    clear HB_
    obtain ⟨A2, c2, ev2⟩ := Kd.R_slice hv2
    subst ev2
    have Pvc := Aside0.mk (Kd.R_reads' hv2).2.1
    have Pv := Aside0.mk (Kd.R_reads' hv2).2.2
    clear hv2
    go_wp2_with fail
    refine (liveryref10_Put.calls 101 a0 cap0 u A1 c1 v r1 r2 w2 (U.out) Uc.out (AV.out) AVc.out hq_.out).mono ?_
    rintro e w3 ⟨v3, rfl, hv3, hb3⟩
    have HD : Aside0 (Below w2.heap.size w2 w3) := ⟨below_step (Below.refl _ _) hb3⟩
    clear hb3
    have AV_ := Aside0.mk (Kd.C_below AV.out HD.out)
    clear AV
    have AV := AV_
    clear AV_
    have U_ := Aside0.mk (Kd.C_below U.out HD.out)
    clear U
    have U := U_
    clear U_
    have Pv_ := Aside0.mk (Kd.C_below Pv.out HD.out)
    clear Pv
    have Pv := Pv_
    clear Pv_
    have HB_ := Aside0.mk (below_step HB.out HD.out)
    clear HB HD
    have HB := HB_
    clear HB_
    obtain ⟨A3, c3, ev3⟩ := Kd.R_slice hv3
    subst ev3
    have Plc := Aside0.mk (Kd.R_reads' hv3).2.1
    have Pl := Aside0.mk (Kd.R_reads' hv3).2.2
    clear hv3
    go_wp2_with fail
    refine (liveryref01_Same.calls 1001 A2 c2 r1 A3 c3 r1 true w3 (Pv.out) Pvc.out (Pl.out) Plc.out hs_.out).mono ?_
    rintro e w_ ⟨rfl, ⟨n4, rfl⟩⟩
    obtain ⟨w4, e4⟩ : ∃ W_ : World, W_ = World.drewN w3 n4 := ⟨_, rfl⟩
    have HD : Aside0 (Below w3.heap.size w3 w4) := ⟨by rw [e4]; exact pw_below_drewN (Below.refl _ _) _⟩
    rw [← e4]
    clear e4
    have AV_ := Aside0.mk (Kd.C_below AV.out HD.out)
    clear AV
    have AV := AV_
    clear AV_
    have U_ := Aside0.mk (Kd.C_below U.out HD.out)
    clear U
    have U := U_
    clear U_
    have Pv_ := Aside0.mk (Kd.C_below Pv.out HD.out)
    clear Pv
    have Pv := Pv_
    clear Pv_
    have Pl_ := Aside0.mk (Kd.C_below Pl.out HD.out)
    clear Pl
    have Pl := Pl_
    clear Pl_
    have HB_ := Aside0.mk (below_step HB.out HD.out)
    clear HB HD
    have HB := HB_
    clear HB_
    go_wp2_with fail
    refine (liverylaw10_lives.calls (true) w4  rfl).mono ?_
    rintro e w5 ⟨rfl, hb5⟩
    have HD : Aside0 (Below w4.heap.size w4 w5) := ⟨below_step (Below.refl _ _) hb5⟩
    clear hb5
    have AV_ := Aside0.mk (Kd.C_below AV.out HD.out)
    clear AV
    have AV := AV_
    clear AV_
    have U_ := Aside0.mk (Kd.C_below U.out HD.out)
    clear U
    have U := U_
    clear U_
    have Pv_ := Aside0.mk (Kd.C_below Pv.out HD.out)
    clear Pv
    have Pv := Pv_
    clear Pv_
    have Pl_ := Aside0.mk (Kd.C_below Pl.out HD.out)
    clear Pl
    have Pl := Pl_
    clear Pl_
    have HB_ := Aside0.mk (below_step HB.out HD.out)
    clear HB HD
    have HB := HB_
    clear HB_
    go_wp2_with fail
    go_ret
    exact ⟨rfl, HB.out⟩
  · have e0 : u = l0 := by rw [eu]; exact List.take_of_length_le (by omega)
    rw [e0] at hp_ hq_
    clear e0 eu hu
    have c20b : decide ((20 : Int) < (l0.length : Int)) = false := decide_eq_false c20
    clear c20
    go_enter Try.func7, Try.ntmps7
    have HB := Aside0.mk (Below.refl w.heap.size w)
    go_wp2_with fail
    refine (few10_C a1 cap1 l1 v w (L1.out) L1c.out efew.out).mono ?_
    rintro e w1 ⟨v1, rfl, hv1, hb1⟩
    have HD : Aside0 (Below w.heap.size w w1) := ⟨below_step (Below.refl _ _) hb1⟩
    clear hb1
    have L0_ := Aside0.mk (Kd.C_below L0.out HD.out)
    clear L0
    have L0 := L0_
    clear L0_
    have L1_ := Aside0.mk (Kd.C_below L1.out HD.out)
    clear L1
    have L1 := L1_
    clear L1_
    have HB_ := Aside0.mk (below_step HB.out HD.out)
    clear HB HD
    have HB := HB_
    clear HB_
    obtain ⟨A1, c1, ev1⟩ := Kd.V_slice hv1
    subst ev1
    have AVc := Aside0.mk (Kd.V_reads' hv1).2.1
    have AV := Aside0.mk (Kd.V_reads' hv1).2.2
    clear hv1
    go_wp2_with fail
    clear L1 L1c
    refine (vector_Put.calls 101 a0 cap0 l0 A1 c1 v r1 r2 w1 (L0.out) L0c.out (AV.out) AVc.out hp_.out).mono ?_
    rintro e w2 ⟨v2, rfl, hv2, hb2⟩
    have HD : Aside0 (Below w1.heap.size w1 w2) := ⟨below_step (Below.refl _ _) hb2⟩
    clear hb2
    have L0_ := Aside0.mk (Kd.C_below L0.out HD.out)
    clear L0
    have L0 := L0_
    clear L0_
    have AV_ := Aside0.mk (Kd.C_below AV.out HD.out)
    clear AV
    have AV := AV_
    clear AV_
    have HB_ := Aside0.mk (below_step HB.out HD.out)
    clear HB HD
    have HB := HB_
    clear HB_
    obtain ⟨A2, c2, ev2⟩ := Kd.R_slice hv2
    subst ev2
    have Pvc := Aside0.mk (Kd.R_reads' hv2).2.1
    have Pv := Aside0.mk (Kd.R_reads' hv2).2.2
    clear hv2
    go_wp2_with fail
    refine (liveryref10_Put.calls 101 a0 cap0 l0 A1 c1 v r1 r2 w2 (L0.out) L0c.out (AV.out) AVc.out hq_.out).mono ?_
    rintro e w3 ⟨v3, rfl, hv3, hb3⟩
    have HD : Aside0 (Below w2.heap.size w2 w3) := ⟨below_step (Below.refl _ _) hb3⟩
    clear hb3
    have L0_ := Aside0.mk (Kd.C_below L0.out HD.out)
    clear L0
    have L0 := L0_
    clear L0_
    have AV_ := Aside0.mk (Kd.C_below AV.out HD.out)
    clear AV
    have AV := AV_
    clear AV_
    have Pv_ := Aside0.mk (Kd.C_below Pv.out HD.out)
    clear Pv
    have Pv := Pv_
    clear Pv_
    have HB_ := Aside0.mk (below_step HB.out HD.out)
    clear HB HD
    have HB := HB_
    clear HB_
    obtain ⟨A3, c3, ev3⟩ := Kd.R_slice hv3
    subst ev3
    have Plc := Aside0.mk (Kd.R_reads' hv3).2.1
    have Pl := Aside0.mk (Kd.R_reads' hv3).2.2
    clear hv3
    go_wp2_with fail
    refine (liveryref01_Same.calls 1001 A2 c2 r1 A3 c3 r1 true w3 (Pv.out) Pvc.out (Pl.out) Plc.out hs_.out).mono ?_
    rintro e w_ ⟨rfl, ⟨n4, rfl⟩⟩
    obtain ⟨w4, e4⟩ : ∃ W_ : World, W_ = World.drewN w3 n4 := ⟨_, rfl⟩
    have HD : Aside0 (Below w3.heap.size w3 w4) := ⟨by rw [e4]; exact pw_below_drewN (Below.refl _ _) _⟩
    rw [← e4]
    clear e4
    have L0_ := Aside0.mk (Kd.C_below L0.out HD.out)
    clear L0
    have L0 := L0_
    clear L0_
    have AV_ := Aside0.mk (Kd.C_below AV.out HD.out)
    clear AV
    have AV := AV_
    clear AV_
    have Pv_ := Aside0.mk (Kd.C_below Pv.out HD.out)
    clear Pv
    have Pv := Pv_
    clear Pv_
    have Pl_ := Aside0.mk (Kd.C_below Pl.out HD.out)
    clear Pl
    have Pl := Pl_
    clear Pl_
    have HB_ := Aside0.mk (below_step HB.out HD.out)
    clear HB HD
    have HB := HB_
    clear HB_
    go_wp2_with fail
    refine (liverylaw10_lives.calls (true) w4  rfl).mono ?_
    rintro e w5 ⟨rfl, hb5⟩
    have HD : Aside0 (Below w4.heap.size w4 w5) := ⟨below_step (Below.refl _ _) hb5⟩
    clear hb5
    have L0_ := Aside0.mk (Kd.C_below L0.out HD.out)
    clear L0
    have L0 := L0_
    clear L0_
    have AV_ := Aside0.mk (Kd.C_below AV.out HD.out)
    clear AV
    have AV := AV_
    clear AV_
    have Pv_ := Aside0.mk (Kd.C_below Pv.out HD.out)
    clear Pv
    have Pv := Pv_
    clear Pv_
    have Pl_ := Aside0.mk (Kd.C_below Pl.out HD.out)
    clear Pl
    have Pl := Pl_
    clear Pl_
    have HB_ := Aside0.mk (below_step HB.out HD.out)
    clear HB HD
    have HB := HB_
    clear HB_
    go_wp2_with fail
    go_ret
    exact ⟨rfl, HB.out⟩
end Go.Proofs.Ytnfnomcgalkagaa.P
