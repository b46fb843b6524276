/- Contract, typed by a program of this session's, of layer 10's examples: all hold. -/
import Derived.Test.YtpnmmkoiemeodaaHVector
import Derived.Test.YtpnmmkoiemeodaaP9
import Derived.Test.YtpnmmkoiemeodaaP12
import Derived.Test.YtpnmmkoiemeodaaP5
import Derived.Test.YtpnmmkoiemeodaaP5
import Derived.Test.YtpnmmkoiemeodaaP9
namespace Go.Proofs.Ytpnmmkoiemeodaa.P
open Go.RowKit Go.Proofs.YtpnmmkoiemeodaaW.PrintWords Go.Proofs.YtpnmmkoiemeodaaW.PrintLast Go.Proofs.YtpnmmkoiemeodaaW.PrintMore
set_option linter.unusedVariables false
set_option linter.unusedSimpArgs false
def liverylaw10_lives.f : Option Bool := some true
set_option maxHeartbeats 4000000 in
theorem liverylaw10_lives.calls (r : Bool) (w : World) (h : liverylaw10_lives.f = some r) :
    Calls Try.prog 12 #[] w fun e w' => e = .returned (.bool r) ∧ Below w.heap.size w w' := by
  cases h
  go_enter Try.func12, Try.ntmps12
  have HB := Aside0.mk (Below.refl w.heap.size w)
  go_wp2_with fail

  refine (vector_Join.calls (some ⟨w.heap.size, 0, none⟩) 3 [1, 0, 3] (some ⟨w.heap.size + 1, 0, none⟩) 2 [0, 2] [1, 2, 3] ((w.alloc (.cells #[.int .i64 1, .int .i64 0, .int .i64 3] 3)).alloc (.cells #[.int .i64 0, .int .i64 2] 3)) (Kd.C_alloc (lit_C' (k := .i64) w (w.heap.size) (by simp) 3 [1, 0, 3] _ rfl (by decide)) _) (by decide) (lit_C' (k := .i64) (w.alloc (.cells #[.int .i64 1, .int .i64 0, .int .i64 3] 3)) (w.heap.size + 1) (by simp) 3 [0, 2] _ rfl (by decide)) (by decide) (by decide +kernel)).mono ?_
  rintro e w1 ⟨v1, rfl, hv1, hb1⟩
  have HD1 : Aside0 (Below w.heap.size w w1) := ⟨below_step (below_alloc (below_alloc (Below.refl _ _) _) _) hb1⟩
  clear hb1
  have HB1 := Aside0.mk (below_step HB.out HD1.out)
  clear HB
  have HB := HB1
  clear HB1 HD1
  obtain ⟨A1, c1, ev1⟩ := Kd.V_slice hv1
  subst ev1
  have V1 := Aside0.mk (Kd.V_reads' hv1)
  clear hv1
  go_wp2_with fail
  refine (liveryref10_Same.calls 9 A1 c1 [1, 2, 3] (some ⟨w1.heap.size, 0, none⟩) 3 [1, 2, 3] true (w1.alloc (.cells #[.int .i64 1, .int .i64 2, .int .i64 3] 3)) (Kd.C_alloc (V1.out.2.2) _) V1.out.2.1 (lit_C' (k := .i64) w1 (w1.heap.size) (by simp) 3 [1, 2, 3] _ rfl (by decide)) (by decide) (by decide +kernel)).mono ?_
  rintro e w_ ⟨rfl, ⟨n2, rfl⟩⟩
  obtain ⟨w2, e2⟩ : ∃ W_ : World, W_ = World.drewN (w1.alloc (.cells #[.int .i64 1, .int .i64 2, .int .i64 3] 3)) n2 := ⟨_, rfl⟩
  have HD2 : Aside0 (Below w1.heap.size w1 w2) := ⟨by rw [e2]; exact pw_below_drewN (below_alloc (Below.refl _ _) _) _⟩
  rw [← e2]
  clear e2
  have V1n := Aside0.mk (And.intro V1.out.1 (And.intro V1.out.2.1 (Kd.C_below V1.out.2.2 HD2.out)))
  clear V1
  have V1 := V1n
  clear V1n
  have HB2 := Aside0.mk (below_step HB.out HD2.out)
  clear HB
  have HB := HB2
  clear HB2 HD2
  go_wp2_with fail
  refine (vector_With.calls (some ⟨w2.heap.size, 0, none⟩) 3 [1, 0, 3] (3) (0) [1] (w2.alloc (.cells #[.int .i64 1, .int .i64 0, .int .i64 3] 3)) (lit_C' (k := .i64) w2 (w2.heap.size) (by simp) 3 [1, 0, 3] _ rfl (by decide)) (by decide) (by decide +kernel)).mono ?_
  rintro e w3 ⟨v3, rfl, hv3, hb3⟩
  have HD3 : Aside0 (Below w2.heap.size w2 w3) := ⟨below_step (below_alloc (Below.refl _ _) _) hb3⟩
  clear hb3
  have HB3 := Aside0.mk (below_step HB.out HD3.out)
  clear HB
  have HB := HB3
  clear HB3 HD3
  obtain ⟨A3, c3, ev3⟩ := Kd.V_slice hv3
  subst ev3
  have V3 := Aside0.mk (Kd.V_reads' hv3)
  clear hv3
  go_wp2_with fail
  refine (liveryref10_Same.calls 9 A3 c3 [1] (some ⟨w3.heap.size, 0, none⟩) 1 [1] true (w3.alloc (.cells #[.int .i64 1] 3)) (Kd.C_alloc (V3.out.2.2) _) V3.out.2.1 (lit_C' (k := .i64) w3 (w3.heap.size) (by simp) 3 [1] _ rfl (by decide)) (by decide) (by decide +kernel)).mono ?_
  rintro e w_ ⟨rfl, ⟨n4, rfl⟩⟩
  obtain ⟨w4, e4⟩ : ∃ W_ : World, W_ = World.drewN (w3.alloc (.cells #[.int .i64 1] 3)) n4 := ⟨_, rfl⟩
  have HD4 : Aside0 (Below w3.heap.size w3 w4) := ⟨by rw [e4]; exact pw_below_drewN (below_alloc (Below.refl _ _) _) _⟩
  rw [← e4]
  clear e4
  have V3n := Aside0.mk (And.intro V3.out.1 (And.intro V3.out.2.1 (Kd.C_below V3.out.2.2 HD4.out)))
  clear V3
  have V3 := V3n
  clear V3n
  have HB4 := Aside0.mk (below_step HB.out HD4.out)
  clear HB
  have HB := HB4
  clear HB4 HD4
  go_wp2_with fail
  refine (vector_Put.calls 9 none 0 ([] : List Int) (some ⟨w4.heap.size, 0, none⟩) 2 [1, 2] [1, 2, 1, 1, 1, 2] 0 (w4.alloc (.cells #[.int .i64 1, .int .i64 2] 3)) (Kd.C_nil _ _) (by decide) (lit_C' (k := .i64) w4 (w4.heap.size) (by simp) 3 [1, 2] _ rfl (by decide)) (by decide) (by decide +kernel)).mono ?_
  rintro e w5 ⟨v5, rfl, hv5, hb5⟩
  have HD5 : Aside0 (Below w4.heap.size w4 w5) := ⟨below_step (below_alloc (Below.refl _ _) _) hb5⟩
  clear hb5
  have HB5 := Aside0.mk (below_step HB.out HD5.out)
  clear HB
  have HB := HB5
  clear HB5 HD5
  obtain ⟨A5, c5, ev5⟩ := Kd.R_slice hv5
  subst ev5
  have V5 := Aside0.mk (Kd.R_reads' hv5)
  clear hv5
  go_wp2_with fail
  refine (liveryref01_Same.calls 9 A5 c5 [1, 2, 1, 1, 1, 2] (some ⟨w5.heap.size, 0, none⟩) 6 [1, 2, 1, 1, 1, 2] true (w5.alloc (.cells #[.int .u8 1, .int .u8 2, .int .u8 1, .int .u8 1, .int .u8 1, .int .u8 2] 5)) (Kd.C_alloc (V5.out.2.2) _) V5.out.2.1 (lit_C' (k := .u8) w5 (w5.heap.size) (by simp) 5 [1, 2, 1, 1, 1, 2] _ rfl (by decide)) (by decide) (by decide +kernel)).mono ?_
  rintro e w_ ⟨rfl, ⟨n6, rfl⟩⟩
  obtain ⟨w6, e6⟩ : ∃ W_ : World, W_ = World.drewN (w5.alloc (.cells #[.int .u8 1, .int .u8 2, .int .u8 1, .int .u8 1, .int .u8 1, .int .u8 2] 5)) n6 := ⟨_, rfl⟩
  have HD6 : Aside0 (Below w5.heap.size w5 w6) := ⟨by rw [e6]; exact pw_below_drewN (below_alloc (Below.refl _ _) _) _⟩
  rw [← e6]
  clear e6
  have V5n := Aside0.mk (And.intro V5.out.1 (And.intro V5.out.2.1 (Kd.C_below V5.out.2.2 HD6.out)))
  clear V5
  have V5 := V5n
  clear V5n
  have HB6 := Aside0.mk (below_step HB.out HD6.out)
  clear HB
  have HB := HB6
  clear HB6 HD6
  go_wp2_with fail
  refine (vector_Covers.calls 9 (some ⟨w6.heap.size, 0, none⟩) 1 [1] (some ⟨w6.heap.size + 1, 0, none⟩) 2 [1, 0] true ((w6.alloc (.cells #[.int .i64 1] 3)).alloc (.cells #[.int .i64 1, .int .i64 0] 3)) (Kd.C_alloc (lit_C' (k := .i64) w6 (w6.heap.size) (by simp) 3 [1] _ rfl (by decide)) _) (by decide) (lit_C' (k := .i64) (w6.alloc (.cells #[.int .i64 1] 3)) (w6.heap.size + 1) (by simp) 3 [1, 0] _ rfl (by decide)) (by decide) (by decide +kernel)).mono ?_
  rintro e w7 ⟨rfl, hb7⟩
  have HD7 : Aside0 (Below w6.heap.size w6 w7) := ⟨below_step (below_alloc (below_alloc (Below.refl _ _) _) _) hb7⟩
  clear hb7
  have HB7 := Aside0.mk (below_step HB.out HD7.out)
  clear HB
  have HB := HB7
  clear HB7 HD7
  go_wp2_with fail
  refine (vector_Covers.calls 9 none 0 ([] : List Int) (some ⟨w7.heap.size, 0, none⟩) 1 [1] false (w7.alloc (.cells #[.int .i64 1] 3)) (Kd.C_nil _ _) (by decide) (lit_C' (k := .i64) w7 (w7.heap.size) (by simp) 3 [1] _ rfl (by decide)) (by decide) (by decide +kernel)).mono ?_
  rintro e w8 ⟨rfl, hb8⟩
  have HD8 : Aside0 (Below w7.heap.size w7 w8) := ⟨below_step (below_alloc (Below.refl _ _) _) hb8⟩
  clear hb8
  have HB8 := Aside0.mk (below_step HB.out HD8.out)
  clear HB
  have HB := HB8
  clear HB8 HD8
  go_wp2_with fail
  refine (vector_Get.calls (some ⟨w8.heap.size, 0, none⟩) 1 [7] (1) 7 (w8.alloc (.cells #[.int .i64 7] 3)) (lit_C' (k := .i64) w8 (w8.heap.size) (by simp) 3 [7] _ rfl (by decide)) (by decide) (by decide +kernel)).mono ?_
  rintro e w9 ⟨rfl, hb9⟩
  have HD9 : Aside0 (Below w8.heap.size w8 w9) := ⟨below_step (below_alloc (Below.refl _ _) _) hb9⟩
  clear hb9
  have HB9 := Aside0.mk (below_step HB.out HD9.out)
  clear HB
  have HB := HB9
  clear HB9 HD9
  go_wp2_with fail
  refine (vector_May.calls 9 (some ⟨w9.heap.size, 0, none⟩) 1 [0] false (w9.alloc (.cells #[.int .i64 0] 3)) (lit_C' (k := .i64) w9 (w9.heap.size) (by simp) 3 [0] _ rfl (by decide)) (by decide) (by decide +kernel)).mono ?_
  rintro e w10 ⟨rfl, hb10⟩
  have HD10 : Aside0 (Below w9.heap.size w9 w10) := ⟨below_step (below_alloc (Below.refl _ _) _) hb10⟩
  clear hb10
  have HB10 := Aside0.mk (below_step HB.out HD10.out)
  clear HB
  have HB := HB10
  clear HB10 HD10
  go_wp2_with fail
  go_ret
  exact ⟨rfl, HB.out⟩
end Go.Proofs.Ytpnmmkoiemeodaa.P
