/- Contract, printed by a program of this session's, of layer 3's examples: all hold. -/
import Derived.Test.YtnfnomcgalkagaaHMethods
import Derived.Test.YtnfnomcgalkagaaHNew
import Derived.Test.YtnfnomcgalkagaaP15
import Derived.Outline
namespace Go.Proofs.Ytnfnomcgalkagaa.P
open Go.RowKit Go.Proofs.YtnfnomcgalkagaaW.PrintWords Go.Proofs.YtnfnomcgalkagaaW.PrintLast Go.Proofs.YtnfnomcgalkagaaW.PrintMore
set_option linter.unusedVariables false
set_option linter.unusedSimpArgs false
def liverylaw03_lives.f : Option Bool := some true
set_option maxHeartbeats 4000000 in
theorem liverylaw03_lives.calls (r : Bool) (w : World) (h : liverylaw03_lives.f = some r) :
    Calls Try.prog 38 #[] w fun e w' => e = .returned (.bool r) ∧ Below w.heap.size w w' := by
  cases h
  go_enter Try.func38, Try.ntmps38
  have HB := Aside0.mk (Below.refl w.heap.size w)
  go_wp2_with fail
  refine (wire_Number.calls none 0 ([] : List Int) (256) [2, 1, 0] w (Kd.C_nil _ _) (by decide) (by decide +kernel)).mono ?_
  rintro e w1 ⟨v1, rfl, hv1, hb1⟩
  have HD : Aside0 (Below w.heap.size w w1) := ⟨below_step (Below.refl _ _) hb1⟩
  clear hb1
  have HB_ := Aside0.mk (below_step HB.out HD.out)
  clear HB HD
  have HB := HB_
  clear HB_
  obtain ⟨A1, c1, ev1⟩ := Kd.R_slice hv1
  subst ev1
  have VAc := Aside0.mk (Kd.R_reads' hv1).2.1
  have VA := Aside0.mk (Kd.R_reads' hv1).2.2
  clear hv1
  go_wp2_with fail
  refine (wire_Text.calls none 0 ([] : List Int) ((⟨#[97, 98]⟩ : ByteArray)) [1, 2, 97, 98] w1 (Kd.C_nil _ _) (by decide) (by decide +kernel)).mono ?_
  rintro e w2 ⟨v2, rfl, hv2, hb2⟩
  have HD : Aside0 (Below w1.heap.size w1 w2) := ⟨below_step (Below.refl _ _) hb2⟩
  clear hb2
  have VA_ := Aside0.mk (Kd.C_below VA.out HD.out)
  clear VA
  have VA := VA_
  clear VA_
  have HB_ := Aside0.mk (below_step HB.out HD.out)
  clear HB HD
  have HB := HB_
  clear HB_
  obtain ⟨A2, c2, ev2⟩ := Kd.R_slice hv2
  subst ev2
  have VBc := Aside0.mk (Kd.R_reads' hv2).2.1
  have VB := Aside0.mk (Kd.R_reads' hv2).2.2
  clear hv2
  go_wp2_with fail
  refine (wire_New.calls (some ⟨w2.heap.size, 0, none⟩) 2 [1, 0] (w2.alloc (.cells #[.int .u8 1, .int .u8 0] 5)) (lit_C' (k := .u8) w2 (w2.heap.size) (by simp) 5 [1, 0] _ rfl (by decide)) (by decide)).mono ?_
  rintro e w3 ⟨g3, rfl, hg3, hn3, hb3⟩
  have HD : Aside0 (Below w2.heap.size w2 w3) := ⟨below_step (below_alloc (Below.refl _ _) _) hb3⟩
  clear hb3
  have HG3 : Aside0 (w.heap.size ≤ g3) := ⟨by have := HB.out.size; (try simp at hg3); omega⟩
  have HX3 : Aside0 (w2.heap.size ≤ g3) := ⟨by (try simp at hg3); omega⟩
  clear hg3
  have VA_ := Aside0.mk (Kd.C_below VA.out HD.out)
  clear VA
  have VA := VA_
  clear VA_
  have VB_ := Aside0.mk (Kd.C_below VB.out HD.out)
  clear VB
  have VB := VB_
  clear VB_
  have HB_ := Aside0.mk (below_step HB.out HD.out)
  clear HB HD
  have HB := HB_
  clear HB_
  have C := Aside0.mk hn3
  clear hn3
  go_wp2_with fail
  have HLC_D := Aside0.mk C.out.lt
  refine (wire_New.calls (some ⟨w3.heap.size, 0, none⟩) 2 [2, 1] (w3.alloc (.cells #[.int .u8 2, .int .u8 1] 5)) (lit_C' (k := .u8) w3 (w3.heap.size) (by simp) 5 [2, 1] _ rfl (by decide)) (by decide)).mono ?_
  rintro e w4 ⟨g4, rfl, hg4, hn4, hb4⟩
  have HD : Aside0 (Below w3.heap.size w3 w4) := ⟨below_step (below_alloc (Below.refl _ _) _) hb4⟩
  clear hb4
  have HG4 : Aside0 (w.heap.size ≤ g4) := ⟨by have := HB.out.size; (try simp at hg4); omega⟩
  have HX4 : Aside0 (w3.heap.size ≤ g4) := ⟨by (try simp at hg4); omega⟩
  clear hg4
  have VA_ := Aside0.mk (Kd.C_below VA.out HD.out)
  clear VA
  have VA := VA_
  clear VA_
  have VB_ := Aside0.mk (Kd.C_below VB.out HD.out)
  clear VB
  have VB := VB_
  clear VB_
  have C_ := Aside0.mk (CurP.below C.out HD.out)
  clear C
  have C := C_
  clear C_
  have HB_ := Aside0.mk (below_step HB.out HD.out)
  clear HB HD
  have HB := HB_
  clear HB_
  have D := Aside0.mk hn4
  clear hn4
  go_wp2_with fail
  have HLC_F := Aside0.mk C.out.lt
  have HLD_F := Aside0.mk D.out.lt
  refine (wire_New.calls A2 c2 [1, 2, 97, 98] w4 (VB.out) (by decide)).mono ?_
  rintro e w5 ⟨g5, rfl, hg5, hn5, hb5⟩
  have HD : Aside0 (Below w4.heap.size w4 w5) := ⟨below_step (Below.refl _ _) hb5⟩
  clear hb5
  have HG5 : Aside0 (w.heap.size ≤ g5) := ⟨by have := HB.out.size; (try simp at hg5); omega⟩
  have HX5 : Aside0 (w4.heap.size ≤ g5) := ⟨by (try simp at hg5); omega⟩
  clear hg5
  have VA_ := Aside0.mk (Kd.C_below VA.out HD.out)
  clear VA
  have VA := VA_
  clear VA_
  have VB_ := Aside0.mk (Kd.C_below VB.out HD.out)
  clear VB
  have VB := VB_
  clear VB_
  have C_ := Aside0.mk (CurP.below C.out HD.out)
  clear C
  have C := C_
  clear C_
  have D_ := Aside0.mk (CurP.below D.out HD.out)
  clear D
  have D := D_
  clear D_
  have HB_ := Aside0.mk (below_step HB.out HD.out)
  clear HB HD
  have HB := HB_
  clear HB_
  have F := Aside0.mk hn5
  clear hn5
  go_wp2_with fail
  refine (CurP_Number C.out (0) (9) (0) (0) (2) (by decide +kernel)).mono ?_
  rintro e w6 ⟨rfl, hp6, hk6, hb6⟩
  have HK := Aside0.mk hk6
  have HD := Aside0.mk hb6
  have HS := Aside0.mk C.out.blk
  have HN := Aside0.mk hp6
  clear hk6 hb6 hp6
  have VA_ := Aside0.mk (C_keep VA.out HS.out HK.out)
  clear VA
  have VA := VA_
  clear VA_
  have VB_ := Aside0.mk (C_keep VB.out HS.out HK.out)
  clear VB
  have VB := VB_
  clear VB_
  have C_ := Aside0.mk (HN.out)
  clear C
  have C := C_
  clear C_
  have D_ := Aside0.mk (CurP.keep D.out HS.out HK.out (by have := HLC_D.out; have := HX4.out; omega))
  clear D
  have D := D_
  clear D_
  have F_ := Aside0.mk (CurP.keep F.out HS.out HK.out (by have := HLC_F.out; have := HX5.out; omega))
  clear F
  have F := F_
  clear F_
  have HB_ := Aside0.mk (below_keep HB.out HD.out HG3.out)
  clear HB HD HK HS HN
  have HB := HB_
  clear HB_
  go_wp2_with fail
  refine (CurP_Number D.out (0) (9) (0) (0) (3) (by decide +kernel)).mono ?_
  rintro e w7 ⟨rfl, hp7, hk7, hb7⟩
  have HK := Aside0.mk hk7
  have HD := Aside0.mk hb7
  have HS := Aside0.mk D.out.blk
  have HN := Aside0.mk hp7
  clear hk7 hb7 hp7
  have VA_ := Aside0.mk (C_keep VA.out HS.out HK.out)
  clear VA
  have VA := VA_
  clear VA_
  have VB_ := Aside0.mk (C_keep VB.out HS.out HK.out)
  clear VB
  have VB := VB_
  clear VB_
  have C_ := Aside0.mk (CurP.keep C.out HS.out HK.out (by have := HLC_D.out; have := HX4.out; omega))
  clear C
  have C := C_
  clear C_
  have D_ := Aside0.mk (HN.out)
  clear D
  have D := D_
  clear D_
  have F_ := Aside0.mk (CurP.keep F.out HS.out HK.out (by have := HLD_F.out; have := HX5.out; omega))
  clear F
  have F := F_
  clear F_
  have HB_ := Aside0.mk (below_keep HB.out HD.out HG4.out)
  clear HB HD HK HS HN
  have HB := HB_
  clear HB_
  go_wp2_with fail
  refine (CurP_Text F.out (2) ((⟨#[97, 98]⟩ : ByteArray)) (4) (0) (by decide +kernel)).mono ?_
  rintro e w8 ⟨rfl, hp8, hk8, hb8⟩
  have HK := Aside0.mk hk8
  have HD := Aside0.mk hb8
  have HS := Aside0.mk F.out.blk
  have HN := Aside0.mk hp8
  clear hk8 hb8 hp8
  have VA_ := Aside0.mk (C_keep VA.out HS.out HK.out)
  clear VA
  have VA := VA_
  clear VA_
  have VB_ := Aside0.mk (C_keep VB.out HS.out HK.out)
  clear VB
  have VB := VB_
  clear VB_
  have C_ := Aside0.mk (CurP.keep C.out HS.out HK.out (by have := HLC_F.out; have := HX5.out; omega))
  clear C
  have C := C_
  clear C_
  have D_ := Aside0.mk (CurP.keep D.out HS.out HK.out (by have := HLD_F.out; have := HX5.out; omega))
  clear D
  have D := D_
  clear D_
  have F_ := Aside0.mk (HN.out)
  clear F
  have F := F_
  clear F_
  have HB_ := Aside0.mk (below_keep HB.out HD.out HG5.out)
  clear HB HD HK HS HN
  have HB := HB_
  clear HB_
  obtain ⟨ad0_VA, ea0_VA, x0_VA⟩ := Kd.at_int VA.out 0 (by decide) (by decide)
  cases ea0_VA
  have cell0_VA : w8.cell? ad0_VA = some (.int .u8 2) := by simpa [Addr.add, rd] using x0_VA
  clear x0_VA
  obtain ⟨ad1_VA, ea1_VA, x1_VA⟩ := Kd.at_int VA.out 1 (by decide) (by decide)
  cases ea1_VA
  have cell1_VA : w8.cell? ⟨ad0_VA.block, ad0_VA.off + 1, none⟩ = some (.int .u8 1) := by simpa [Addr.add, rd] using x1_VA
  clear x1_VA
  obtain ⟨ad1_VB, ea1_VB, x1_VB⟩ := Kd.at_int VB.out 1 (by decide) (by decide)
  cases ea1_VB
  have cell1_VB : w8.cell? ⟨ad1_VB.block, ad1_VB.off + 1, none⟩ = some (.int .u8 2) := by simpa [Addr.add, rd] using x1_VB
  clear x1_VB
  go_wp2_with fail
  clear cell0_VA
  clear cell1_VA
  clear cell1_VB
  refine (CurP_Err C.out (2) (0) (2) rfl).mono ?_
  rintro e w9 ⟨rfl, hp9, hk9, hb9⟩
  have HK := Aside0.mk hk9
  have HD := Aside0.mk hb9
  have HS := Aside0.mk C.out.blk
  have HN := Aside0.mk hp9
  clear hk9 hb9 hp9
  have VA_ := Aside0.mk (C_keep VA.out HS.out HK.out)
  clear VA
  have VA := VA_
  clear VA_
  have VB_ := Aside0.mk (C_keep VB.out HS.out HK.out)
  clear VB
  have VB := VB_
  clear VB_
  have C_ := Aside0.mk (HN.out)
  clear C
  have C := C_
  clear C_
  have D_ := Aside0.mk (CurP.keep D.out HS.out HK.out (by have := HLC_D.out; have := HX4.out; omega))
  clear D
  have D := D_
  clear D_
  have F_ := Aside0.mk (CurP.keep F.out HS.out HK.out (by have := HLC_F.out; have := HX5.out; omega))
  clear F
  have F := F_
  clear F_
  have HB_ := Aside0.mk (below_keep HB.out HD.out HG3.out)
  clear HB HD HK HS HN
  have HB := HB_
  clear HB_
  go_wp2_with fail
  refine (CurP_End D.out (3) (0) (3) (by decide +kernel)).mono ?_
  rintro e w10 ⟨rfl, hp10, hk10, hb10⟩
  have HK := Aside0.mk hk10
  have HD := Aside0.mk hb10
  have HS := Aside0.mk D.out.blk
  have HN := Aside0.mk hp10
  clear hk10 hb10 hp10
  have VA_ := Aside0.mk (C_keep VA.out HS.out HK.out)
  clear VA
  have VA := VA_
  clear VA_
  have VB_ := Aside0.mk (C_keep VB.out HS.out HK.out)
  clear VB
  have VB := VB_
  clear VB_
  have C_ := Aside0.mk (CurP.keep C.out HS.out HK.out (by have := HLC_D.out; have := HX4.out; omega))
  clear C
  have C := C_
  clear C_
  have D_ := Aside0.mk (HN.out)
  clear D
  have D := D_
  clear D_
  have F_ := Aside0.mk (CurP.keep F.out HS.out HK.out (by have := HLD_F.out; have := HX5.out; omega))
  clear F
  have F := F_
  clear F_
  have HB_ := Aside0.mk (below_keep HB.out HD.out HG4.out)
  clear HB HD HK HS HN
  have HB := HB_
  clear HB_
  go_wp2_with fail
  refine (CurP_End F.out (0) (4) (0) (by decide +kernel)).mono ?_
  rintro e w11 ⟨rfl, hp11, hk11, hb11⟩
  have HK := Aside0.mk hk11
  have HD := Aside0.mk hb11
  have HS := Aside0.mk F.out.blk
  have HN := Aside0.mk hp11
  clear hk11 hb11 hp11
  have VA_ := Aside0.mk (C_keep VA.out HS.out HK.out)
  clear VA
  have VA := VA_
  clear VA_
  have VB_ := Aside0.mk (C_keep VB.out HS.out HK.out)
  clear VB
  have VB := VB_
  clear VB_
  have C_ := Aside0.mk (CurP.keep C.out HS.out HK.out (by have := HLC_F.out; have := HX5.out; omega))
  clear C
  have C := C_
  clear C_
  have D_ := Aside0.mk (CurP.keep D.out HS.out HK.out (by have := HLD_F.out; have := HX5.out; omega))
  clear D
  have D := D_
  clear D_
  have F_ := Aside0.mk (HN.out)
  clear F
  have F := F_
  clear F_
  have HB_ := Aside0.mk (below_keep HB.out HD.out HG5.out)
  clear HB HD HK HS HN
  have HB := HB_
  clear HB_
  go_wp2_with fail
  refine (CurP_Place F.out (4) (4) (0) rfl).mono ?_
  rintro e w12 ⟨rfl, hp12, hk12, hb12⟩
  have HK := Aside0.mk hk12
  have HD := Aside0.mk hb12
  have HS := Aside0.mk F.out.blk
  have HN := Aside0.mk hp12
  clear hk12 hb12 hp12
  have VA_ := Aside0.mk (C_keep VA.out HS.out HK.out)
  clear VA
  have VA := VA_
  clear VA_
  have VB_ := Aside0.mk (C_keep VB.out HS.out HK.out)
  clear VB
  have VB := VB_
  clear VB_
  have C_ := Aside0.mk (CurP.keep C.out HS.out HK.out (by have := HLC_F.out; have := HX5.out; omega))
  clear C
  have C := C_
  clear C_
  have D_ := Aside0.mk (CurP.keep D.out HS.out HK.out (by have := HLD_F.out; have := HX5.out; omega))
  clear D
  have D := D_
  clear D_
  have F_ := Aside0.mk (HN.out)
  clear F
  have F := F_
  clear F_
  have HB_ := Aside0.mk (below_keep HB.out HD.out HG5.out)
  clear HB HD HK HS HN
  have HB := HB_
  clear HB_
  go_wp2_with fail
  go_ret
  exact ⟨rfl, HB.out⟩
end Go.Proofs.Ytnfnomcgalkagaa.P
