/- No other bytes say the same number, or the same text: for any bytes. -/
import Derived.Test.YtnfnomcgalkagaaHFew
import Derived.Test.YtnfnomcgalkagaaWRead
import Derived.Test.YtnfnomcgalkagaaHWLives
import Derived.Test.YtnfnomcgalkagaaHNew
import Derived.Test.YtnfnomcgalkagaaHMethods
import Derived.Test.YtnfnomcgalkagaaP15
import Derived.Test.YtnfnomcgalkagaaP9
import Derived.OpenShut
import Derived.Outline
namespace Go.Proofs.Ytnfnomcgalkagaa.P
open Go.RowKit Go.Proofs.YtnfnomcgalkagaaW.PrintWords Go.Proofs.YtnfnomcgalkagaaW.PrintLast Go.Proofs.YtnfnomcgalkagaaW.PrintMore
set_option linter.unusedVariables false
set_option linter.unusedSimpArgs false

set_option maxHeartbeats 1000000 in
set_option maxRecDepth 100000 in
theorem liverylaw03_WireOne.walk (a0 : Option Addr) (len0 cap0 : Nat) (z0 : List Int) (w : World) (w0 : (a0 = none ∧ len0 = 0 ∧ cap0 = 0 ∧ z0 = []) ∨ ∃ x, a0 = some x ∧ len0 ≤ cap0 ∧ cap0 ≤ maxLen ∧ z0.length = cap0 ∧ (∀ i, i < z0.length → w.cell? (x.add i) = some (.int .u8 (z0.getD i 0))) ∧ ∀ n ∈ z0, (Lit.int .u8 n).wf = true) (y0 : len0 * 1 ≤ 140737488351232) :
    Calls Try.prog 11 #[.slice a0 len0 cap0] w fun e w' => e = .returned (.bool true) ∧ Below w.heap.size w w' := by
  obtain ⟨l0, rfl, hr0, hm0, hw0, hc0⟩ := ReadsInt.ofRowC w0
  have L0 := Aside0.mk (Kd.C_of_reads (d := (0 : Int)) (h1 := fun _ => rfl) hr0)
  have L0c := Aside0.mk hc0
  clear hr0 hc0 hm0 w0
  obtain ⟨b, eb⟩ : ∃ v, v = l0.take 40 := ⟨_, rfl⟩
  have hb : b.length ≤ 40 := by rw [eb, List.length_take]; omega
  have fb := Aside0.mk (show liverylaw03_few.f l0 40 = some b by rw [eb]; exact few3_eq l0 40)
  have hok : okB b = true := okB_of fun x hx => Go.bounds_u8 (hw0 x (List.mem_of_mem_take (eb ▸ hx)))
  have hl : b.length ≤ 1000000 := by omega
  have h1 : wire_Cursor_Number.f b 0 0 0 9223372036854775807 = some (numAt b 0 0 0 9223372036854775807) := by unfold wire_Cursor_Number.f; rw [if_pos hok, if_pos (by omega), if_pos (by omega)]
  have h2 : wire_Cursor_Text.f b 0 0 100 = some (textAt b 0 0 100) := by unfold wire_Cursor_Text.f; rw [if_pos hok, if_pos (by omega), if_pos (by omega)]
  obtain ⟨⟨n, p, e⟩, en⟩ : ∃ x, x = numAt b 0 0 0 9223372036854775807 := ⟨_, rfl⟩
  obtain ⟨⟨s, q, f⟩, ef⟩ : ∃ x, x = textAt b 0 0 100 := ⟨_, rfl⟩
  rw [← en] at h1
  rw [← ef] at h2
  have h1_ := Aside0.mk h1
  have h2_ := Aside0.mk h2
  have hb_ := Aside0.mk hb
  have hok_ := Aside0.mk hok
  have hl_ := Aside0.mk hl
  clear h1 h2 hb hok hl en ef eb hw0 y0
  by_cases he : e = 0
  · by_cases hf : f = 0
    · skip
      subst he
      obtain ⟨p0, p1, p2, p3⟩ := only_num b n p hok_.out hl_.out h1_.out
      obtain ⟨p, rfl⟩ : ∃ m : Nat, p = (m : Int) := ⟨p.toNat, by omega⟩
      rw [Int.toNat_natCast] at p2
      have hp : p = (b.take p).length := by rw [List.length_take]; omega
      have hpl : p ≤ b.length := by omega
      rw [p2] at hp
      have k1 := prog_Number [] n (by decide) p3
      rw [List.nil_append] at k1
      have k2 := ref01_Same 1001 (numB n) (numB n) (by have := hb_.out; omega) (by have := hb_.out; omega)
      rw [decide_eq_true rfl] at k2
      obtain ⟨N, eN⟩ : ∃ N, N = numB n := ⟨_, rfl⟩
      rw [← eN] at k1 k2 p2 hp
      subst hp
      have k1_ := Aside0.mk k1
      have k2_ := Aside0.mk k2
      have p2_ := Aside0.mk p2
      have hpl_ := Aside0.mk hpl
      clear k1 k2 p2 hpl p0 p1 p3 eN
      subst hf
      obtain ⟨q0, q1, q2, q3⟩ := only_text b s q hok_.out hl_.out h2_.out
      obtain ⟨q, rfl⟩ : ∃ m : Nat, q = (m : Int) := ⟨q.toNat, by omega⟩
      rw [Int.toNat_natCast] at q2
      have hq : q = (b.take q).length := by rw [List.length_take]; omega
      have hql : q ≤ b.length := by omega
      rw [q2] at hq
      have j1 := prog_Text [] s (by simp; omega)
      rw [List.nil_append] at j1
      have j2 := ref01_Same 1001 (textB s) (textB s) (by have := hb_.out; omega) (by have := hb_.out; omega)
      rw [decide_eq_true rfl] at j2
      obtain ⟨M, eM⟩ : ∃ M, M = textB s := ⟨_, rfl⟩
      rw [← eM] at j1 j2 q2 hq
      subst hq
      have j1_ := Aside0.mk j1
      have j2_ := Aside0.mk j2
      have q2_ := Aside0.mk q2
      have hql_ := Aside0.mk hql
      clear j1 j2 q2 hql q0 q1 q3 eM
      go_enter Try.func11, Try.ntmps11
      have HB := Aside0.mk (Below.refl w.heap.size w)
      go_wp2_with fail
      refine (few3_C a0 cap0 l0 (40) b w (L0.out) L0c.out fb.out).mono ?_
      rintro e w1 ⟨v1, rfl, hv1, hb1⟩
      have HD : Aside0 (Below w.heap.size w w1) := ⟨below_step (Below.refl _ _) hb1⟩
      clear hb1
      have L0_ := Aside0.mk (Kd.C_below L0.out HD.out)
      clear L0
      have L0 := L0_
      clear L0_
      have HB_ := Aside0.mk (below_step HB.out HD.out)
      clear HB HD
      have HB := HB_
      clear HB_
      obtain ⟨A1, c1, ev1⟩ := Kd.V_slice hv1
      subst ev1
      have BVc := Aside0.mk (Kd.V_reads' hv1).2.1
      have BV := Aside0.mk (Kd.V_reads' hv1).2.2
      clear hv1
      go_wp2_with fail
      clear L0 L0c
      refine (wire_New.calls A1 c1 b w1 (BV.out) (by have := hb_.out; omega)).mono ?_
      rintro e w2 ⟨g2, rfl, hg2, hn2, hb2⟩
      have HD : Aside0 (Below w1.heap.size w1 w2) := ⟨below_step (Below.refl _ _) hb2⟩
      clear hb2
      have HG2 : Aside0 (w.heap.size ≤ g2) := ⟨by have := HB.out.size; (try simp at hg2); omega⟩
      have HX2 : Aside0 (w1.heap.size ≤ g2) := ⟨by (try simp at hg2); omega⟩
      clear hg2
      have BV_ := Aside0.mk (Kd.C_below BV.out HD.out)
      clear BV
      have BV := BV_
      clear BV_
      have HB_ := Aside0.mk (below_step HB.out HD.out)
      clear HB HD
      have HB := HB_
      clear HB_
      have C1 := Aside0.mk hn2
      clear hn2
      go_wp2_with fail
      have HLC1_C2 := Aside0.mk C1.out.lt
      refine (wire_New.calls A1 c1 b w2 (BV.out) (by have := hb_.out; omega)).mono ?_
      rintro e w3 ⟨g3, rfl, hg3, hn3, hb3⟩
      have HD : Aside0 (Below w2.heap.size w2 w3) := ⟨below_step (Below.refl _ _) hb3⟩
      clear hb3
      have HG3 : Aside0 (w.heap.size ≤ g3) := ⟨by have := HB.out.size; (try simp at hg3); omega⟩
      have HX3 : Aside0 (w2.heap.size ≤ g3) := ⟨by (try simp at hg3); omega⟩
      clear hg3
      have BV_ := Aside0.mk (Kd.C_below BV.out HD.out)
      clear BV
      have BV := BV_
      clear BV_
      have C1_ := Aside0.mk (CurP.below C1.out HD.out)
      clear C1
      have C1 := C1_
      clear C1_
      have HB_ := Aside0.mk (below_step HB.out HD.out)
      clear HB HD
      have HB := HB_
      clear HB_
      have C2 := Aside0.mk hn3
      clear hn3
      go_wp2_with fail
      refine (CurP_Number C1.out (0) (9223372036854775807) (n) ((N.length : Int)) (0) h1_.out).mono ?_
      rintro e w4 ⟨rfl, hp4, hk4, hb4⟩
      have HK := Aside0.mk hk4
      have HD := Aside0.mk hb4
      have HS := Aside0.mk C1.out.blk
      have HN := Aside0.mk hp4
      clear hk4 hb4 hp4
      have BV_ := Aside0.mk (C_keep BV.out HS.out HK.out)
      clear BV
      have BV := BV_
      clear BV_
      have C1_ := Aside0.mk (HN.out)
      clear C1
      have C1 := C1_
      clear C1_
      have C2_ := Aside0.mk (CurP.keep C2.out HS.out HK.out (by have := HLC1_C2.out; have := HX3.out; omega))
      clear C2
      have C2 := C2_
      clear C2_
      have HB_ := Aside0.mk (below_keep HB.out HD.out HG2.out)
      clear HB HD HK HS HN
      have HB := HB_
      clear HB_
      go_wp2_with fail
      refine (CurP_Text C2.out (100) (s) ((M.length : Int)) (0) h2_.out).mono ?_
      rintro e w5 ⟨rfl, hp5, hk5, hb5⟩
      have HK := Aside0.mk hk5
      have HD := Aside0.mk hb5
      have HS := Aside0.mk C2.out.blk
      have HN := Aside0.mk hp5
      clear hk5 hb5 hp5
      have BV_ := Aside0.mk (C_keep BV.out HS.out HK.out)
      clear BV
      have BV := BV_
      clear BV_
      have C1_ := Aside0.mk (CurP.keep C1.out HS.out HK.out (by have := HLC1_C2.out; have := HX3.out; omega))
      clear C1
      have C1 := C1_
      clear C1_
      have C2_ := Aside0.mk (HN.out)
      clear C2
      have C2 := C2_
      clear C2_
      have HB_ := Aside0.mk (below_keep HB.out HD.out HG3.out)
      clear HB HD HK HS HN
      have HB := HB_
      clear HB_
      go_wp2_with fail
      refine (CurP_Err C1.out (0) ((N.length : Int)) (0) rfl).mono ?_
      rintro e w6 ⟨rfl, hp6, hk6, hb6⟩
      have HK := Aside0.mk hk6
      have HD := Aside0.mk hb6
      have HS := Aside0.mk C1.out.blk
      have HN := Aside0.mk hp6
      clear hk6 hb6 hp6
      have BV_ := Aside0.mk (C_keep BV.out HS.out HK.out)
      clear BV
      have BV := BV_
      clear BV_
      have C1_ := Aside0.mk (HN.out)
      clear C1
      have C1 := C1_
      clear C1_
      have C2_ := Aside0.mk (CurP.keep C2.out HS.out HK.out (by have := HLC1_C2.out; have := HX3.out; omega))
      clear C2
      have C2 := C2_
      clear C2_
      have HB_ := Aside0.mk (below_keep HB.out HD.out HG2.out)
      clear HB HD HK HS HN
      have HB := HB_
      clear HB_
      go_wp2_with fail
      have hcut := hcut_to N.length A1 b.length c1 hpl_.out BVc.out
      have HD : Aside0 (Below w6.heap.size w6 w6.drew) := ⟨below_drew1 (Below.refl _ _)⟩
      have BV_ := Aside0.mk (Kd.C_below BV.out HD.out)
      clear BV
      have BV := BV_
      clear BV_
      have C1_ := Aside0.mk (CurP.below C1.out HD.out)
      clear C1
      have C1 := C1_
      clear C1_
      have C2_ := Aside0.mk (CurP.below C2.out HD.out)
      clear C2
      have C2 := C2_
      clear C2_
      have HB_ := Aside0.mk (below_step HB.out HD.out)
      clear HB HD
      have HB := HB_
      clear HB_
      refine start_ (n := 8) (S := fun w' => True) (ds := []) #[false, false, false, false, false, false, false, false] (by kernel_rfl) rfl rfl trivial (fun hHeld => ?_)
      generalize w6.drew = wd7 at *
      refine pure_ (i := 0) (N := some 28) (v := ?_) (a' := ?_) #[true, false, false, false, false, false, false, false] rfl rfl (by kernel_rfl) (fun _ _ _ h => h) (Or.inl ⟨by rfl, ?_⟩) ?_ ?_
      rotate_left
      · intro w'
        go_simp
        with_reducible rfl
      rotate_left
      · simp only [Act.put, List.setIfInBounds_toArray, List.set_cons_zero, List.set_cons_succ, i64_w, i32_w]
        rfl
      refine pure_ (i := 1) (N := some 29) (v := ?_) (a' := ?_) #[true, true, false, false, false, false, false, false] rfl rfl (by kernel_rfl) (fun _ _ _ h => h) (Or.inl ⟨by rfl, ?_⟩) ?_ ?_
      rotate_left
      · intro w'
        go_simp
        with_reducible rfl
      rotate_left
      · simp only [Act.put, List.setIfInBounds_toArray, List.set_cons_zero, List.set_cons_succ, i64_w, i32_w]
        rfl
      refine pure_ (i := 4) (N := some 32) (v := ?_) (a' := ?_) #[true, true, false, false, true, false, false, false] rfl rfl (by kernel_rfl) (fun _ _ _ h => h) (Or.inl ⟨by rfl, ?_⟩) ?_ ?_
      rotate_left
      · intro w'
        go_simp
        with_reducible rfl
      rotate_left
      · simp only [Act.put, List.setIfInBounds_toArray, List.set_cons_zero, List.set_cons_succ, i64_w, i32_w]
        rfl
      refine one_ (i := 2) (N := some 30) #[true, true, true, false, true, false, false, false] rfl rfl (by kernel_rfl) (by decide) (fun K hK => ?_)
      refine goes_ Try.func43 (by kernel_rfl) rfl #[.pointer (some ⟨g2, 0, none⟩)] (by rfl) rfl rfl (by simp only [List.map_toArray, List.map_cons, List.map_nil]; rfl) ?_
      with_reducible refine (CurP_Place C1.out ((N.length : Int)) ((N.length : Int)) (0) rfl).mono ?_
      rintro e w8 ⟨rfl, hp8, hk8, hb8⟩
      have HK := Aside0.mk hk8
      have HD := Aside0.mk hb8
      have HS := Aside0.mk C1.out.blk
      have HN := Aside0.mk hp8
      clear hk8 hb8 hp8
      have BV_ := Aside0.mk (C_keep BV.out HS.out HK.out)
      clear BV
      have BV := BV_
      clear BV_
      have C1_ := Aside0.mk (HN.out)
      clear C1
      have C1 := C1_
      clear C1_
      have C2_ := Aside0.mk (CurP.keep C2.out HS.out HK.out (by have := HLC1_C2.out; have := HX3.out; omega))
      clear C2
      have C2 := C2_
      clear C2_
      have HB_ := Aside0.mk (below_keep HB.out HD.out HG2.out)
      clear HB HD HK HS HN
      have HB := HB_
      clear HB_
      refine ⟨_, rfl, ?_⟩
      refine hK.out _ _ trivial (fun hHeld => ?_)
      clear hK K
      refine norm_ (a' := ?_) ?_ ?_
      rotate_left
      · show Act.put _ (some 30) _ = _
        simp only [Act.put, List.setIfInBounds_toArray, List.set_cons_zero, List.set_cons_succ, i64_w, i32_w]
        rfl
      refine pure_ (i := 3) (N := some 31) (v := ?_) (a' := ?_) #[true, true, true, true, true, false, false, false] rfl rfl (by kernel_rfl) (fun _ _ _ h => h) (Or.inl ⟨by rfl, ?_⟩) ?_ ?_
      rotate_left
      · intro w'
        go_simp
        with_reducible rfl
      rotate_left
      · simp only [Act.put, List.setIfInBounds_toArray, List.set_cons_zero, List.set_cons_succ, i64_w, i32_w]
        rfl
      refine one_ (i := 5) (N := some 33) #[true, true, true, true, true, true, false, false] rfl rfl (by kernel_rfl) (by decide) (fun K hK => ?_)
      refine goes_ Try.func34 (by kernel_rfl) rfl #[.slice none 0 0, .int .i64 (n)] (by rfl) rfl rfl (by simp only [List.map_toArray, List.map_cons, List.map_nil]; rfl) ?_
      refine (wire_Number.calls none 0 ([] : List Int) (n) N w8 (Kd.C_nil _ _) (by decide) k1_.out).mono ?_
      rintro e w9 ⟨v9, rfl, hv9, hb9⟩
      have HD : Aside0 (Below w8.heap.size w8 w9) := ⟨below_step (Below.refl _ _) hb9⟩
      clear hb9
      have BV_ := Aside0.mk (Kd.C_below BV.out HD.out)
      clear BV
      have BV := BV_
      clear BV_
      have C1_ := Aside0.mk (CurP.below C1.out HD.out)
      clear C1
      have C1 := C1_
      clear C1_
      have C2_ := Aside0.mk (CurP.below C2.out HD.out)
      clear C2
      have C2 := C2_
      clear C2_
      have HB_ := Aside0.mk (below_step HB.out HD.out)
      clear HB HD
      have HB := HB_
      clear HB_
      obtain ⟨A9, c9, ev9⟩ := Kd.R_slice hv9
      subst ev9
      have PBc := Aside0.mk (Kd.R_reads' hv9).2.1
      have PB := Aside0.mk (Kd.R_reads' hv9).2.2
      clear hv9
      refine ⟨_, rfl, ?_⟩
      refine hK.out _ _ trivial (fun hHeld => ?_)
      clear hK K
      refine norm_ (a' := ?_) ?_ ?_
      rotate_left
      · show Act.put _ (some 33) _ = _
        simp only [Act.put, List.setIfInBounds_toArray, List.set_cons_zero, List.set_cons_succ, i64_w, i32_w]
        rfl
      refine one_ (i := 6) (N := some 34) #[true, true, true, true, true, true, true, false] rfl rfl (by kernel_rfl) (by decide) (fun K hK => ?_)
      have CB := Aside0.mk (show (Kd.int .u8).C w9 A1 N.length N by have h_ := Kd.C_take (m := N.length) BV.out hpl_.out; rw [p2_.out] at h_; exact h_)
      have CBc := Aside0.mk (show N.length ≤ c1 by have := hpl_.out; have := BVc.out; omega)
      refine goes_ Try.func32 (by kernel_rfl) rfl #[.slice A1 N.length c1, .slice A9 N.length c9] (by rfl) rfl rfl (by simp only [List.map_toArray, List.map_cons, List.map_nil]; rfl) ?_
      with_reducible refine (liveryref01_Same.calls 1001 A1 c1 N A9 c9 N true w9 (CB.out) CBc.out (PB.out) PBc.out k2_.out).mono ?_
      rintro e w_ ⟨rfl, ⟨n10, rfl⟩⟩
      obtain ⟨w10, e10⟩ : ∃ W_ : World, W_ = World.drewN w9 n10 := ⟨_, rfl⟩
      have HD : Aside0 (Below w9.heap.size w9 w10) := ⟨by rw [e10]; exact pw_below_drewN (Below.refl _ _) _⟩
      rw [← e10]
      clear e10
      have BV_ := Aside0.mk (Kd.C_below BV.out HD.out)
      clear BV
      have BV := BV_
      clear BV_
      have C1_ := Aside0.mk (CurP.below C1.out HD.out)
      clear C1
      have C1 := C1_
      clear C1_
      have C2_ := Aside0.mk (CurP.below C2.out HD.out)
      clear C2
      have C2 := C2_
      clear C2_
      have PB_ := Aside0.mk (Kd.C_below PB.out HD.out)
      clear PB
      have PB := PB_
      clear PB_
      have CB_ := Aside0.mk (Kd.C_below CB.out HD.out)
      clear CB
      have CB := CB_
      clear CB_
      have HB_ := Aside0.mk (below_step HB.out HD.out)
      clear HB HD
      have HB := HB_
      clear HB_
      refine ⟨_, rfl, ?_⟩
      refine hK.out _ _ trivial (fun hHeld => ?_)
      clear hK K
      refine norm_ (a' := ?_) ?_ ?_
      rotate_left
      · show Act.put _ (some 34) _ = _
        simp only [Act.put, List.setIfInBounds_toArray, List.set_cons_zero, List.set_cons_succ, i64_w, i32_w]
        rfl
      refine pure_ (i := 7) (N := some 7) (v := ?_) (a' := ?_) #[true, true, true, true, true, true, true, true] rfl rfl (by kernel_rfl) (fun _ _ _ h => h) (Or.inl ⟨by rfl, ?_⟩) ?_ ?_
      rotate_left
      · intro w'
        go_simp
        with_reducible rfl
      rotate_left
      · simp only [Act.put, List.setIfInBounds_toArray, List.set_cons_zero, List.set_cons_succ, i64_w, i32_w]
        rfl
      refine done_ (by kernel_rfl) ?_
      clear hcut
      clear CB CBc
      clear PB PBc
      go_wp2_with fail
      refine (CurP_Err C2.out (0) ((M.length : Int)) (0) rfl).mono ?_
      rintro e w11 ⟨rfl, hp11, hk11, hb11⟩
      have HK := Aside0.mk hk11
      have HD := Aside0.mk hb11
      have HS := Aside0.mk C2.out.blk
      have HN := Aside0.mk hp11
      clear hk11 hb11 hp11
      have BV_ := Aside0.mk (C_keep BV.out HS.out HK.out)
      clear BV
      have BV := BV_
      clear BV_
      have C1_ := Aside0.mk (CurP.keep C1.out HS.out HK.out (by have := HLC1_C2.out; have := HX3.out; omega))
      clear C1
      have C1 := C1_
      clear C1_
      have C2_ := Aside0.mk (HN.out)
      clear C2
      have C2 := C2_
      clear C2_
      have HB_ := Aside0.mk (below_keep HB.out HD.out HG3.out)
      clear HB HD HK HS HN
      have HB := HB_
      clear HB_
      go_wp2_with fail
      have hcut := hcut_to M.length A1 b.length c1 hql_.out BVc.out
      have HD : Aside0 (Below w11.heap.size w11 w11.drew) := ⟨below_drew1 (Below.refl _ _)⟩
      have BV_ := Aside0.mk (Kd.C_below BV.out HD.out)
      clear BV
      have BV := BV_
      clear BV_
      have C1_ := Aside0.mk (CurP.below C1.out HD.out)
      clear C1
      have C1 := C1_
      clear C1_
      have C2_ := Aside0.mk (CurP.below C2.out HD.out)
      clear C2
      have C2 := C2_
      clear C2_
      have HB_ := Aside0.mk (below_step HB.out HD.out)
      clear HB HD
      have HB := HB_
      clear HB_
      refine start_ (n := 8) (S := fun w' => True) (ds := []) #[false, false, false, false, false, false, false, false] (by kernel_rfl) rfl rfl trivial (fun hHeld => ?_)
      generalize w11.drew = wd12 at *
      refine pure_ (i := 0) (N := some 40) (v := ?_) (a' := ?_) #[true, false, false, false, false, false, false, false] rfl rfl (by kernel_rfl) (fun _ _ _ h => h) (Or.inl ⟨by rfl, ?_⟩) ?_ ?_
      rotate_left
      · intro w'
        go_simp
        with_reducible rfl
      rotate_left
      · simp only [Act.put, List.setIfInBounds_toArray, List.set_cons_zero, List.set_cons_succ, i64_w, i32_w]
        rfl
      refine pure_ (i := 1) (N := some 41) (v := ?_) (a' := ?_) #[true, true, false, false, false, false, false, false] rfl rfl (by kernel_rfl) (fun _ _ _ h => h) (Or.inl ⟨by rfl, ?_⟩) ?_ ?_
      rotate_left
      · intro w'
        go_simp
        with_reducible rfl
      rotate_left
      · simp only [Act.put, List.setIfInBounds_toArray, List.set_cons_zero, List.set_cons_succ, i64_w, i32_w]
        rfl
      refine pure_ (i := 4) (N := some 44) (v := ?_) (a' := ?_) #[true, true, false, false, true, false, false, false] rfl rfl (by kernel_rfl) (fun _ _ _ h => h) (Or.inl ⟨by rfl, ?_⟩) ?_ ?_
      rotate_left
      · intro w'
        go_simp
        with_reducible rfl
      rotate_left
      · simp only [Act.put, List.setIfInBounds_toArray, List.set_cons_zero, List.set_cons_succ, i64_w, i32_w]
        rfl
      refine one_ (i := 2) (N := some 42) #[true, true, true, false, true, false, false, false] rfl rfl (by kernel_rfl) (by decide) (fun K hK => ?_)
      refine goes_ Try.func43 (by kernel_rfl) rfl #[.pointer (some ⟨g3, 0, none⟩)] (by rfl) rfl rfl (by simp only [List.map_toArray, List.map_cons, List.map_nil]; rfl) ?_
      with_reducible refine (CurP_Place C2.out ((M.length : Int)) ((M.length : Int)) (0) rfl).mono ?_
      rintro e w13 ⟨rfl, hp13, hk13, hb13⟩
      have HK := Aside0.mk hk13
      have HD := Aside0.mk hb13
      have HS := Aside0.mk C2.out.blk
      have HN := Aside0.mk hp13
      clear hk13 hb13 hp13
      have BV_ := Aside0.mk (C_keep BV.out HS.out HK.out)
      clear BV
      have BV := BV_
      clear BV_
      have C1_ := Aside0.mk (CurP.keep C1.out HS.out HK.out (by have := HLC1_C2.out; have := HX3.out; omega))
      clear C1
      have C1 := C1_
      clear C1_
      have C2_ := Aside0.mk (HN.out)
      clear C2
      have C2 := C2_
      clear C2_
      have HB_ := Aside0.mk (below_keep HB.out HD.out HG3.out)
      clear HB HD HK HS HN
      have HB := HB_
      clear HB_
      refine ⟨_, rfl, ?_⟩
      refine hK.out _ _ trivial (fun hHeld => ?_)
      clear hK K
      refine norm_ (a' := ?_) ?_ ?_
      rotate_left
      · show Act.put _ (some 42) _ = _
        simp only [Act.put, List.setIfInBounds_toArray, List.set_cons_zero, List.set_cons_succ, i64_w, i32_w]
        rfl
      refine pure_ (i := 3) (N := some 43) (v := ?_) (a' := ?_) #[true, true, true, true, true, false, false, false] rfl rfl (by kernel_rfl) (fun _ _ _ h => h) (Or.inl ⟨by rfl, ?_⟩) ?_ ?_
      rotate_left
      · intro w'
        go_simp
        with_reducible rfl
      rotate_left
      · simp only [Act.put, List.setIfInBounds_toArray, List.set_cons_zero, List.set_cons_succ, i64_w, i32_w]
        rfl
      refine one_ (i := 5) (N := some 45) #[true, true, true, true, true, true, false, false] rfl rfl (by kernel_rfl) (by decide) (fun K hK => ?_)
      refine goes_ Try.func36 (by kernel_rfl) rfl #[.slice none 0 0, .string s] (by rfl) rfl rfl (by simp only [List.map_toArray, List.map_cons, List.map_nil]; rfl) ?_
      refine (wire_Text.calls none 0 ([] : List Int) (s) M w13 (Kd.C_nil _ _) (by decide) j1_.out).mono ?_
      rintro e w14 ⟨v14, rfl, hv14, hb14⟩
      have HD : Aside0 (Below w13.heap.size w13 w14) := ⟨below_step (Below.refl _ _) hb14⟩
      clear hb14
      have BV_ := Aside0.mk (Kd.C_below BV.out HD.out)
      clear BV
      have BV := BV_
      clear BV_
      have C1_ := Aside0.mk (CurP.below C1.out HD.out)
      clear C1
      have C1 := C1_
      clear C1_
      have C2_ := Aside0.mk (CurP.below C2.out HD.out)
      clear C2
      have C2 := C2_
      clear C2_
      have HB_ := Aside0.mk (below_step HB.out HD.out)
      clear HB HD
      have HB := HB_
      clear HB_
      obtain ⟨A14, c14, ev14⟩ := Kd.R_slice hv14
      subst ev14
      have PBc := Aside0.mk (Kd.R_reads' hv14).2.1
      have PB := Aside0.mk (Kd.R_reads' hv14).2.2
      clear hv14
      refine ⟨_, rfl, ?_⟩
      refine hK.out _ _ trivial (fun hHeld => ?_)
      clear hK K
      refine norm_ (a' := ?_) ?_ ?_
      rotate_left
      · show Act.put _ (some 45) _ = _
        simp only [Act.put, List.setIfInBounds_toArray, List.set_cons_zero, List.set_cons_succ, i64_w, i32_w]
        rfl
      refine one_ (i := 6) (N := some 46) #[true, true, true, true, true, true, true, false] rfl rfl (by kernel_rfl) (by decide) (fun K hK => ?_)
      have CB := Aside0.mk (show (Kd.int .u8).C w14 A1 M.length M by have h_ := Kd.C_take (m := M.length) BV.out hql_.out; rw [q2_.out] at h_; exact h_)
      have CBc := Aside0.mk (show M.length ≤ c1 by have := hql_.out; have := BVc.out; omega)
      refine goes_ Try.func32 (by kernel_rfl) rfl #[.slice A1 M.length c1, .slice A14 M.length c14] (by rfl) rfl rfl (by simp only [List.map_toArray, List.map_cons, List.map_nil]; rfl) ?_
      with_reducible refine (liveryref01_Same.calls 1001 A1 c1 M A14 c14 M true w14 (CB.out) CBc.out (PB.out) PBc.out j2_.out).mono ?_
      rintro e w_ ⟨rfl, ⟨n15, rfl⟩⟩
      obtain ⟨w15, e15⟩ : ∃ W_ : World, W_ = World.drewN w14 n15 := ⟨_, rfl⟩
      have HD : Aside0 (Below w14.heap.size w14 w15) := ⟨by rw [e15]; exact pw_below_drewN (Below.refl _ _) _⟩
      rw [← e15]
      clear e15
      have BV_ := Aside0.mk (Kd.C_below BV.out HD.out)
      clear BV
      have BV := BV_
      clear BV_
      have C1_ := Aside0.mk (CurP.below C1.out HD.out)
      clear C1
      have C1 := C1_
      clear C1_
      have C2_ := Aside0.mk (CurP.below C2.out HD.out)
      clear C2
      have C2 := C2_
      clear C2_
      have PB_ := Aside0.mk (Kd.C_below PB.out HD.out)
      clear PB
      have PB := PB_
      clear PB_
      have CB_ := Aside0.mk (Kd.C_below CB.out HD.out)
      clear CB
      have CB := CB_
      clear CB_
      have HB_ := Aside0.mk (below_step HB.out HD.out)
      clear HB HD
      have HB := HB_
      clear HB_
      refine ⟨_, rfl, ?_⟩
      refine hK.out _ _ trivial (fun hHeld => ?_)
      clear hK K
      refine norm_ (a' := ?_) ?_ ?_
      rotate_left
      · show Act.put _ (some 46) _ = _
        simp only [Act.put, List.setIfInBounds_toArray, List.set_cons_zero, List.set_cons_succ, i64_w, i32_w]
        rfl
      refine pure_ (i := 7) (N := some 8) (v := ?_) (a' := ?_) #[true, true, true, true, true, true, true, true] rfl rfl (by kernel_rfl) (fun _ _ _ h => h) (Or.inl ⟨by rfl, ?_⟩) ?_ ?_
      rotate_left
      · intro w'
        go_simp
        with_reducible rfl
      rotate_left
      · simp only [Act.put, List.setIfInBounds_toArray, List.set_cons_zero, List.set_cons_succ, i64_w, i32_w]
        rfl
      refine done_ (by kernel_rfl) ?_
      clear hcut
      clear CB CBc
      clear PB PBc
      go_wp2_with fail
      refine (liverylaw03_lives.calls (true) w15  rfl).mono ?_
      rintro e w16 ⟨rfl, hb16⟩
      have HD : Aside0 (Below w15.heap.size w15 w16) := ⟨below_step (Below.refl _ _) hb16⟩
      clear hb16
      have BV_ := Aside0.mk (Kd.C_below BV.out HD.out)
      clear BV
      have BV := BV_
      clear BV_
      have C1_ := Aside0.mk (CurP.below C1.out HD.out)
      clear C1
      have C1 := C1_
      clear C1_
      have C2_ := Aside0.mk (CurP.below C2.out HD.out)
      clear C2
      have C2 := C2_
      clear C2_
      have HB_ := Aside0.mk (below_step HB.out HD.out)
      clear HB HD
      have HB := HB_
      clear HB_
      go_wp2_with fail
      go_ret
      exact ⟨rfl, HB.out⟩
    · skip
      subst he
      obtain ⟨p0, p1, p2, p3⟩ := only_num b n p hok_.out hl_.out h1_.out
      obtain ⟨p, rfl⟩ : ∃ m : Nat, p = (m : Int) := ⟨p.toNat, by omega⟩
      rw [Int.toNat_natCast] at p2
      have hp : p = (b.take p).length := by rw [List.length_take]; omega
      have hpl : p ≤ b.length := by omega
      rw [p2] at hp
      have k1 := prog_Number [] n (by decide) p3
      rw [List.nil_append] at k1
      have k2 := ref01_Same 1001 (numB n) (numB n) (by have := hb_.out; omega) (by have := hb_.out; omega)
      rw [decide_eq_true rfl] at k2
      obtain ⟨N, eN⟩ : ∃ N, N = numB n := ⟨_, rfl⟩
      rw [← eN] at k1 k2 p2 hp
      subst hp
      have k1_ := Aside0.mk k1
      have k2_ := Aside0.mk k2
      have p2_ := Aside0.mk p2
      have hpl_ := Aside0.mk hpl
      clear k1 k2 p2 hpl p0 p1 p3 eN
      have hfb : decide (f = 0) = false := decide_eq_false hf
      have hfc : (f == 0) = false := beq_eq_false_iff_ne.2 hf
      clear hf
      go_enter Try.func11, Try.ntmps11
      have HB := Aside0.mk (Below.refl w.heap.size w)
      go_wp2_with fail
      refine (few3_C a0 cap0 l0 (40) b w (L0.out) L0c.out fb.out).mono ?_
      rintro e w1 ⟨v1, rfl, hv1, hb1⟩
      have HD : Aside0 (Below w.heap.size w w1) := ⟨below_step (Below.refl _ _) hb1⟩
      clear hb1
      have L0_ := Aside0.mk (Kd.C_below L0.out HD.out)
      clear L0
      have L0 := L0_
      clear L0_
      have HB_ := Aside0.mk (below_step HB.out HD.out)
      clear HB HD
      have HB := HB_
      clear HB_
      obtain ⟨A1, c1, ev1⟩ := Kd.V_slice hv1
      subst ev1
      have BVc := Aside0.mk (Kd.V_reads' hv1).2.1
      have BV := Aside0.mk (Kd.V_reads' hv1).2.2
      clear hv1
      go_wp2_with fail
      clear L0 L0c
      refine (wire_New.calls A1 c1 b w1 (BV.out) (by have := hb_.out; omega)).mono ?_
      rintro e w2 ⟨g2, rfl, hg2, hn2, hb2⟩
      have HD : Aside0 (Below w1.heap.size w1 w2) := ⟨below_step (Below.refl _ _) hb2⟩
      clear hb2
      have HG2 : Aside0 (w.heap.size ≤ g2) := ⟨by have := HB.out.size; (try simp at hg2); omega⟩
      have HX2 : Aside0 (w1.heap.size ≤ g2) := ⟨by (try simp at hg2); omega⟩
      clear hg2
      have BV_ := Aside0.mk (Kd.C_below BV.out HD.out)
      clear BV
      have BV := BV_
      clear BV_
      have HB_ := Aside0.mk (below_step HB.out HD.out)
      clear HB HD
      have HB := HB_
      clear HB_
      have C1 := Aside0.mk hn2
      clear hn2
      go_wp2_with fail
      have HLC1_C2 := Aside0.mk C1.out.lt
      refine (wire_New.calls A1 c1 b w2 (BV.out) (by have := hb_.out; omega)).mono ?_
      rintro e w3 ⟨g3, rfl, hg3, hn3, hb3⟩
      have HD : Aside0 (Below w2.heap.size w2 w3) := ⟨below_step (Below.refl _ _) hb3⟩
      clear hb3
      have HG3 : Aside0 (w.heap.size ≤ g3) := ⟨by have := HB.out.size; (try simp at hg3); omega⟩
      have HX3 : Aside0 (w2.heap.size ≤ g3) := ⟨by (try simp at hg3); omega⟩
      clear hg3
      have BV_ := Aside0.mk (Kd.C_below BV.out HD.out)
      clear BV
      have BV := BV_
      clear BV_
      have C1_ := Aside0.mk (CurP.below C1.out HD.out)
      clear C1
      have C1 := C1_
      clear C1_
      have HB_ := Aside0.mk (below_step HB.out HD.out)
      clear HB HD
      have HB := HB_
      clear HB_
      have C2 := Aside0.mk hn3
      clear hn3
      go_wp2_with fail
      refine (CurP_Number C1.out (0) (9223372036854775807) (n) ((N.length : Int)) (0) h1_.out).mono ?_
      rintro e w4 ⟨rfl, hp4, hk4, hb4⟩
      have HK := Aside0.mk hk4
      have HD := Aside0.mk hb4
      have HS := Aside0.mk C1.out.blk
      have HN := Aside0.mk hp4
      clear hk4 hb4 hp4
      have BV_ := Aside0.mk (C_keep BV.out HS.out HK.out)
      clear BV
      have BV := BV_
      clear BV_
      have C1_ := Aside0.mk (HN.out)
      clear C1
      have C1 := C1_
      clear C1_
      have C2_ := Aside0.mk (CurP.keep C2.out HS.out HK.out (by have := HLC1_C2.out; have := HX3.out; omega))
      clear C2
      have C2 := C2_
      clear C2_
      have HB_ := Aside0.mk (below_keep HB.out HD.out HG2.out)
      clear HB HD HK HS HN
      have HB := HB_
      clear HB_
      go_wp2_with fail
      refine (CurP_Text C2.out (100) (s) (q) (f) h2_.out).mono ?_
      rintro e w5 ⟨rfl, hp5, hk5, hb5⟩
      have HK := Aside0.mk hk5
      have HD := Aside0.mk hb5
      have HS := Aside0.mk C2.out.blk
      have HN := Aside0.mk hp5
      clear hk5 hb5 hp5
      have BV_ := Aside0.mk (C_keep BV.out HS.out HK.out)
      clear BV
      have BV := BV_
      clear BV_
      have C1_ := Aside0.mk (CurP.keep C1.out HS.out HK.out (by have := HLC1_C2.out; have := HX3.out; omega))
      clear C1
      have C1 := C1_
      clear C1_
      have C2_ := Aside0.mk (HN.out)
      clear C2
      have C2 := C2_
      clear C2_
      have HB_ := Aside0.mk (below_keep HB.out HD.out HG3.out)
      clear HB HD HK HS HN
      have HB := HB_
      clear HB_
      go_wp2_with fail
      refine (CurP_Err C1.out (0) ((N.length : Int)) (0) rfl).mono ?_
      rintro e w6 ⟨rfl, hp6, hk6, hb6⟩
      have HK := Aside0.mk hk6
      have HD := Aside0.mk hb6
      have HS := Aside0.mk C1.out.blk
      have HN := Aside0.mk hp6
      clear hk6 hb6 hp6
      have BV_ := Aside0.mk (C_keep BV.out HS.out HK.out)
      clear BV
      have BV := BV_
      clear BV_
      have C1_ := Aside0.mk (HN.out)
      clear C1
      have C1 := C1_
      clear C1_
      have C2_ := Aside0.mk (CurP.keep C2.out HS.out HK.out (by have := HLC1_C2.out; have := HX3.out; omega))
      clear C2
      have C2 := C2_
      clear C2_
      have HB_ := Aside0.mk (below_keep HB.out HD.out HG2.out)
      clear HB HD HK HS HN
      have HB := HB_
      clear HB_
      go_wp2_with fail
      have hcut := hcut_to N.length A1 b.length c1 hpl_.out BVc.out
      have HD : Aside0 (Below w6.heap.size w6 w6.drew) := ⟨below_drew1 (Below.refl _ _)⟩
      have BV_ := Aside0.mk (Kd.C_below BV.out HD.out)
      clear BV
      have BV := BV_
      clear BV_
      have C1_ := Aside0.mk (CurP.below C1.out HD.out)
      clear C1
      have C1 := C1_
      clear C1_
      have C2_ := Aside0.mk (CurP.below C2.out HD.out)
      clear C2
      have C2 := C2_
      clear C2_
      have HB_ := Aside0.mk (below_step HB.out HD.out)
      clear HB HD
      have HB := HB_
      clear HB_
      refine start_ (n := 8) (S := fun w' => True) (ds := []) #[false, false, false, false, false, false, false, false] (by kernel_rfl) rfl rfl trivial (fun hHeld => ?_)
      generalize w6.drew = wd7 at *
      refine pure_ (i := 0) (N := some 28) (v := ?_) (a' := ?_) #[true, false, false, false, false, false, false, false] rfl rfl (by kernel_rfl) (fun _ _ _ h => h) (Or.inl ⟨by rfl, ?_⟩) ?_ ?_
      rotate_left
      · intro w'
        go_simp
        with_reducible rfl
      rotate_left
      · simp only [Act.put, List.setIfInBounds_toArray, List.set_cons_zero, List.set_cons_succ, i64_w, i32_w]
        rfl
      refine pure_ (i := 1) (N := some 29) (v := ?_) (a' := ?_) #[true, true, false, false, false, false, false, false] rfl rfl (by kernel_rfl) (fun _ _ _ h => h) (Or.inl ⟨by rfl, ?_⟩) ?_ ?_
      rotate_left
      · intro w'
        go_simp
        with_reducible rfl
      rotate_left
      · simp only [Act.put, List.setIfInBounds_toArray, List.set_cons_zero, List.set_cons_succ, i64_w, i32_w]
        rfl
      refine pure_ (i := 4) (N := some 32) (v := ?_) (a' := ?_) #[true, true, false, false, true, false, false, false] rfl rfl (by kernel_rfl) (fun _ _ _ h => h) (Or.inl ⟨by rfl, ?_⟩) ?_ ?_
      rotate_left
      · intro w'
        go_simp
        with_reducible rfl
      rotate_left
      · simp only [Act.put, List.setIfInBounds_toArray, List.set_cons_zero, List.set_cons_succ, i64_w, i32_w]
        rfl
      refine one_ (i := 2) (N := some 30) #[true, true, true, false, true, false, false, false] rfl rfl (by kernel_rfl) (by decide) (fun K hK => ?_)
      refine goes_ Try.func43 (by kernel_rfl) rfl #[.pointer (some ⟨g2, 0, none⟩)] (by rfl) rfl rfl (by simp only [List.map_toArray, List.map_cons, List.map_nil]; rfl) ?_
      with_reducible refine (CurP_Place C1.out ((N.length : Int)) ((N.length : Int)) (0) rfl).mono ?_
      rintro e w8 ⟨rfl, hp8, hk8, hb8⟩
      have HK := Aside0.mk hk8
      have HD := Aside0.mk hb8
      have HS := Aside0.mk C1.out.blk
      have HN := Aside0.mk hp8
      clear hk8 hb8 hp8
      have BV_ := Aside0.mk (C_keep BV.out HS.out HK.out)
      clear BV
      have BV := BV_
      clear BV_
      have C1_ := Aside0.mk (HN.out)
      clear C1
      have C1 := C1_
      clear C1_
      have C2_ := Aside0.mk (CurP.keep C2.out HS.out HK.out (by have := HLC1_C2.out; have := HX3.out; omega))
      clear C2
      have C2 := C2_
      clear C2_
      have HB_ := Aside0.mk (below_keep HB.out HD.out HG2.out)
      clear HB HD HK HS HN
      have HB := HB_
      clear HB_
      refine ⟨_, rfl, ?_⟩
      refine hK.out _ _ trivial (fun hHeld => ?_)
      clear hK K
      refine norm_ (a' := ?_) ?_ ?_
      rotate_left
      · show Act.put _ (some 30) _ = _
        simp only [Act.put, List.setIfInBounds_toArray, List.set_cons_zero, List.set_cons_succ, i64_w, i32_w]
        rfl
      refine pure_ (i := 3) (N := some 31) (v := ?_) (a' := ?_) #[true, true, true, true, true, false, false, false] rfl rfl (by kernel_rfl) (fun _ _ _ h => h) (Or.inl ⟨by rfl, ?_⟩) ?_ ?_
      rotate_left
      · intro w'
        go_simp
        with_reducible rfl
      rotate_left
      · simp only [Act.put, List.setIfInBounds_toArray, List.set_cons_zero, List.set_cons_succ, i64_w, i32_w]
        rfl
      refine one_ (i := 5) (N := some 33) #[true, true, true, true, true, true, false, false] rfl rfl (by kernel_rfl) (by decide) (fun K hK => ?_)
      refine goes_ Try.func34 (by kernel_rfl) rfl #[.slice none 0 0, .int .i64 (n)] (by rfl) rfl rfl (by simp only [List.map_toArray, List.map_cons, List.map_nil]; rfl) ?_
      refine (wire_Number.calls none 0 ([] : List Int) (n) N w8 (Kd.C_nil _ _) (by decide) k1_.out).mono ?_
      rintro e w9 ⟨v9, rfl, hv9, hb9⟩
      have HD : Aside0 (Below w8.heap.size w8 w9) := ⟨below_step (Below.refl _ _) hb9⟩
      clear hb9
      have BV_ := Aside0.mk (Kd.C_below BV.out HD.out)
      clear BV
      have BV := BV_
      clear BV_
      have C1_ := Aside0.mk (CurP.below C1.out HD.out)
      clear C1
      have C1 := C1_
      clear C1_
      have C2_ := Aside0.mk (CurP.below C2.out HD.out)
      clear C2
      have C2 := C2_
      clear C2_
      have HB_ := Aside0.mk (below_step HB.out HD.out)
      clear HB HD
      have HB := HB_
      clear HB_
      obtain ⟨A9, c9, ev9⟩ := Kd.R_slice hv9
      subst ev9
      have PBc := Aside0.mk (Kd.R_reads' hv9).2.1
      have PB := Aside0.mk (Kd.R_reads' hv9).2.2
      clear hv9
      refine ⟨_, rfl, ?_⟩
      refine hK.out _ _ trivial (fun hHeld => ?_)
      clear hK K
      refine norm_ (a' := ?_) ?_ ?_
      rotate_left
      · show Act.put _ (some 33) _ = _
        simp only [Act.put, List.setIfInBounds_toArray, List.set_cons_zero, List.set_cons_succ, i64_w, i32_w]
        rfl
      refine one_ (i := 6) (N := some 34) #[true, true, true, true, true, true, true, false] rfl rfl (by kernel_rfl) (by decide) (fun K hK => ?_)
      have CB := Aside0.mk (show (Kd.int .u8).C w9 A1 N.length N by have h_ := Kd.C_take (m := N.length) BV.out hpl_.out; rw [p2_.out] at h_; exact h_)
      have CBc := Aside0.mk (show N.length ≤ c1 by have := hpl_.out; have := BVc.out; omega)
      refine goes_ Try.func32 (by kernel_rfl) rfl #[.slice A1 N.length c1, .slice A9 N.length c9] (by rfl) rfl rfl (by simp only [List.map_toArray, List.map_cons, List.map_nil]; rfl) ?_
      with_reducible refine (liveryref01_Same.calls 1001 A1 c1 N A9 c9 N true w9 (CB.out) CBc.out (PB.out) PBc.out k2_.out).mono ?_
      rintro e w_ ⟨rfl, ⟨n10, rfl⟩⟩
      obtain ⟨w10, e10⟩ : ∃ W_ : World, W_ = World.drewN w9 n10 := ⟨_, rfl⟩
      have HD : Aside0 (Below w9.heap.size w9 w10) := ⟨by rw [e10]; exact pw_below_drewN (Below.refl _ _) _⟩
      rw [← e10]
      clear e10
      have BV_ := Aside0.mk (Kd.C_below BV.out HD.out)
      clear BV
      have BV := BV_
      clear BV_
      have C1_ := Aside0.mk (CurP.below C1.out HD.out)
      clear C1
      have C1 := C1_
      clear C1_
      have C2_ := Aside0.mk (CurP.below C2.out HD.out)
      clear C2
      have C2 := C2_
      clear C2_
      have PB_ := Aside0.mk (Kd.C_below PB.out HD.out)
      clear PB
      have PB := PB_
      clear PB_
      have CB_ := Aside0.mk (Kd.C_below CB.out HD.out)
      clear CB
      have CB := CB_
      clear CB_
      have HB_ := Aside0.mk (below_step HB.out HD.out)
      clear HB HD
      have HB := HB_
      clear HB_
      refine ⟨_, rfl, ?_⟩
      refine hK.out _ _ trivial (fun hHeld => ?_)
      clear hK K
      refine norm_ (a' := ?_) ?_ ?_
      rotate_left
      · show Act.put _ (some 34) _ = _
        simp only [Act.put, List.setIfInBounds_toArray, List.set_cons_zero, List.set_cons_succ, i64_w, i32_w]
        rfl
      refine pure_ (i := 7) (N := some 7) (v := ?_) (a' := ?_) #[true, true, true, true, true, true, true, true] rfl rfl (by kernel_rfl) (fun _ _ _ h => h) (Or.inl ⟨by rfl, ?_⟩) ?_ ?_
      rotate_left
      · intro w'
        go_simp
        with_reducible rfl
      rotate_left
      · simp only [Act.put, List.setIfInBounds_toArray, List.set_cons_zero, List.set_cons_succ, i64_w, i32_w]
        rfl
      refine done_ (by kernel_rfl) ?_
      clear hcut
      clear CB CBc
      clear PB PBc
      go_wp2_with fail
      refine (CurP_Err C2.out (f) (q) (f) rfl).mono ?_
      rintro e w11 ⟨rfl, hp11, hk11, hb11⟩
      have HK := Aside0.mk hk11
      have HD := Aside0.mk hb11
      have HS := Aside0.mk C2.out.blk
      have HN := Aside0.mk hp11
      clear hk11 hb11 hp11
      have BV_ := Aside0.mk (C_keep BV.out HS.out HK.out)
      clear BV
      have BV := BV_
      clear BV_
      have C1_ := Aside0.mk (CurP.keep C1.out HS.out HK.out (by have := HLC1_C2.out; have := HX3.out; omega))
      clear C1
      have C1 := C1_
      clear C1_
      have C2_ := Aside0.mk (HN.out)
      clear C2
      have C2 := C2_
      clear C2_
      have HB_ := Aside0.mk (below_keep HB.out HD.out HG3.out)
      clear HB HD HK HS HN
      have HB := HB_
      clear HB_
      go_wp2_with fail
      refine (liverylaw03_lives.calls (true) w11  rfl).mono ?_
      rintro e w12 ⟨rfl, hb12⟩
      have HD : Aside0 (Below w11.heap.size w11 w12) := ⟨below_step (Below.refl _ _) hb12⟩
      clear hb12
      have BV_ := Aside0.mk (Kd.C_below BV.out HD.out)
      clear BV
      have BV := BV_
      clear BV_
      have C1_ := Aside0.mk (CurP.below C1.out HD.out)
      clear C1
      have C1 := C1_
      clear C1_
      have C2_ := Aside0.mk (CurP.below C2.out HD.out)
      clear C2
      have C2 := C2_
      clear C2_
      have HB_ := Aside0.mk (below_step HB.out HD.out)
      clear HB HD
      have HB := HB_
      clear HB_
      go_wp2_with fail
      go_ret
      exact ⟨rfl, HB.out⟩
  · by_cases hf : f = 0
    · skip
      have heb : decide (e = 0) = false := decide_eq_false he
      have hec : (e == 0) = false := beq_eq_false_iff_ne.2 he
      clear he
      subst hf
      obtain ⟨q0, q1, q2, q3⟩ := only_text b s q hok_.out hl_.out h2_.out
      obtain ⟨q, rfl⟩ : ∃ m : Nat, q = (m : Int) := ⟨q.toNat, by omega⟩
      rw [Int.toNat_natCast] at q2
      have hq : q = (b.take q).length := by rw [List.length_take]; omega
      have hql : q ≤ b.length := by omega
      rw [q2] at hq
      have j1 := prog_Text [] s (by simp; omega)
      rw [List.nil_append] at j1
      have j2 := ref01_Same 1001 (textB s) (textB s) (by have := hb_.out; omega) (by have := hb_.out; omega)
      rw [decide_eq_true rfl] at j2
      obtain ⟨M, eM⟩ : ∃ M, M = textB s := ⟨_, rfl⟩
      rw [← eM] at j1 j2 q2 hq
      subst hq
      have j1_ := Aside0.mk j1
      have j2_ := Aside0.mk j2
      have q2_ := Aside0.mk q2
      have hql_ := Aside0.mk hql
      clear j1 j2 q2 hql q0 q1 q3 eM
      go_enter Try.func11, Try.ntmps11
      have HB := Aside0.mk (Below.refl w.heap.size w)
      go_wp2_with fail
      refine (few3_C a0 cap0 l0 (40) b w (L0.out) L0c.out fb.out).mono ?_
      rintro e w1 ⟨v1, rfl, hv1, hb1⟩
      have HD : Aside0 (Below w.heap.size w w1) := ⟨below_step (Below.refl _ _) hb1⟩
      clear hb1
      have L0_ := Aside0.mk (Kd.C_below L0.out HD.out)
      clear L0
      have L0 := L0_
      clear L0_
      have HB_ := Aside0.mk (below_step HB.out HD.out)
      clear HB HD
      have HB := HB_
      clear HB_
      obtain ⟨A1, c1, ev1⟩ := Kd.V_slice hv1
      subst ev1
      have BVc := Aside0.mk (Kd.V_reads' hv1).2.1
      have BV := Aside0.mk (Kd.V_reads' hv1).2.2
      clear hv1
      go_wp2_with fail
      clear L0 L0c
      refine (wire_New.calls A1 c1 b w1 (BV.out) (by have := hb_.out; omega)).mono ?_
      rintro e w2 ⟨g2, rfl, hg2, hn2, hb2⟩
      have HD : Aside0 (Below w1.heap.size w1 w2) := ⟨below_step (Below.refl _ _) hb2⟩
      clear hb2
      have HG2 : Aside0 (w.heap.size ≤ g2) := ⟨by have := HB.out.size; (try simp at hg2); omega⟩
      have HX2 : Aside0 (w1.heap.size ≤ g2) := ⟨by (try simp at hg2); omega⟩
      clear hg2
      have BV_ := Aside0.mk (Kd.C_below BV.out HD.out)
      clear BV
      have BV := BV_
      clear BV_
      have HB_ := Aside0.mk (below_step HB.out HD.out)
      clear HB HD
      have HB := HB_
      clear HB_
      have C1 := Aside0.mk hn2
      clear hn2
      go_wp2_with fail
      have HLC1_C2 := Aside0.mk C1.out.lt
      refine (wire_New.calls A1 c1 b w2 (BV.out) (by have := hb_.out; omega)).mono ?_
      rintro e w3 ⟨g3, rfl, hg3, hn3, hb3⟩
      have HD : Aside0 (Below w2.heap.size w2 w3) := ⟨below_step (Below.refl _ _) hb3⟩
      clear hb3
      have HG3 : Aside0 (w.heap.size ≤ g3) := ⟨by have := HB.out.size; (try simp at hg3); omega⟩
      have HX3 : Aside0 (w2.heap.size ≤ g3) := ⟨by (try simp at hg3); omega⟩
      clear hg3
      have BV_ := Aside0.mk (Kd.C_below BV.out HD.out)
      clear BV
      have BV := BV_
      clear BV_
      have C1_ := Aside0.mk (CurP.below C1.out HD.out)
      clear C1
      have C1 := C1_
      clear C1_
      have HB_ := Aside0.mk (below_step HB.out HD.out)
      clear HB HD
      have HB := HB_
      clear HB_
      have C2 := Aside0.mk hn3
      clear hn3
      go_wp2_with fail
      refine (CurP_Number C1.out (0) (9223372036854775807) (n) (p) (e) h1_.out).mono ?_
      rintro e w4 ⟨rfl, hp4, hk4, hb4⟩
      have HK := Aside0.mk hk4
      have HD := Aside0.mk hb4
      have HS := Aside0.mk C1.out.blk
      have HN := Aside0.mk hp4
      clear hk4 hb4 hp4
      have BV_ := Aside0.mk (C_keep BV.out HS.out HK.out)
      clear BV
      have BV := BV_
      clear BV_
      have C1_ := Aside0.mk (HN.out)
      clear C1
      have C1 := C1_
      clear C1_
      have C2_ := Aside0.mk (CurP.keep C2.out HS.out HK.out (by have := HLC1_C2.out; have := HX3.out; omega))
      clear C2
      have C2 := C2_
      clear C2_
      have HB_ := Aside0.mk (below_keep HB.out HD.out HG2.out)
      clear HB HD HK HS HN
      have HB := HB_
      clear HB_
      go_wp2_with fail
      refine (CurP_Text C2.out (100) (s) ((M.length : Int)) (0) h2_.out).mono ?_
      rintro e w5 ⟨rfl, hp5, hk5, hb5⟩
      have HK := Aside0.mk hk5
      have HD := Aside0.mk hb5
      have HS := Aside0.mk C2.out.blk
      have HN := Aside0.mk hp5
      clear hk5 hb5 hp5
      have BV_ := Aside0.mk (C_keep BV.out HS.out HK.out)
      clear BV
      have BV := BV_
      clear BV_
      have C1_ := Aside0.mk (CurP.keep C1.out HS.out HK.out (by have := HLC1_C2.out; have := HX3.out; omega))
      clear C1
      have C1 := C1_
      clear C1_
      have C2_ := Aside0.mk (HN.out)
      clear C2
      have C2 := C2_
      clear C2_
      have HB_ := Aside0.mk (below_keep HB.out HD.out HG3.out)
      clear HB HD HK HS HN
      have HB := HB_
      clear HB_
      go_wp2_with fail
      refine (CurP_Err C1.out (e) (p) (e) rfl).mono ?_
      rintro e w6 ⟨rfl, hp6, hk6, hb6⟩
      have HK := Aside0.mk hk6
      have HD := Aside0.mk hb6
      have HS := Aside0.mk C1.out.blk
      have HN := Aside0.mk hp6
      clear hk6 hb6 hp6
      have BV_ := Aside0.mk (C_keep BV.out HS.out HK.out)
      clear BV
      have BV := BV_
      clear BV_
      have C1_ := Aside0.mk (HN.out)
      clear C1
      have C1 := C1_
      clear C1_
      have C2_ := Aside0.mk (CurP.keep C2.out HS.out HK.out (by have := HLC1_C2.out; have := HX3.out; omega))
      clear C2
      have C2 := C2_
      clear C2_
      have HB_ := Aside0.mk (below_keep HB.out HD.out HG2.out)
      clear HB HD HK HS HN
      have HB := HB_
      clear HB_
      go_wp2_with fail
      refine (CurP_Err C2.out (0) ((M.length : Int)) (0) rfl).mono ?_
      rintro e w7 ⟨rfl, hp7, hk7, hb7⟩
      have HK := Aside0.mk hk7
      have HD := Aside0.mk hb7
      have HS := Aside0.mk C2.out.blk
      have HN := Aside0.mk hp7
      clear hk7 hb7 hp7
      have BV_ := Aside0.mk (C_keep BV.out HS.out HK.out)
      clear BV
      have BV := BV_
      clear BV_
      have C1_ := Aside0.mk (CurP.keep C1.out HS.out HK.out (by have := HLC1_C2.out; have := HX3.out; omega))
      clear C1
      have C1 := C1_
      clear C1_
      have C2_ := Aside0.mk (HN.out)
      clear C2
      have C2 := C2_
      clear C2_
      have HB_ := Aside0.mk (below_keep HB.out HD.out HG3.out)
      clear HB HD HK HS HN
      have HB := HB_
      clear HB_
      go_wp2_with fail
      have hcut := hcut_to M.length A1 b.length c1 hql_.out BVc.out
      have HD : Aside0 (Below w7.heap.size w7 w7.drew) := ⟨below_drew1 (Below.refl _ _)⟩
      have BV_ := Aside0.mk (Kd.C_below BV.out HD.out)
      clear BV
      have BV := BV_
      clear BV_
      have C1_ := Aside0.mk (CurP.below C1.out HD.out)
      clear C1
      have C1 := C1_
      clear C1_
      have C2_ := Aside0.mk (CurP.below C2.out HD.out)
      clear C2
      have C2 := C2_
      clear C2_
      have HB_ := Aside0.mk (below_step HB.out HD.out)
      clear HB HD
      have HB := HB_
      clear HB_
      refine start_ (n := 8) (S := fun w' => True) (ds := []) #[false, false, false, false, false, false, false, false] (by kernel_rfl) rfl rfl trivial (fun hHeld => ?_)
      generalize w7.drew = wd8 at *
      refine pure_ (i := 0) (N := some 40) (v := ?_) (a' := ?_) #[true, false, false, false, false, false, false, false] rfl rfl (by kernel_rfl) (fun _ _ _ h => h) (Or.inl ⟨by rfl, ?_⟩) ?_ ?_
      rotate_left
      · intro w'
        go_simp
        with_reducible rfl
      rotate_left
      · simp only [Act.put, List.setIfInBounds_toArray, List.set_cons_zero, List.set_cons_succ, i64_w, i32_w]
        rfl
      refine pure_ (i := 1) (N := some 41) (v := ?_) (a' := ?_) #[true, true, false, false, false, false, false, false] rfl rfl (by kernel_rfl) (fun _ _ _ h => h) (Or.inl ⟨by rfl, ?_⟩) ?_ ?_
      rotate_left
      · intro w'
        go_simp
        with_reducible rfl
      rotate_left
      · simp only [Act.put, List.setIfInBounds_toArray, List.set_cons_zero, List.set_cons_succ, i64_w, i32_w]
        rfl
      refine pure_ (i := 4) (N := some 44) (v := ?_) (a' := ?_) #[true, true, false, false, true, false, false, false] rfl rfl (by kernel_rfl) (fun _ _ _ h => h) (Or.inl ⟨by rfl, ?_⟩) ?_ ?_
      rotate_left
      · intro w'
        go_simp
        with_reducible rfl
      rotate_left
      · simp only [Act.put, List.setIfInBounds_toArray, List.set_cons_zero, List.set_cons_succ, i64_w, i32_w]
        rfl
      refine one_ (i := 2) (N := some 42) #[true, true, true, false, true, false, false, false] rfl rfl (by kernel_rfl) (by decide) (fun K hK => ?_)
      refine goes_ Try.func43 (by kernel_rfl) rfl #[.pointer (some ⟨g3, 0, none⟩)] (by rfl) rfl rfl (by simp only [List.map_toArray, List.map_cons, List.map_nil]; rfl) ?_
      with_reducible refine (CurP_Place C2.out ((M.length : Int)) ((M.length : Int)) (0) rfl).mono ?_
      rintro e w9 ⟨rfl, hp9, hk9, hb9⟩
      have HK := Aside0.mk hk9
      have HD := Aside0.mk hb9
      have HS := Aside0.mk C2.out.blk
      have HN := Aside0.mk hp9
      clear hk9 hb9 hp9
      have BV_ := Aside0.mk (C_keep BV.out HS.out HK.out)
      clear BV
      have BV := BV_
      clear BV_
      have C1_ := Aside0.mk (CurP.keep C1.out HS.out HK.out (by have := HLC1_C2.out; have := HX3.out; omega))
      clear C1
      have C1 := C1_
      clear C1_
      have C2_ := Aside0.mk (HN.out)
      clear C2
      have C2 := C2_
      clear C2_
      have HB_ := Aside0.mk (below_keep HB.out HD.out HG3.out)
      clear HB HD HK HS HN
      have HB := HB_
      clear HB_
      refine ⟨_, rfl, ?_⟩
      refine hK.out _ _ trivial (fun hHeld => ?_)
      clear hK K
      refine norm_ (a' := ?_) ?_ ?_
      rotate_left
      · show Act.put _ (some 42) _ = _
        simp only [Act.put, List.setIfInBounds_toArray, List.set_cons_zero, List.set_cons_succ, i64_w, i32_w]
        rfl
      refine pure_ (i := 3) (N := some 43) (v := ?_) (a' := ?_) #[true, true, true, true, true, false, false, false] rfl rfl (by kernel_rfl) (fun _ _ _ h => h) (Or.inl ⟨by rfl, ?_⟩) ?_ ?_
      rotate_left
      · intro w'
        go_simp
        with_reducible rfl
      rotate_left
      · simp only [Act.put, List.setIfInBounds_toArray, List.set_cons_zero, List.set_cons_succ, i64_w, i32_w]
        rfl
      refine one_ (i := 5) (N := some 45) #[true, true, true, true, true, true, false, false] rfl rfl (by kernel_rfl) (by decide) (fun K hK => ?_)
      refine goes_ Try.func36 (by kernel_rfl) rfl #[.slice none 0 0, .string s] (by rfl) rfl rfl (by simp only [List.map_toArray, List.map_cons, List.map_nil]; rfl) ?_
      refine (wire_Text.calls none 0 ([] : List Int) (s) M w9 (Kd.C_nil _ _) (by decide) j1_.out).mono ?_
      rintro e w10 ⟨v10, rfl, hv10, hb10⟩
      have HD : Aside0 (Below w9.heap.size w9 w10) := ⟨below_step (Below.refl _ _) hb10⟩
      clear hb10
      have BV_ := Aside0.mk (Kd.C_below BV.out HD.out)
      clear BV
      have BV := BV_
      clear BV_
      have C1_ := Aside0.mk (CurP.below C1.out HD.out)
      clear C1
      have C1 := C1_
      clear C1_
      have C2_ := Aside0.mk (CurP.below C2.out HD.out)
      clear C2
      have C2 := C2_
      clear C2_
      have HB_ := Aside0.mk (below_step HB.out HD.out)
      clear HB HD
      have HB := HB_
      clear HB_
      obtain ⟨A10, c10, ev10⟩ := Kd.R_slice hv10
      subst ev10
      have PBc := Aside0.mk (Kd.R_reads' hv10).2.1
      have PB := Aside0.mk (Kd.R_reads' hv10).2.2
      clear hv10
      refine ⟨_, rfl, ?_⟩
      refine hK.out _ _ trivial (fun hHeld => ?_)
      clear hK K
      refine norm_ (a' := ?_) ?_ ?_
      rotate_left
      · show Act.put _ (some 45) _ = _
        simp only [Act.put, List.setIfInBounds_toArray, List.set_cons_zero, List.set_cons_succ, i64_w, i32_w]
        rfl
      refine one_ (i := 6) (N := some 46) #[true, true, true, true, true, true, true, false] rfl rfl (by kernel_rfl) (by decide) (fun K hK => ?_)
      have CB := Aside0.mk (show (Kd.int .u8).C w10 A1 M.length M by have h_ := Kd.C_take (m := M.length) BV.out hql_.out; rw [q2_.out] at h_; exact h_)
      have CBc := Aside0.mk (show M.length ≤ c1 by have := hql_.out; have := BVc.out; omega)
      refine goes_ Try.func32 (by kernel_rfl) rfl #[.slice A1 M.length c1, .slice A10 M.length c10] (by rfl) rfl rfl (by simp only [List.map_toArray, List.map_cons, List.map_nil]; rfl) ?_
      with_reducible refine (liveryref01_Same.calls 1001 A1 c1 M A10 c10 M true w10 (CB.out) CBc.out (PB.out) PBc.out j2_.out).mono ?_
      rintro e w_ ⟨rfl, ⟨n11, rfl⟩⟩
      obtain ⟨w11, e11⟩ : ∃ W_ : World, W_ = World.drewN w10 n11 := ⟨_, rfl⟩
      have HD : Aside0 (Below w10.heap.size w10 w11) := ⟨by rw [e11]; exact pw_below_drewN (Below.refl _ _) _⟩
      rw [← e11]
      clear e11
      have BV_ := Aside0.mk (Kd.C_below BV.out HD.out)
      clear BV
      have BV := BV_
      clear BV_
      have C1_ := Aside0.mk (CurP.below C1.out HD.out)
      clear C1
      have C1 := C1_
      clear C1_
      have C2_ := Aside0.mk (CurP.below C2.out HD.out)
      clear C2
      have C2 := C2_
      clear C2_
      have PB_ := Aside0.mk (Kd.C_below PB.out HD.out)
      clear PB
      have PB := PB_
      clear PB_
      have CB_ := Aside0.mk (Kd.C_below CB.out HD.out)
      clear CB
      have CB := CB_
      clear CB_
      have HB_ := Aside0.mk (below_step HB.out HD.out)
      clear HB HD
      have HB := HB_
      clear HB_
      refine ⟨_, rfl, ?_⟩
      refine hK.out _ _ trivial (fun hHeld => ?_)
      clear hK K
      refine norm_ (a' := ?_) ?_ ?_
      rotate_left
      · show Act.put _ (some 46) _ = _
        simp only [Act.put, List.setIfInBounds_toArray, List.set_cons_zero, List.set_cons_succ, i64_w, i32_w]
        rfl
      refine pure_ (i := 7) (N := some 8) (v := ?_) (a' := ?_) #[true, true, true, true, true, true, true, true] rfl rfl (by kernel_rfl) (fun _ _ _ h => h) (Or.inl ⟨by rfl, ?_⟩) ?_ ?_
      rotate_left
      · intro w'
        go_simp
        with_reducible rfl
      rotate_left
      · simp only [Act.put, List.setIfInBounds_toArray, List.set_cons_zero, List.set_cons_succ, i64_w, i32_w]
        rfl
      refine done_ (by kernel_rfl) ?_
      clear hcut
      clear CB CBc
      clear PB PBc
      go_wp2_with fail
      refine (liverylaw03_lives.calls (true) w11  rfl).mono ?_
      rintro e w12 ⟨rfl, hb12⟩
      have HD : Aside0 (Below w11.heap.size w11 w12) := ⟨below_step (Below.refl _ _) hb12⟩
      clear hb12
      have BV_ := Aside0.mk (Kd.C_below BV.out HD.out)
      clear BV
      have BV := BV_
      clear BV_
      have C1_ := Aside0.mk (CurP.below C1.out HD.out)
      clear C1
      have C1 := C1_
      clear C1_
      have C2_ := Aside0.mk (CurP.below C2.out HD.out)
      clear C2
      have C2 := C2_
      clear C2_
      have HB_ := Aside0.mk (below_step HB.out HD.out)
      clear HB HD
      have HB := HB_
      clear HB_
      go_wp2_with fail
      go_ret
      exact ⟨rfl, HB.out⟩
    · skip
      have heb : decide (e = 0) = false := decide_eq_false he
      have hec : (e == 0) = false := beq_eq_false_iff_ne.2 he
      clear he
      have hfb : decide (f = 0) = false := decide_eq_false hf
      have hfc : (f == 0) = false := beq_eq_false_iff_ne.2 hf
      clear hf
      go_enter Try.func11, Try.ntmps11
      have HB := Aside0.mk (Below.refl w.heap.size w)
      go_wp2_with fail
      refine (few3_C a0 cap0 l0 (40) b w (L0.out) L0c.out fb.out).mono ?_
      rintro e w1 ⟨v1, rfl, hv1, hb1⟩
      have HD : Aside0 (Below w.heap.size w w1) := ⟨below_step (Below.refl _ _) hb1⟩
      clear hb1
      have L0_ := Aside0.mk (Kd.C_below L0.out HD.out)
      clear L0
      have L0 := L0_
      clear L0_
      have HB_ := Aside0.mk (below_step HB.out HD.out)
      clear HB HD
      have HB := HB_
      clear HB_
      obtain ⟨A1, c1, ev1⟩ := Kd.V_slice hv1
      subst ev1
      have BVc := Aside0.mk (Kd.V_reads' hv1).2.1
      have BV := Aside0.mk (Kd.V_reads' hv1).2.2
      clear hv1
      go_wp2_with fail
      clear L0 L0c
      refine (wire_New.calls A1 c1 b w1 (BV.out) (by have := hb_.out; omega)).mono ?_
      rintro e w2 ⟨g2, rfl, hg2, hn2, hb2⟩
      have HD : Aside0 (Below w1.heap.size w1 w2) := ⟨below_step (Below.refl _ _) hb2⟩
      clear hb2
      have HG2 : Aside0 (w.heap.size ≤ g2) := ⟨by have := HB.out.size; (try simp at hg2); omega⟩
      have HX2 : Aside0 (w1.heap.size ≤ g2) := ⟨by (try simp at hg2); omega⟩
      clear hg2
      have BV_ := Aside0.mk (Kd.C_below BV.out HD.out)
      clear BV
      have BV := BV_
      clear BV_
      have HB_ := Aside0.mk (below_step HB.out HD.out)
      clear HB HD
      have HB := HB_
      clear HB_
      have C1 := Aside0.mk hn2
      clear hn2
      go_wp2_with fail
      have HLC1_C2 := Aside0.mk C1.out.lt
      refine (wire_New.calls A1 c1 b w2 (BV.out) (by have := hb_.out; omega)).mono ?_
      rintro e w3 ⟨g3, rfl, hg3, hn3, hb3⟩
      have HD : Aside0 (Below w2.heap.size w2 w3) := ⟨below_step (Below.refl _ _) hb3⟩
      clear hb3
      have HG3 : Aside0 (w.heap.size ≤ g3) := ⟨by have := HB.out.size; (try simp at hg3); omega⟩
      have HX3 : Aside0 (w2.heap.size ≤ g3) := ⟨by (try simp at hg3); omega⟩
      clear hg3
      have BV_ := Aside0.mk (Kd.C_below BV.out HD.out)
      clear BV
      have BV := BV_
      clear BV_
      have C1_ := Aside0.mk (CurP.below C1.out HD.out)
      clear C1
      have C1 := C1_
      clear C1_
      have HB_ := Aside0.mk (below_step HB.out HD.out)
      clear HB HD
      have HB := HB_
      clear HB_
      have C2 := Aside0.mk hn3
      clear hn3
      go_wp2_with fail
      refine (CurP_Number C1.out (0) (9223372036854775807) (n) (p) (e) h1_.out).mono ?_
      rintro e w4 ⟨rfl, hp4, hk4, hb4⟩
      have HK := Aside0.mk hk4
      have HD := Aside0.mk hb4
      have HS := Aside0.mk C1.out.blk
      have HN := Aside0.mk hp4
      clear hk4 hb4 hp4
      have BV_ := Aside0.mk (C_keep BV.out HS.out HK.out)
      clear BV
      have BV := BV_
      clear BV_
      have C1_ := Aside0.mk (HN.out)
      clear C1
      have C1 := C1_
      clear C1_
      have C2_ := Aside0.mk (CurP.keep C2.out HS.out HK.out (by have := HLC1_C2.out; have := HX3.out; omega))
      clear C2
      have C2 := C2_
      clear C2_
      have HB_ := Aside0.mk (below_keep HB.out HD.out HG2.out)
      clear HB HD HK HS HN
      have HB := HB_
      clear HB_
      go_wp2_with fail
      refine (CurP_Text C2.out (100) (s) (q) (f) h2_.out).mono ?_
      rintro e w5 ⟨rfl, hp5, hk5, hb5⟩
      have HK := Aside0.mk hk5
      have HD := Aside0.mk hb5
      have HS := Aside0.mk C2.out.blk
      have HN := Aside0.mk hp5
      clear hk5 hb5 hp5
      have BV_ := Aside0.mk (C_keep BV.out HS.out HK.out)
      clear BV
      have BV := BV_
      clear BV_
      have C1_ := Aside0.mk (CurP.keep C1.out HS.out HK.out (by have := HLC1_C2.out; have := HX3.out; omega))
      clear C1
      have C1 := C1_
      clear C1_
      have C2_ := Aside0.mk (HN.out)
      clear C2
      have C2 := C2_
      clear C2_
      have HB_ := Aside0.mk (below_keep HB.out HD.out HG3.out)
      clear HB HD HK HS HN
      have HB := HB_
      clear HB_
      go_wp2_with fail
      refine (CurP_Err C1.out (e) (p) (e) rfl).mono ?_
      rintro e w6 ⟨rfl, hp6, hk6, hb6⟩
      have HK := Aside0.mk hk6
      have HD := Aside0.mk hb6
      have HS := Aside0.mk C1.out.blk
      have HN := Aside0.mk hp6
      clear hk6 hb6 hp6
      have BV_ := Aside0.mk (C_keep BV.out HS.out HK.out)
      clear BV
      have BV := BV_
      clear BV_
      have C1_ := Aside0.mk (HN.out)
      clear C1
      have C1 := C1_
      clear C1_
      have C2_ := Aside0.mk (CurP.keep C2.out HS.out HK.out (by have := HLC1_C2.out; have := HX3.out; omega))
      clear C2
      have C2 := C2_
      clear C2_
      have HB_ := Aside0.mk (below_keep HB.out HD.out HG2.out)
      clear HB HD HK HS HN
      have HB := HB_
      clear HB_
      go_wp2_with fail
      refine (CurP_Err C2.out (f) (q) (f) rfl).mono ?_
      rintro e w7 ⟨rfl, hp7, hk7, hb7⟩
      have HK := Aside0.mk hk7
      have HD := Aside0.mk hb7
      have HS := Aside0.mk C2.out.blk
      have HN := Aside0.mk hp7
      clear hk7 hb7 hp7
      have BV_ := Aside0.mk (C_keep BV.out HS.out HK.out)
      clear BV
      have BV := BV_
      clear BV_
      have C1_ := Aside0.mk (CurP.keep C1.out HS.out HK.out (by have := HLC1_C2.out; have := HX3.out; omega))
      clear C1
      have C1 := C1_
      clear C1_
      have C2_ := Aside0.mk (HN.out)
      clear C2
      have C2 := C2_
      clear C2_
      have HB_ := Aside0.mk (below_keep HB.out HD.out HG3.out)
      clear HB HD HK HS HN
      have HB := HB_
      clear HB_
      go_wp2_with fail
      refine (liverylaw03_lives.calls (true) w7  rfl).mono ?_
      rintro e w8 ⟨rfl, hb8⟩
      have HD : Aside0 (Below w7.heap.size w7 w8) := ⟨below_step (Below.refl _ _) hb8⟩
      clear hb8
      have BV_ := Aside0.mk (Kd.C_below BV.out HD.out)
      clear BV
      have BV := BV_
      clear BV_
      have C1_ := Aside0.mk (CurP.below C1.out HD.out)
      clear C1
      have C1 := C1_
      clear C1_
      have C2_ := Aside0.mk (CurP.below C2.out HD.out)
      clear C2
      have C2 := C2_
      clear C2_
      have HB_ := Aside0.mk (below_step HB.out HD.out)
      clear HB HD
      have HB := HB_
      clear HB_
      go_wp2_with fail
      go_ret
      exact ⟨rfl, HB.out⟩
end Go.Proofs.Ytnfnomcgalkagaa.P
