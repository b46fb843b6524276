/- What a cursor answers of any bytes is just what the document says, call by call: for any bytes and asks. -/
import Derived.Test.YtnfnomcgalkagaaHFew
import Derived.Test.YtnfnomcgalkagaaHAsk
import Derived.Test.YtnfnomcgalkagaaWRead
import Derived.Test.YtnfnomcgalkagaaP29
import Derived.Test.YtnfnomcgalkagaaP27
import Derived.Test.YtnfnomcgalkagaaHWLives
import Derived.Test.YtnfnomcgalkagaaHNew
import Derived.Test.YtnfnomcgalkagaaHMethods
import Derived.OpenShut
import Derived.Outline
namespace Go.Proofs.Ytnfnomcgalkagaa.P
open Go.RowKit Go.Proofs.YtnfnomcgalkagaaW.PrintWords Go.Proofs.YtnfnomcgalkagaaW.PrintLast Go.Proofs.YtnfnomcgalkagaaW.PrintMore
set_option linter.unusedVariables false
set_option linter.unusedSimpArgs false

theorem CurR.cellE {W : World} {g : Nat} {b : List Int} {p e : Int} (h : CurR W g b p e) : W.cell? ⟨g, 2, none⟩ = some (.int .i64 e) := by
  obtain ⟨A, c, hb, _⟩ := h
  rw [blk_cell hb]; rfl
theorem CurR.cellP {W : World} {g : Nat} {b : List Int} {p e : Int} (h : CurR W g b p e) : W.cell? ⟨g, 1, none⟩ = some (.int .i64 p) := by
  obtain ⟨A, c, hb, _⟩ := h
  rw [blk_cell hb]; rfl
theorem fail_eq (b : List Int) (p e : Int) : wire_Cursor_Fail.f b p e 11 = some (p, if e = 0 then 11 else e) := by unfold wire_Cursor_Fail.f; split <;> rfl
theorem refFail_eq (b : List Int) (p e : Int) : liveryref03_Cursor_Fail.f b p e 11 = some (p, if e = 0 then 11 else e) := by unfold liveryref03_Cursor_Fail.f; split <;> rfl
theorem refEnd_eq (b : List Int) (p e : Int) : liveryref03_Cursor_End.f b p e = some (endAt b p e, p, e) := by
  unfold liveryref03_Cursor_End.f endAt
  by_cases he : e = 0
  · rw [if_pos he, if_pos he]
    by_cases hp : p < (b.length : Int)
    · rw [if_pos hp, if_pos hp]
    · rw [if_neg hp, if_neg hp, he]
  · rw [if_neg he, if_neg he]
theorem textAt_place (b : List Int) (p e most : Int) (hb : okB b = true) (h0 : 0 ≤ p) (h1 : p ≤ (b.length : Int)) (hl : b.length ≤ 1000000000) : 0 ≤ (textAt b p e most).2.1 ∧ (textAt b p e most).2.1 ≤ (b.length : Int) := by
  have k1 := numAt_place b p e 0 most hb h0 h1 (by omega)
  have k2 := numAt_ok b p 0 most hb h0 h1 (by omega)
  by_cases he : e = 0
  · subst he
    unfold textAt
    by_cases hn : (numAt b p 0 0 most).2.2 = 0
    · rw [if_pos hn]
      have k3 := k2 hn
      split
      · exact ⟨h0, h1⟩
      · simp only
        rw [w64 (by omega) (by omega)]
        omega
    · rw [if_neg hn]; exact k1
  · rw [textAt_err b p e most he]; exact ⟨h0, h1⟩

set_option maxHeartbeats 400000 in
set_option maxRecDepth 100000 in
theorem liverylaw03_WireReads.walk (a0 : Option Addr) (len0 cap0 : Nat) (z0 : List Int) (a1 : Option Addr) (len1 cap1 : Nat) (w : World) (w0 : (a0 = none ∧ len0 = 0 ∧ cap0 = 0 ∧ z0 = []) ∨ ∃ x, a0 = some x ∧ len0 ≤ cap0 ∧ cap0 ≤ maxLen ∧ z0.length = cap0 ∧ (∀ i, i < z0.length → w.cell? (x.add i) = some (.int .u8 (z0.getD i 0))) ∧ ∀ n ∈ z0, (Lit.int .u8 n).wf = true) (y0 : len0 * 1 ≤ 140737488351232) (w1 : IsAsks w a1 len1) (y1 : len1 ≤ maxLen) :
    Calls Try.prog 14 #[.slice a0 len0 cap0, .slice a1 len1 cap1] w fun e w' => e = .returned (.bool true) ∧ Below w.heap.size w w' := by
  obtain ⟨l0, rfl, hr0, hm0, hw0, hc0⟩ := ReadsInt.ofRowC w0
  have L0 := Aside0.mk (Kd.C_of_reads (d := (0 : Int)) (h1 := fun _ => rfl) hr0)
  have L0c := Aside0.mk hc0
  have ASK := Aside0.mk w1
  have YM := Aside0.mk y1
  clear hr0 hc0 hm0 w0 w1 y1
  obtain ⟨b, eb⟩ : ∃ v, v = l0.take 200 := ⟨_, rfl⟩
  have hb : b.length ≤ 200 := by rw [eb, List.length_take]; omega
  have fb := Aside0.mk (show liverylaw03_few.f l0 200 = some b by rw [eb]; exact few3_eq l0 200)
  have hok : okB b = true := okB_of fun x hx => Go.bounds_u8 (hw0 x (List.mem_of_mem_take (eb ▸ hx)))
  have hb_ := Aside0.mk hb
  have hok_ := Aside0.mk hok
  clear hb hok eb hw0 y0
  go_enter Try.func14, Try.ntmps14
  have HB := Aside0.mk (Below.refl w.heap.size w)
  go_wp2_with fail
  refine (few3_C a0 cap0 l0 (200) b w (L0.out) L0c.out fb.out).mono ?_
  rintro e w1 ⟨v1, rfl, hv1, hb1⟩
  have HD : Aside0 (Below w.heap.size w w1) := ⟨below_step (Below.refl _ _) hb1⟩
  clear hb1
  have L0_ := Aside0.mk (Kd.C_below L0.out HD.out)
  clear L0
  have L0 := L0_
  clear L0_
  have HB_ := Aside0.mk (below_step HB.out HD.out)
  clear HB HD
  have HB := HB_
  clear HB_
  obtain ⟨A1, c1, ev1⟩ := Kd.V_slice hv1
  subst ev1
  have BVc := Aside0.mk (Kd.V_reads' hv1).2.1
  have BV := Aside0.mk (Kd.V_reads' hv1).2.2
  clear hv1
  go_wp2_with fail
  clear L0 L0c
  refine (wire_New.calls A1 c1 b w1 (BV.out) (by have := hb_.out; omega)).mono ?_
  rintro e w2 ⟨g2, rfl, hg2, hn2, hb2⟩
  have HD : Aside0 (Below w1.heap.size w1 w2) := ⟨below_step (Below.refl _ _) hb2⟩
  clear hb2
  have HG2 : Aside0 (w.heap.size ≤ g2) := ⟨by have := HB.out.size; (try simp at hg2); omega⟩
  have HX2 : Aside0 (w1.heap.size ≤ g2) := ⟨by (try simp at hg2); omega⟩
  clear hg2
  have BV_ := Aside0.mk (Kd.C_below BV.out HD.out)
  clear BV
  have BV := BV_
  clear BV_
  have HB_ := Aside0.mk (below_step HB.out HD.out)
  clear HB HD
  have HB := HB_
  clear HB_
  have C := Aside0.mk hn2
  clear hn2
  go_wp2_with fail
  obtain ⟨W7, eW⟩ : ∃ W7, W7 = w2.alloc (.cells #[.slice A1 b.length c1, .int .i64 0, .int .i64 0] 53) := ⟨_, rfl⟩
  rw [← eW]
  obtain ⟨gx, eg⟩ : ∃ gx, gx = w2.heap.size := ⟨_, rfl⟩
  rw [← eg]
  have X : Aside0 (CurR W7 gx b 0 0) := ⟨by rw [eW, eg]; exact CurR.new w2 A1 c1 b 0 0 BV.out BVc.out⟩
  have C_ : Aside0 (CurP W7 g2 b 0 0) := ⟨by rw [eW]; exact CurP.below C.out (below_alloc (Below.refl _ _) _)⟩
  have HB_ : Aside0 (Below w.heap.size w W7) := ⟨by rw [eW]; exact below_alloc HB.out _⟩
  have HLT : Aside0 (g2 < gx) := ⟨by rw [eg]; exact C.out.lt⟩
  have HX2 : Aside0 (w.heap.size ≤ gx) := ⟨by rw [eg]; exact HB.out.size⟩
  clear HB C BV eW eg
  have HB := HB_
  have C := C_
  clear HB_ C_
  go_loopw [7] (fun s7 wr => ∃ i : Nat, i ≤ 60 ∧ i ≤ len1 ∧ s7 = .int .i64 (i : Int) ∧ ∃ p e : Int, Aside0 (0 ≤ p ∧ p ≤ (b.length : Int)) ∧ Aside0 (CurP wr g2 b p e) ∧ Aside0 (CurR wr gx b p e) ∧ Aside0 (Below w.heap.size w wr)) (fun s7 _ => 60 - (intOf s7).toNat)
  case atStart => exact ⟨0, by omega, by omega, rfl, 0, 0, ⟨by omega, by omega⟩, C, X, HB⟩
  case round =>
    obtain ⟨i, hi60, hil, rfl, p, e, hp, hcp, hcr, hhb⟩ := hrel
    clear C X HB
    have C := hcp
    have X := hcr
    have HB := hhb
    clear hcp hcr hhb
    by_cases hk1 : i < len1
    case neg =>
      have k1 := decide_eq_false hk1
      have k2 := decide_eq_false (show ¬ (i : Int) < (len1 : Int) by omega)
      clear hi60 hil hk1
      go_wp2_with fail
      refine (liverylaw03_lives.calls (true) wr  rfl).mono ?_
      rintro e w51 ⟨rfl, hb51⟩
      have HD : Aside0 (Below wr.heap.size wr w51) := ⟨below_step (Below.refl _ _) hb51⟩
      clear hb51
      have C_ := Aside0.mk (CurP.below C.out HD.out)
      clear C
      have C := C_
      clear C_
      have X_ := Aside0.mk (CurR.below X.out HD.out)
      clear X
      have X := X_
      clear X_
      have HB_ := Aside0.mk (below_step HB.out HD.out)
      clear HB HD
      have HB := HB_
      clear HB_
      go_wp2_with fail
      go_ret
      exact ⟨rfl, HB.out⟩
    by_cases hk2 : i < 60
    case neg =>
      have k1 := decide_eq_true hk1
      have k2 := decide_eq_true (show (i : Int) < (len1 : Int) by omega)
      have k3 := decide_eq_false hk2
      have k4 := decide_eq_false (show ¬ (i : Int) < 60 by omega)
      clear hi60 hil hk1 hk2
      go_wp2_with fail
      refine (liverylaw03_lives.calls (true) wr  rfl).mono ?_
      rintro e w51 ⟨rfl, hb51⟩
      have HD : Aside0 (Below wr.heap.size wr w51) := ⟨below_step (Below.refl _ _) hb51⟩
      clear hb51
      have C_ := Aside0.mk (CurP.below C.out HD.out)
      clear C
      have C := C_
      clear C_
      have X_ := Aside0.mk (CurR.below X.out HD.out)
      clear X
      have X := X_
      clear X_
      have HB_ := Aside0.mk (below_step HB.out HD.out)
      clear HB HD
      have HB := HB_
      clear HB_
      go_wp2_with fail
      go_ret
      exact ⟨rfl, HB.out⟩
    obtain ⟨ab, ao, ea, hcell⟩ := ASK.out (by omega)
    subst ea
    obtain ⟨x, y, z, cx, cy, cz⟩ := hcell i hk1
    have hab := World.block_lt_of_cell? w _ cx
    simp only at hab
    have k1 := decide_eq_true hk1
    have k2 := decide_eq_true (show (i : Int) < (len1 : Int) by omega)
    have k3 := decide_eq_true hk2
    have k4 := decide_eq_true (show (i : Int) < 60 by omega)
    have k5 := eq_true hk1
    have k6 := eq_true (show (i : Int) < (len1 : Int) by omega)
    have k7 := eq_true (show (0 : Int) ≤ (i : Int) by omega)
    have hw : wrap64 ((i : Int) + 1) = ((i + 1 : Nat) : Int) := by rw [w64 (by omega) (by omega)]; omega
    have CX := Aside0.mk cx
    have CY := Aside0.mk cy
    have CZ := Aside0.mk cz
    have HAB := Aside0.mk hab
    clear hcell cx cy cz hab
    have hcx : wr.cell? ⟨ab, ao + i * 3, none⟩ = some (.int .i64 x) := ((HB.out.cell (p := ⟨ab, ao + i * 3, none⟩) HAB.out).trans CX.out)
    by_cases hx2 : x = 2
    · subst hx2
      go_wp2_with fail
      clear hcx
      obtain ⟨e2, ee⟩ : ∃ e2 : Int, e2 = if e = 0 then 11 else e := ⟨_, rfl⟩
      refine (CurP_Fail C.out (11) (p) (e2) (by rw [ee]; exact fail_eq b p e)).mono ?_
      rintro e w51 ⟨rfl, hp51, hk51, hb51⟩
      have HK := Aside0.mk hk51
      have HD := Aside0.mk hb51
      have HS := Aside0.mk C.out.blk
      have HN := Aside0.mk hp51
      clear hk51 hb51 hp51
      have C_ := Aside0.mk (HN.out)
      clear C
      have C := C_
      clear C_
      have X_ := Aside0.mk (CurR.keep X.out HS.out HK.out (by have := HLT.out; omega))
      clear X
      have X := X_
      clear X_
      have HB_ := Aside0.mk (below_keep HB.out HD.out HG2.out)
      clear HB HD HK HS HN
      have HB := HB_
      clear HB_
      go_wp2_with fail
      refine (CurR_Fail X.out (11) (p) (e2) (by rw [ee]; exact refFail_eq b p e)).mono ?_
      rintro e w52 ⟨rfl, hp52, hk52, hb52⟩
      have HK := Aside0.mk hk52
      have HD := Aside0.mk hb52
      have HS := Aside0.mk X.out.blk
      have HN := Aside0.mk hp52
      clear hk52 hb52 hp52
      have C_ := Aside0.mk (CurP.keep C.out HS.out HK.out (by have := HLT.out; omega))
      clear C
      have C := C_
      clear C_
      have X_ := Aside0.mk (HN.out)
      clear X
      have X := X_
      clear X_
      have HB_ := Aside0.mk (below_keep HB.out HD.out HX2.out)
      clear HB HD HK HS HN
      have HB := HB_
      clear HB_
      clear ee
      go_wp2_with fail
      have HPL := Aside0.mk hp.out
      have HD : Aside0 (Below w52.heap.size w52 w52.drew) := ⟨below_drew1 (Below.refl _ _)⟩
      have C_ := Aside0.mk (CurP.below C.out HD.out)
      clear C
      have C := C_
      clear C_
      have X_ := Aside0.mk (CurR.below X.out HD.out)
      clear X
      have X := X_
      clear X_
      have HB_ := Aside0.mk (below_step HB.out HD.out)
      clear HB HD
      have HB := HB_
      clear HB_
      refine start_ (n := 23) (S := fun w' => w'.cell? ⟨gx, 2, none⟩ = some (.int .i64 e2) ∧ w'.cell? ⟨gx, 1, none⟩ = some (.int .i64 p)) (ds := []) #[false, false, false, false, false, false, false, false, false, false, false, false, false, false, false, false, false, false, false, false, false, false, false] (by kernel_rfl) rfl rfl ⟨(CurR.cellE X.out), (CurR.cellP X.out)⟩ (fun hHeld => ?_)
      generalize w52.drew = wd53 at *
      refine pure_ (i := 0) (N := some 83) (v := ?_) (a' := ?_) #[true, false, false, false, false, false, false, false, false, false, false, false, false, false, false, false, false, false, false, false, false, false, false] rfl rfl (by kernel_rfl) (fun _ _ _ h => h) (Or.inl ⟨by rfl, ?_⟩) ?_ ?_
      rotate_left
      · intro w'
        go_simp
        with_reducible rfl
      rotate_left
      · simp only [Act.put, List.setIfInBounds_toArray, List.set_cons_zero, List.set_cons_succ, i64_w, i32_w]
        rfl
      refine pure_ (i := 2) (N := some 85) (v := ?_) (a' := ?_) #[true, false, true, false, false, false, false, false, false, false, false, false, false, false, false, false, false, false, false, false, false, false, false] rfl rfl (by kernel_rfl) (fun _ _ _ h => h) (Or.inl ⟨by rfl, ?_⟩) ?_ ?_
      rotate_left
      · intro w'
        go_simp
        with_reducible rfl
      rotate_left
      · simp only [Act.put, List.setIfInBounds_toArray, List.set_cons_zero, List.set_cons_succ, i64_w, i32_w]
        rfl
      refine pure_ (i := 3) (N := some 86) (v := ?_) (a' := ?_) #[true, false, true, true, false, false, false, false, false, false, false, false, false, false, false, false, false, false, false, false, false, false, false] rfl rfl (by kernel_rfl) (fun _ _ _ h => h) (Or.inl ⟨by rfl, ?_⟩) ?_ ?_
      rotate_left
      · intro w'
        go_simp
        with_reducible rfl
      rotate_left
      · simp only [Act.put, List.setIfInBounds_toArray, List.set_cons_zero, List.set_cons_succ, i64_w, i32_w]
        rfl
      refine pure_ (i := 4) (N := some 87) (v := ?_) (a' := ?_) #[true, false, true, true, true, false, false, false, false, false, false, false, false, false, false, false, false, false, false, false, false, false, false] rfl rfl (by kernel_rfl) (fun _ _ _ h => h) (Or.inl ⟨by rfl, ?_⟩) ?_ ?_
      rotate_left
      · intro w'
        go_simp
        with_reducible rfl
      rotate_left
      · simp only [Act.put, List.setIfInBounds_toArray, List.set_cons_zero, List.set_cons_succ, i64_w, i32_w]
        rfl
      refine take_ (i := 5) (N := some 88) (v := ?_) (a' := ?_) #[true, false, true, true, true, true, false, false, false, false, false, false, false, false, false, false, false, false, false, false, false, false, false] rfl rfl (by kernel_rfl) (fun _ _ _ h => h) (Or.inl ⟨by rfl, ?_⟩) hHeld ?_ ?_
      rotate_left
      · rintro w' ⟨s0, s1⟩
        go_simp
        with_reducible rfl
      rotate_left
      · simp only [Act.put, List.setIfInBounds_toArray, List.set_cons_zero, List.set_cons_succ, i64_w, i32_w]
        rfl
      refine one_ (i := 1) (N := some 84) #[true, true, true, true, true, true, false, false, false, false, false, false, false, false, false, false, false, false, false, false, false, false, false] rfl rfl (by kernel_rfl) (by decide) (fun K hK => ?_)
      refine goes_ Try.func42 (by kernel_rfl) rfl #[.pointer (some ⟨g2, 0, none⟩)] (by rfl) rfl rfl (by simp only [List.map_toArray, List.map_cons, List.map_nil]; rfl) ?_
      with_reducible refine (CurP_Err C.out (e2) (p) (e2) rfl).mono ?_
      rintro e w54 ⟨rfl, hp54, hk54, hb54⟩
      have HK := Aside0.mk hk54
      have HD := Aside0.mk hb54
      have HS := Aside0.mk C.out.blk
      have HN := Aside0.mk hp54
      clear hk54 hb54 hp54
      have C_ := Aside0.mk (HN.out)
      clear C
      have C := C_
      clear C_
      have X_ := Aside0.mk (CurR.keep X.out HS.out HK.out (by have := HLT.out; omega))
      clear X
      have X := X_
      clear X_
      have HB_ := Aside0.mk (below_keep HB.out HD.out HG2.out)
      clear HB HD HK HS HN
      have HB := HB_
      clear HB_
      refine ⟨_, rfl, ?_⟩
      refine hK.out _ _ ⟨(CurR.cellE X.out), (CurR.cellP X.out)⟩ (fun hHeld => ?_)
      clear hK K
      refine norm_ (a' := ?_) ?_ ?_
      rotate_left
      · show Act.put _ (some 84) _ = _
        simp only [Act.put, List.setIfInBounds_toArray, List.set_cons_zero, List.set_cons_succ, i64_w, i32_w]
        rfl
      refine pure_ (i := 6) (N := some 89) (v := ?_) (a' := ?_) #[true, true, true, true, true, true, true, false, false, false, false, false, false, false, false, false, false, false, false, false, false, false, false] rfl rfl (by kernel_rfl) (fun _ _ _ h => h) (Or.inl ⟨by rfl, ?_⟩) ?_ ?_
      rotate_left
      · intro w'
        go_simp
        with_reducible rfl
      rotate_left
      · simp only [Act.put, List.setIfInBounds_toArray, List.set_cons_zero, List.set_cons_succ, i64_w, i32_w]
        rfl
      refine pure_ (i := 7) (N := some 90) (v := ?_) (a' := ?_) #[true, true, true, true, true, true, true, true, false, false, false, false, false, false, false, false, false, false, false, false, false, false, false] rfl rfl (by kernel_rfl) (fun _ _ _ h => h) (Or.inl ⟨by rfl, ?_⟩) ?_ ?_
      rotate_left
      · intro w'
        go_simp
        with_reducible rfl
      rotate_left
      · simp only [Act.put, List.setIfInBounds_toArray, List.set_cons_zero, List.set_cons_succ, i64_w, i32_w]
        rfl
      refine pure_ (i := 8) (N := some 91) (v := ?_) (a' := ?_) #[true, true, true, true, true, true, true, true, true, false, false, false, false, false, false, false, false, false, false, false, false, false, false] rfl rfl (by kernel_rfl) (fun _ _ _ h => h) (Or.inl ⟨by rfl, ?_⟩) ?_ ?_
      rotate_left
      · intro w'
        go_simp
        with_reducible rfl
      rotate_left
      · simp only [Act.put, List.setIfInBounds_toArray, List.set_cons_zero, List.set_cons_succ, i64_w, i32_w]
        rfl
      refine pure_ (i := 10) (N := some 93) (v := ?_) (a' := ?_) #[true, true, true, true, true, true, true, true, true, false, true, false, false, false, false, false, false, false, false, false, false, false, false] rfl rfl (by kernel_rfl) (fun _ _ _ h => h) (Or.inl ⟨by rfl, ?_⟩) ?_ ?_
      rotate_left
      · intro w'
        go_simp
        with_reducible rfl
      rotate_left
      · simp only [Act.put, List.setIfInBounds_toArray, List.set_cons_zero, List.set_cons_succ, i64_w, i32_w]
        rfl
      refine one_ (i := 9) (N := some 92) #[true, true, true, true, true, true, true, true, true, true, true, false, false, false, false, false, false, false, false, false, false, false, false] rfl rfl (by kernel_rfl) (by decide) (fun K hK => ?_)
      refine goes_ Try.func48 (by kernel_rfl) rfl #[.pointer (some ⟨g2, 0, none⟩)] (by rfl) rfl rfl (by simp only [List.map_toArray, List.map_cons, List.map_nil]; rfl) ?_
      with_reducible refine (CurP_End C.out ((endAt b p e2)) (p) (e2) (by unfold wire_Cursor_End.f; rw [if_pos HPL.out.1, if_pos HPL.out.2])).mono ?_
      rintro e w55 ⟨rfl, hp55, hk55, hb55⟩
      have HK := Aside0.mk hk55
      have HD := Aside0.mk hb55
      have HS := Aside0.mk C.out.blk
      have HN := Aside0.mk hp55
      clear hk55 hb55 hp55
      have C_ := Aside0.mk (HN.out)
      clear C
      have C := C_
      clear C_
      have X_ := Aside0.mk (CurR.keep X.out HS.out HK.out (by have := HLT.out; omega))
      clear X
      have X := X_
      clear X_
      have HB_ := Aside0.mk (below_keep HB.out HD.out HG2.out)
      clear HB HD HK HS HN
      have HB := HB_
      clear HB_
      refine ⟨_, rfl, ?_⟩
      refine hK.out _ _ ⟨(CurR.cellE X.out), (CurR.cellP X.out)⟩ (fun hHeld => ?_)
      clear hK K
      refine norm_ (a' := ?_) ?_ ?_
      rotate_left
      · show Act.put _ (some 92) _ = _
        simp only [Act.put, List.setIfInBounds_toArray, List.set_cons_zero, List.set_cons_succ, i64_w, i32_w]
        rfl
      refine one_ (i := 11) (N := some 94) #[true, true, true, true, true, true, true, true, true, true, true, true, false, false, false, false, false, false, false, false, false, false, false] rfl rfl (by kernel_rfl) (by decide) (fun K hK => ?_)
      refine goes_ Try.func49 (by kernel_rfl) rfl #[.pointer (some ⟨gx, 0, none⟩)] (by rfl) rfl rfl (by simp only [List.map_toArray, List.map_cons, List.map_nil]; rfl) ?_
      with_reducible refine (CurR_End X.out ((endAt b p e2)) (p) (e2) (refEnd_eq b p e2)).mono ?_
      rintro e w56 ⟨rfl, hp56, hk56, hb56⟩
      have HK := Aside0.mk hk56
      have HD := Aside0.mk hb56
      have HS := Aside0.mk X.out.blk
      have HN := Aside0.mk hp56
      clear hk56 hb56 hp56
      have C_ := Aside0.mk (CurP.keep C.out HS.out HK.out (by have := HLT.out; omega))
      clear C
      have C := C_
      clear C_
      have X_ := Aside0.mk (HN.out)
      clear X
      have X := X_
      clear X_
      have HB_ := Aside0.mk (below_keep HB.out HD.out HX2.out)
      clear HB HD HK HS HN
      have HB := HB_
      clear HB_
      refine ⟨_, rfl, ?_⟩
      refine hK.out _ _ ⟨(CurR.cellE X.out), (CurR.cellP X.out)⟩ (fun hHeld => ?_)
      clear hK K
      refine norm_ (a' := ?_) ?_ ?_
      rotate_left
      · show Act.put _ (some 94) _ = _
        simp only [Act.put, List.setIfInBounds_toArray, List.set_cons_zero, List.set_cons_succ, i64_w, i32_w]
        rfl
      refine pure_ (i := 12) (N := some 95) (v := ?_) (a' := ?_) #[true, true, true, true, true, true, true, true, true, true, true, true, true, false, false, false, false, false, false, false, false, false, false] rfl rfl (by kernel_rfl) (fun _ _ _ h => h) (Or.inl ⟨by rfl, ?_⟩) ?_ ?_
      rotate_left
      · intro w'
        go_simp
        with_reducible rfl
      rotate_left
      · simp only [Act.put, List.setIfInBounds_toArray, List.set_cons_zero, List.set_cons_succ, i64_w, i32_w]
        rfl
      refine pure_ (i := 13) (N := some 96) (v := ?_) (a' := ?_) #[true, true, true, true, true, true, true, true, true, true, true, true, true, true, false, false, false, false, false, false, false, false, false] rfl rfl (by kernel_rfl) (fun _ _ _ h => h) (Or.inl ⟨by rfl, ?_⟩) ?_ ?_
      rotate_left
      · intro w'
        go_simp
        with_reducible rfl
      rotate_left
      · simp only [Act.put, List.setIfInBounds_toArray, List.set_cons_zero, List.set_cons_succ, i64_w, i32_w]
        rfl
      refine pure_ (i := 14) (N := some 97) (v := ?_) (a' := ?_) #[true, true, true, true, true, true, true, true, true, true, true, true, true, true, true, false, false, false, false, false, false, false, false] rfl rfl (by kernel_rfl) (fun _ _ _ h => h) (Or.inl ⟨by rfl, ?_⟩) ?_ ?_
      rotate_left
      · intro w'
        go_simp
        with_reducible rfl
      rotate_left
      · simp only [Act.put, List.setIfInBounds_toArray, List.set_cons_zero, List.set_cons_succ, i64_w, i32_w]
        rfl
      refine pure_ (i := 15) (N := some 98) (v := ?_) (a' := ?_) #[true, true, true, true, true, true, true, true, true, true, true, true, true, true, true, true, false, false, false, false, false, false, false] rfl rfl (by kernel_rfl) (fun _ _ _ h => h) (Or.inl ⟨by rfl, ?_⟩) ?_ ?_
      rotate_left
      · intro w'
        go_simp
        with_reducible rfl
      rotate_left
      · simp only [Act.put, List.setIfInBounds_toArray, List.set_cons_zero, List.set_cons_succ, i64_w, i32_w]
        rfl
      refine pure_ (i := 17) (N := some 100) (v := ?_) (a' := ?_) #[true, true, true, true, true, true, true, true, true, true, true, true, true, true, true, true, false, true, false, false, false, false, false] rfl rfl (by kernel_rfl) (fun _ _ _ h => h) (Or.inl ⟨by rfl, ?_⟩) ?_ ?_
      rotate_left
      · intro w'
        go_simp
        with_reducible rfl
      rotate_left
      · simp only [Act.put, List.setIfInBounds_toArray, List.set_cons_zero, List.set_cons_succ, i64_w, i32_w]
        rfl
      refine pure_ (i := 18) (N := some 101) (v := ?_) (a' := ?_) #[true, true, true, true, true, true, true, true, true, true, true, true, true, true, true, true, false, true, true, false, false, false, false] rfl rfl (by kernel_rfl) (fun _ _ _ h => h) (Or.inl ⟨by rfl, ?_⟩) ?_ ?_
      rotate_left
      · intro w'
        go_simp
        with_reducible rfl
      rotate_left
      · simp only [Act.put, List.setIfInBounds_toArray, List.set_cons_zero, List.set_cons_succ, i64_w, i32_w]
        rfl
      refine pure_ (i := 19) (N := some 102) (v := ?_) (a' := ?_) #[true, true, true, true, true, true, true, true, true, true, true, true, true, true, true, true, false, true, true, true, false, false, false] rfl rfl (by kernel_rfl) (fun _ _ _ h => h) (Or.inl ⟨by rfl, ?_⟩) ?_ ?_
      rotate_left
      · intro w'
        go_simp
        with_reducible rfl
      rotate_left
      · simp only [Act.put, List.setIfInBounds_toArray, List.set_cons_zero, List.set_cons_succ, i64_w, i32_w]
        rfl
      refine take_ (i := 20) (N := some 103) (v := ?_) (a' := ?_) #[true, true, true, true, true, true, true, true, true, true, true, true, true, true, true, true, false, true, true, true, true, false, false] rfl rfl (by kernel_rfl) (fun _ _ _ h => h) (Or.inl ⟨by rfl, ?_⟩) hHeld ?_ ?_
      rotate_left
      · rintro w' ⟨s0, s1⟩
        go_simp
        with_reducible rfl
      rotate_left
      · simp only [Act.put, List.setIfInBounds_toArray, List.set_cons_zero, List.set_cons_succ, i64_w, i32_w]
        rfl
      refine one_ (i := 16) (N := some 99) #[true, true, true, true, true, true, true, true, true, true, true, true, true, true, true, true, true, true, true, true, true, false, false] rfl rfl (by kernel_rfl) (by decide) (fun K hK => ?_)
      refine goes_ Try.func43 (by kernel_rfl) rfl #[.pointer (some ⟨g2, 0, none⟩)] (by rfl) rfl rfl (by simp only [List.map_toArray, List.map_cons, List.map_nil]; rfl) ?_
      with_reducible refine (CurP_Place C.out (p) (p) (e2) rfl).mono ?_
      rintro e w57 ⟨rfl, hp57, hk57, hb57⟩
      have HK := Aside0.mk hk57
      have HD := Aside0.mk hb57
      have HS := Aside0.mk C.out.blk
      have HN := Aside0.mk hp57
      clear hk57 hb57 hp57
      have C_ := Aside0.mk (HN.out)
      clear C
      have C := C_
      clear C_
      have X_ := Aside0.mk (CurR.keep X.out HS.out HK.out (by have := HLT.out; omega))
      clear X
      have X := X_
      clear X_
      have HB_ := Aside0.mk (below_keep HB.out HD.out HG2.out)
      clear HB HD HK HS HN
      have HB := HB_
      clear HB_
      refine ⟨_, rfl, ?_⟩
      refine hK.out _ _ ⟨(CurR.cellE X.out), (CurR.cellP X.out)⟩ (fun hHeld => ?_)
      clear hK K
      refine norm_ (a' := ?_) ?_ ?_
      rotate_left
      · show Act.put _ (some 99) _ = _
        simp only [Act.put, List.setIfInBounds_toArray, List.set_cons_zero, List.set_cons_succ, i64_w, i32_w]
        rfl
      refine pure_ (i := 21) (N := some 104) (v := ?_) (a' := ?_) #[true, true, true, true, true, true, true, true, true, true, true, true, true, true, true, true, true, true, true, true, true, true, false] rfl rfl (by kernel_rfl) (fun _ _ _ h => h) (Or.inl ⟨by rfl, ?_⟩) ?_ ?_
      rotate_left
      · intro w'
        go_simp
        with_reducible rfl
      rotate_left
      · simp only [Act.put, List.setIfInBounds_toArray, List.set_cons_zero, List.set_cons_succ, i64_w, i32_w]
        rfl
      refine pure_ (i := 22) (N := some 105) (v := ?_) (a' := ?_) #[true, true, true, true, true, true, true, true, true, true, true, true, true, true, true, true, true, true, true, true, true, true, true] rfl rfl (by kernel_rfl) (fun _ _ _ h => h) (Or.inl ⟨by rfl, ?_⟩) ?_ ?_
      rotate_left
      · intro w'
        go_simp
        with_reducible rfl
      rotate_left
      · simp only [Act.put, List.setIfInBounds_toArray, List.set_cons_zero, List.set_cons_succ, i64_w, i32_w]
        rfl
      refine done_ (by kernel_rfl) ?_
      go_wp2_with fail
      exact ⟨⟨i + 1, by omega, by omega, by first | rw [hw] | rfl, p, e2, HPL, C, X, HB⟩, by (try rw [hw]); simp only [intOf, Int.toNat_natCast]; omega⟩
    · have kx := decide_eq_false hx2
      have kx2 := beq_eq_false_iff_ne.2 hx2
      have kx3 := eq_false hx2
      clear hx2
      by_cases hx1 : x = 1
      · subst hx1
        obtain ⟨⟨s, q, f⟩, ef⟩ : ∃ t, t = textAt b p e z := ⟨_, rfl⟩
        have hq := textAt_place b p e z hok_.out hp.out.1 hp.out.2 (by have := hb_.out; omega)
        rw [← ef] at hq
        have HQ := Aside0.mk hq
        have T1 : Aside0 (wire_Cursor_Text.f b p e z = some (s, q, f)) := ⟨by unfold wire_Cursor_Text.f; rw [if_pos hok_.out, if_pos hp.out.1, if_pos hp.out.2, ef]⟩
        have T2 : Aside0 (liveryref03_Cursor_Text.f b p e z = some (s, q, f)) := ⟨by unfold liveryref03_Cursor_Text.f; rw [if_pos hok_.out, if_pos hp.out.1, if_pos hp.out.2, ef]⟩
        clear ef hq kx kx2 kx3
        go_wp2_with fail
        clear hcx
        have HD : Aside0 (Below wr.heap.size wr wr.drew) := ⟨below_drew1 (Below.refl _ _)⟩
        have C_ := Aside0.mk (CurP.below C.out HD.out)
        clear C
        have C := C_
        clear C_
        have X_ := Aside0.mk (CurR.below X.out HD.out)
        clear X
        have X := X_
        clear X_
        have HB_ := Aside0.mk (below_step HB.out HD.out)
        clear HB HD
        have HB := HB_
        clear HB_
        refine start_ (n := 15) (S := fun w' => w'.cell? ⟨ab, ao + i * 3 + 2, none⟩ = some (.int .i64 z)) (ds := []) #[false, false, false, false, false, false, false, false, false, false, false, false, false, false, false] (by kernel_rfl) rfl rfl (((HB.out.cell (p := ⟨ab, ao + i * 3 + 2, none⟩) HAB.out).trans CZ.out)) (fun hHeld => ?_)
        generalize wr.drew = wd51 at *
        refine pure_ (i := 0) (N := some 43) (v := ?_) (a' := ?_) #[true, false, false, false, false, false, false, false, false, false, false, false, false, false, false] rfl rfl (by kernel_rfl) (fun _ _ _ h => h) (Or.inl ⟨by rfl, ?_⟩) ?_ ?_
        rotate_left
        · intro w'
          go_simp
          with_reducible rfl
        rotate_left
        · simp only [Act.put, List.setIfInBounds_toArray, List.set_cons_zero, List.set_cons_succ, i64_w, i32_w]
          rfl
        refine pure_ (i := 1) (N := some 44) (v := ?_) (a' := ?_) #[true, true, false, false, false, false, false, false, false, false, false, false, false, false, false] rfl rfl (by kernel_rfl) (fun _ _ _ h => h) (Or.inl ⟨by rfl, ?_⟩) ?_ ?_
        rotate_left
        · intro w'
          go_simp
          with_reducible rfl
        rotate_left
        · simp only [Act.put, List.setIfInBounds_toArray, List.set_cons_zero, List.set_cons_succ, i64_w, i32_w]
          rfl
        refine pure_ (i := 2) (N := some 45) (v := ?_) (a' := ?_) #[true, true, true, false, false, false, false, false, false, false, false, false, false, false, false] rfl rfl (by kernel_rfl) (fun _ _ _ h => h) (Or.inl ⟨by rfl, ?_⟩) ?_ ?_
        rotate_left
        · intro w'
          go_simp
          with_reducible rfl
        rotate_left
        · simp only [Act.put, List.setIfInBounds_toArray, List.set_cons_zero, List.set_cons_succ, i64_w, i32_w]
          rfl
        refine pure_ (i := 3) (N := some 46) (v := ?_) (a' := ?_) #[true, true, true, true, false, false, false, false, false, false, false, false, false, false, false] rfl rfl (by kernel_rfl) (fun _ _ _ h => h) (Or.inl ⟨by rfl, ?_⟩) ?_ ?_
        rotate_left
        · intro w'
          go_simp
          with_reducible rfl
        rotate_left
        · simp only [Act.put, List.setIfInBounds_toArray, List.set_cons_zero, List.set_cons_succ, i64_w, i32_w]
          rfl
        refine pure_ (i := 4) (N := some 47) (v := ?_) (a' := ?_) #[true, true, true, true, true, false, false, false, false, false, false, false, false, false, false] rfl rfl (by kernel_rfl) (fun _ _ _ h => h) (Or.inl ⟨by rfl, ?_⟩) ?_ ?_
        rotate_left
        · intro w'
          go_simp
          with_reducible rfl
        rotate_left
        · simp only [Act.put, List.setIfInBounds_toArray, List.set_cons_zero, List.set_cons_succ, i64_w, i32_w]
          rfl
        refine pure_ (i := 7) (N := some 50) (v := ?_) (a' := ?_) #[true, true, true, true, true, false, false, true, false, false, false, false, false, false, false] rfl rfl (by kernel_rfl) (fun _ _ _ h => h) (Or.inl ⟨by rfl, ?_⟩) ?_ ?_
        rotate_left
        · intro w'
          go_simp
          with_reducible rfl
        rotate_left
        · simp only [Act.put, List.setIfInBounds_toArray, List.set_cons_zero, List.set_cons_succ, i64_w, i32_w]
          rfl
        refine pure_ (i := 8) (N := some 51) (v := ?_) (a' := ?_) #[true, true, true, true, true, false, false, true, true, false, false, false, false, false, false] rfl rfl (by kernel_rfl) (fun _ _ _ h => h) (Or.inl ⟨by rfl, ?_⟩) ?_ ?_
        rotate_left
        · intro w'
          go_simp
          with_reducible rfl
        rotate_left
        · simp only [Act.put, List.setIfInBounds_toArray, List.set_cons_zero, List.set_cons_succ, i64_w, i32_w]
          rfl
        refine pure_ (i := 9) (N := some 52) (v := ?_) (a' := ?_) #[true, true, true, true, true, false, false, true, true, true, false, false, false, false, false] rfl rfl (by kernel_rfl) (fun _ _ _ h => h) (Or.inl ⟨by rfl, ?_⟩) ?_ ?_
        rotate_left
        · intro w'
          go_simp
          with_reducible rfl
        rotate_left
        · simp only [Act.put, List.setIfInBounds_toArray, List.set_cons_zero, List.set_cons_succ, i64_w, i32_w]
          rfl
        refine pure_ (i := 10) (N := some 53) (v := ?_) (a' := ?_) #[true, true, true, true, true, false, false, true, true, true, true, false, false, false, false] rfl rfl (by kernel_rfl) (fun _ _ _ h => h) (Or.inl ⟨by rfl, ?_⟩) ?_ ?_
        rotate_left
        · intro w'
          go_simp
          with_reducible rfl
        rotate_left
        · simp only [Act.put, List.setIfInBounds_toArray, List.set_cons_zero, List.set_cons_succ, i64_w, i32_w]
          rfl
        refine pure_ (i := 11) (N := some 54) (v := ?_) (a' := ?_) #[true, true, true, true, true, false, false, true, true, true, true, true, false, false, false] rfl rfl (by kernel_rfl) (fun _ _ _ h => h) (Or.inl ⟨by rfl, ?_⟩) ?_ ?_
        rotate_left
        · intro w'
          go_simp
          with_reducible rfl
        rotate_left
        · simp only [Act.put, List.setIfInBounds_toArray, List.set_cons_zero, List.set_cons_succ, i64_w, i32_w]
          rfl
        refine take_ (i := 5) (N := some 48) (v := ?_) (a' := ?_) #[true, true, true, true, true, true, false, true, true, true, true, true, false, false, false] rfl rfl (by kernel_rfl) (fun _ _ _ h => h) (Or.inl ⟨by rfl, ?_⟩) hHeld ?_ ?_
        rotate_left
        · intro w' s0
          go_simp
          with_reducible rfl
        rotate_left
        · simp only [Act.put, List.setIfInBounds_toArray, List.set_cons_zero, List.set_cons_succ, i64_w, i32_w]
          rfl
        refine take_ (i := 12) (N := some 55) (v := ?_) (a' := ?_) #[true, true, true, true, true, true, false, true, true, true, true, true, true, false, false] rfl rfl (by kernel_rfl) (fun _ _ _ h => h) (Or.inl ⟨by rfl, ?_⟩) hHeld ?_ ?_
        rotate_left
        · intro w' s0
          go_simp
          with_reducible rfl
        rotate_left
        · simp only [Act.put, List.setIfInBounds_toArray, List.set_cons_zero, List.set_cons_succ, i64_w, i32_w]
          rfl
        refine one_ (i := 6) (N := some 49) #[true, true, true, true, true, true, true, true, true, true, true, true, true, false, false] rfl rfl (by kernel_rfl) (by decide) (fun K hK => ?_)
        refine goes_ Try.func41 (by kernel_rfl) rfl #[.pointer (some ⟨g2, 0, none⟩), .int .i64 z] (by rfl) rfl rfl (by simp only [List.map_toArray, List.map_cons, List.map_nil]; rfl) ?_
        with_reducible refine (CurP_Text C.out (z) (s) (q) (f) T1.out).mono ?_
        rintro e w52 ⟨rfl, hp52, hk52, hb52⟩
        have HK := Aside0.mk hk52
        have HD := Aside0.mk hb52
        have HS := Aside0.mk C.out.blk
        have HN := Aside0.mk hp52
        clear hk52 hb52 hp52
        have C_ := Aside0.mk (HN.out)
        clear C
        have C := C_
        clear C_
        have X_ := Aside0.mk (CurR.keep X.out HS.out HK.out (by have := HLT.out; omega))
        clear X
        have X := X_
        clear X_
        have HB_ := Aside0.mk (below_keep HB.out HD.out HG2.out)
        clear HB HD HK HS HN
        have HB := HB_
        clear HB_
        refine ⟨_, rfl, ?_⟩
        refine hK.out _ _ (((HB.out.cell (p := ⟨ab, ao + i * 3 + 2, none⟩) HAB.out).trans CZ.out)) (fun hHeld => ?_)
        clear hK K
        refine norm_ (a' := ?_) ?_ ?_
        rotate_left
        · show Act.put _ (some 49) _ = _
          simp only [Act.put, List.setIfInBounds_toArray, List.set_cons_zero, List.set_cons_succ, i64_w, i32_w]
          rfl
        refine one_ (i := 13) (N := some 56) #[true, true, true, true, true, true, true, true, true, true, true, true, true, true, false] rfl rfl (by kernel_rfl) (by decide) (fun K hK => ?_)
        refine goes_ Try.func44 (by kernel_rfl) rfl #[.pointer (some ⟨gx, 0, none⟩), .int .i64 z] (by rfl) rfl rfl (by simp only [List.map_toArray, List.map_cons, List.map_nil]; rfl) ?_
        with_reducible refine (CurR_Text X.out (z) (s) (q) (f) T2.out).mono ?_
        rintro e w53 ⟨rfl, hp53, hk53, hb53⟩
        have HK := Aside0.mk hk53
        have HD := Aside0.mk hb53
        have HS := Aside0.mk X.out.blk
        have HN := Aside0.mk hp53
        clear hk53 hb53 hp53
        have C_ := Aside0.mk (CurP.keep C.out HS.out HK.out (by have := HLT.out; omega))
        clear C
        have C := C_
        clear C_
        have X_ := Aside0.mk (HN.out)
        clear X
        have X := X_
        clear X_
        have HB_ := Aside0.mk (below_keep HB.out HD.out HX2.out)
        clear HB HD HK HS HN
        have HB := HB_
        clear HB_
        refine ⟨_, rfl, ?_⟩
        refine hK.out _ _ (((HB.out.cell (p := ⟨ab, ao + i * 3 + 2, none⟩) HAB.out).trans CZ.out)) (fun hHeld => ?_)
        clear hK K
        refine norm_ (a' := ?_) ?_ ?_
        rotate_left
        · show Act.put _ (some 56) _ = _
          simp only [Act.put, List.setIfInBounds_toArray, List.set_cons_zero, List.set_cons_succ, i64_w, i32_w]
          rfl
        refine pure_ (i := 14) (N := some 57) (v := ?_) (a' := ?_) #[true, true, true, true, true, true, true, true, true, true, true, true, true, true, true] rfl rfl (by kernel_rfl) (fun _ _ _ h => h) (Or.inl ⟨by rfl, ?_⟩) ?_ ?_
        rotate_left
        · intro w'
          go_simp
          with_reducible rfl
        rotate_left
        · simp only [Act.put, List.setIfInBounds_toArray, List.set_cons_zero, List.set_cons_succ, i64_w, i32_w]
          rfl
        refine done_ (by kernel_rfl) ?_
        go_wp2_with fail
        have HPL := Aside0.mk HQ.out
        have HD : Aside0 (Below w53.heap.size w53 w53.drew) := ⟨below_drew1 (Below.refl _ _)⟩
        have C_ := Aside0.mk (CurP.below C.out HD.out)
        clear C
        have C := C_
        clear C_
        have X_ := Aside0.mk (CurR.below X.out HD.out)
        clear X
        have X := X_
        clear X_
        have HB_ := Aside0.mk (below_step HB.out HD.out)
        clear HB HD
        have HB := HB_
        clear HB_
        refine start_ (n := 23) (S := fun w' => w'.cell? ⟨gx, 2, none⟩ = some (.int .i64 f) ∧ w'.cell? ⟨gx, 1, none⟩ = some (.int .i64 q)) (ds := []) #[false, false, false, false, false, false, false, false, false, false, false, false, false, false, false, false, false, false, false, false, false, false, false] (by kernel_rfl) rfl rfl ⟨(CurR.cellE X.out), (CurR.cellP X.out)⟩ (fun hHeld => ?_)
        generalize w53.drew = wd54 at *
        refine pure_ (i := 0) (N := some 83) (v := ?_) (a' := ?_) #[true, false, false, false, false, false, false, false, false, false, false, false, false, false, false, false, false, false, false, false, false, false, false] rfl rfl (by kernel_rfl) (fun _ _ _ h => h) (Or.inl ⟨by rfl, ?_⟩) ?_ ?_
        rotate_left
        · intro w'
          go_simp
          with_reducible rfl
        rotate_left
        · simp only [Act.put, List.setIfInBounds_toArray, List.set_cons_zero, List.set_cons_succ, i64_w, i32_w]
          rfl
        refine pure_ (i := 2) (N := some 85) (v := ?_) (a' := ?_) #[true, false, true, false, false, false, false, false, false, false, false, false, false, false, false, false, false, false, false, false, false, false, false] rfl rfl (by kernel_rfl) (fun _ _ _ h => h) (Or.inl ⟨by rfl, ?_⟩) ?_ ?_
        rotate_left
        · intro w'
          go_simp
          with_reducible rfl
        rotate_left
        · simp only [Act.put, List.setIfInBounds_toArray, List.set_cons_zero, List.set_cons_succ, i64_w, i32_w]
          rfl
        refine pure_ (i := 3) (N := some 86) (v := ?_) (a' := ?_) #[true, false, true, true, false, false, false, false, false, false, false, false, false, false, false, false, false, false, false, false, false, false, false] rfl rfl (by kernel_rfl) (fun _ _ _ h => h) (Or.inl ⟨by rfl, ?_⟩) ?_ ?_
        rotate_left
        · intro w'
          go_simp
          with_reducible rfl
        rotate_left
        · simp only [Act.put, List.setIfInBounds_toArray, List.set_cons_zero, List.set_cons_succ, i64_w, i32_w]
          rfl
        refine pure_ (i := 4) (N := some 87) (v := ?_) (a' := ?_) #[true, false, true, true, true, false, false, false, false, false, false, false, false, false, false, false, false, false, false, false, false, false, false] rfl rfl (by kernel_rfl) (fun _ _ _ h => h) (Or.inl ⟨by rfl, ?_⟩) ?_ ?_
        rotate_left
        · intro w'
          go_simp
          with_reducible rfl
        rotate_left
        · simp only [Act.put, List.setIfInBounds_toArray, List.set_cons_zero, List.set_cons_succ, i64_w, i32_w]
          rfl
        refine take_ (i := 5) (N := some 88) (v := ?_) (a' := ?_) #[true, false, true, true, true, true, false, false, false, false, false, false, false, false, false, false, false, false, false, false, false, false, false] rfl rfl (by kernel_rfl) (fun _ _ _ h => h) (Or.inl ⟨by rfl, ?_⟩) hHeld ?_ ?_
        rotate_left
        · rintro w' ⟨s0, s1⟩
          go_simp
          with_reducible rfl
        rotate_left
        · simp only [Act.put, List.setIfInBounds_toArray, List.set_cons_zero, List.set_cons_succ, i64_w, i32_w]
          rfl
        refine one_ (i := 1) (N := some 84) #[true, true, true, true, true, true, false, false, false, false, false, false, false, false, false, false, false, false, false, false, false, false, false] rfl rfl (by kernel_rfl) (by decide) (fun K hK => ?_)
        refine goes_ Try.func42 (by kernel_rfl) rfl #[.pointer (some ⟨g2, 0, none⟩)] (by rfl) rfl rfl (by simp only [List.map_toArray, List.map_cons, List.map_nil]; rfl) ?_
        with_reducible refine (CurP_Err C.out (f) (q) (f) rfl).mono ?_
        rintro e w55 ⟨rfl, hp55, hk55, hb55⟩
        have HK := Aside0.mk hk55
        have HD := Aside0.mk hb55
        have HS := Aside0.mk C.out.blk
        have HN := Aside0.mk hp55
        clear hk55 hb55 hp55
        have C_ := Aside0.mk (HN.out)
        clear C
        have C := C_
        clear C_
        have X_ := Aside0.mk (CurR.keep X.out HS.out HK.out (by have := HLT.out; omega))
        clear X
        have X := X_
        clear X_
        have HB_ := Aside0.mk (below_keep HB.out HD.out HG2.out)
        clear HB HD HK HS HN
        have HB := HB_
        clear HB_
        refine ⟨_, rfl, ?_⟩
        refine hK.out _ _ ⟨(CurR.cellE X.out), (CurR.cellP X.out)⟩ (fun hHeld => ?_)
        clear hK K
        refine norm_ (a' := ?_) ?_ ?_
        rotate_left
        · show Act.put _ (some 84) _ = _
          simp only [Act.put, List.setIfInBounds_toArray, List.set_cons_zero, List.set_cons_succ, i64_w, i32_w]
          rfl
        refine pure_ (i := 6) (N := some 89) (v := ?_) (a' := ?_) #[true, true, true, true, true, true, true, false, false, false, false, false, false, false, false, false, false, false, false, false, false, false, false] rfl rfl (by kernel_rfl) (fun _ _ _ h => h) (Or.inl ⟨by rfl, ?_⟩) ?_ ?_
        rotate_left
        · intro w'
          go_simp
          with_reducible rfl
        rotate_left
        · simp only [Act.put, List.setIfInBounds_toArray, List.set_cons_zero, List.set_cons_succ, i64_w, i32_w]
          rfl
        refine pure_ (i := 7) (N := some 90) (v := ?_) (a' := ?_) #[true, true, true, true, true, true, true, true, false, false, false, false, false, false, false, false, false, false, false, false, false, false, false] rfl rfl (by kernel_rfl) (fun _ _ _ h => h) (Or.inl ⟨by rfl, ?_⟩) ?_ ?_
        rotate_left
        · intro w'
          go_simp
          with_reducible rfl
        rotate_left
        · simp only [Act.put, List.setIfInBounds_toArray, List.set_cons_zero, List.set_cons_succ, i64_w, i32_w]
          rfl
        refine pure_ (i := 8) (N := some 91) (v := ?_) (a' := ?_) #[true, true, true, true, true, true, true, true, true, false, false, false, false, false, false, false, false, false, false, false, false, false, false] rfl rfl (by kernel_rfl) (fun _ _ _ h => h) (Or.inl ⟨by rfl, ?_⟩) ?_ ?_
        rotate_left
        · intro w'
          go_simp
          with_reducible rfl
        rotate_left
        · simp only [Act.put, List.setIfInBounds_toArray, List.set_cons_zero, List.set_cons_succ, i64_w, i32_w]
          rfl
        refine pure_ (i := 10) (N := some 93) (v := ?_) (a' := ?_) #[true, true, true, true, true, true, true, true, true, false, true, false, false, false, false, false, false, false, false, false, false, false, false] rfl rfl (by kernel_rfl) (fun _ _ _ h => h) (Or.inl ⟨by rfl, ?_⟩) ?_ ?_
        rotate_left
        · intro w'
          go_simp
          with_reducible rfl
        rotate_left
        · simp only [Act.put, List.setIfInBounds_toArray, List.set_cons_zero, List.set_cons_succ, i64_w, i32_w]
          rfl
        refine one_ (i := 9) (N := some 92) #[true, true, true, true, true, true, true, true, true, true, true, false, false, false, false, false, false, false, false, false, false, false, false] rfl rfl (by kernel_rfl) (by decide) (fun K hK => ?_)
        refine goes_ Try.func48 (by kernel_rfl) rfl #[.pointer (some ⟨g2, 0, none⟩)] (by rfl) rfl rfl (by simp only [List.map_toArray, List.map_cons, List.map_nil]; rfl) ?_
        with_reducible refine (CurP_End C.out ((endAt b q f)) (q) (f) (by unfold wire_Cursor_End.f; rw [if_pos HPL.out.1, if_pos HPL.out.2])).mono ?_
        rintro e w56 ⟨rfl, hp56, hk56, hb56⟩
        have HK := Aside0.mk hk56
        have HD := Aside0.mk hb56
        have HS := Aside0.mk C.out.blk
        have HN := Aside0.mk hp56
        clear hk56 hb56 hp56
        have C_ := Aside0.mk (HN.out)
        clear C
        have C := C_
        clear C_
        have X_ := Aside0.mk (CurR.keep X.out HS.out HK.out (by have := HLT.out; omega))
        clear X
        have X := X_
        clear X_
        have HB_ := Aside0.mk (below_keep HB.out HD.out HG2.out)
        clear HB HD HK HS HN
        have HB := HB_
        clear HB_
        refine ⟨_, rfl, ?_⟩
        refine hK.out _ _ ⟨(CurR.cellE X.out), (CurR.cellP X.out)⟩ (fun hHeld => ?_)
        clear hK K
        refine norm_ (a' := ?_) ?_ ?_
        rotate_left
        · show Act.put _ (some 92) _ = _
          simp only [Act.put, List.setIfInBounds_toArray, List.set_cons_zero, List.set_cons_succ, i64_w, i32_w]
          rfl
        refine one_ (i := 11) (N := some 94) #[true, true, true, true, true, true, true, true, true, true, true, true, false, false, false, false, false, false, false, false, false, false, false] rfl rfl (by kernel_rfl) (by decide) (fun K hK => ?_)
        refine goes_ Try.func49 (by kernel_rfl) rfl #[.pointer (some ⟨gx, 0, none⟩)] (by rfl) rfl rfl (by simp only [List.map_toArray, List.map_cons, List.map_nil]; rfl) ?_
        with_reducible refine (CurR_End X.out ((endAt b q f)) (q) (f) (refEnd_eq b q f)).mono ?_
        rintro e w57 ⟨rfl, hp57, hk57, hb57⟩
        have HK := Aside0.mk hk57
        have HD := Aside0.mk hb57
        have HS := Aside0.mk X.out.blk
        have HN := Aside0.mk hp57
        clear hk57 hb57 hp57
        have C_ := Aside0.mk (CurP.keep C.out HS.out HK.out (by have := HLT.out; omega))
        clear C
        have C := C_
        clear C_
        have X_ := Aside0.mk (HN.out)
        clear X
        have X := X_
        clear X_
        have HB_ := Aside0.mk (below_keep HB.out HD.out HX2.out)
        clear HB HD HK HS HN
        have HB := HB_
        clear HB_
        refine ⟨_, rfl, ?_⟩
        refine hK.out _ _ ⟨(CurR.cellE X.out), (CurR.cellP X.out)⟩ (fun hHeld => ?_)
        clear hK K
        refine norm_ (a' := ?_) ?_ ?_
        rotate_left
        · show Act.put _ (some 94) _ = _
          simp only [Act.put, List.setIfInBounds_toArray, List.set_cons_zero, List.set_cons_succ, i64_w, i32_w]
          rfl
        refine pure_ (i := 12) (N := some 95) (v := ?_) (a' := ?_) #[true, true, true, true, true, true, true, true, true, true, true, true, true, false, false, false, false, false, false, false, false, false, false] rfl rfl (by kernel_rfl) (fun _ _ _ h => h) (Or.inl ⟨by rfl, ?_⟩) ?_ ?_
        rotate_left
        · intro w'
          go_simp
          with_reducible rfl
        rotate_left
        · simp only [Act.put, List.setIfInBounds_toArray, List.set_cons_zero, List.set_cons_succ, i64_w, i32_w]
          rfl
        refine pure_ (i := 13) (N := some 96) (v := ?_) (a' := ?_) #[true, true, true, true, true, true, true, true, true, true, true, true, true, true, false, false, false, false, false, false, false, false, false] rfl rfl (by kernel_rfl) (fun _ _ _ h => h) (Or.inl ⟨by rfl, ?_⟩) ?_ ?_
        rotate_left
        · intro w'
          go_simp
          with_reducible rfl
        rotate_left
        · simp only [Act.put, List.setIfInBounds_toArray, List.set_cons_zero, List.set_cons_succ, i64_w, i32_w]
          rfl
        refine pure_ (i := 14) (N := some 97) (v := ?_) (a' := ?_) #[true, true, true, true, true, true, true, true, true, true, true, true, true, true, true, false, false, false, false, false, false, false, false] rfl rfl (by kernel_rfl) (fun _ _ _ h => h) (Or.inl ⟨by rfl, ?_⟩) ?_ ?_
        rotate_left
        · intro w'
          go_simp
          with_reducible rfl
        rotate_left
        · simp only [Act.put, List.setIfInBounds_toArray, List.set_cons_zero, List.set_cons_succ, i64_w, i32_w]
          rfl
        refine pure_ (i := 15) (N := some 98) (v := ?_) (a' := ?_) #[true, true, true, true, true, true, true, true, true, true, true, true, true, true, true, true, false, false, false, false, false, false, false] rfl rfl (by kernel_rfl) (fun _ _ _ h => h) (Or.inl ⟨by rfl, ?_⟩) ?_ ?_
        rotate_left
        · intro w'
          go_simp
          with_reducible rfl
        rotate_left
        · simp only [Act.put, List.setIfInBounds_toArray, List.set_cons_zero, List.set_cons_succ, i64_w, i32_w]
          rfl
        refine pure_ (i := 17) (N := some 100) (v := ?_) (a' := ?_) #[true, true, true, true, true, true, true, true, true, true, true, true, true, true, true, true, false, true, false, false, false, false, false] rfl rfl (by kernel_rfl) (fun _ _ _ h => h) (Or.inl ⟨by rfl, ?_⟩) ?_ ?_
        rotate_left
        · intro w'
          go_simp
          with_reducible rfl
        rotate_left
        · simp only [Act.put, List.setIfInBounds_toArray, List.set_cons_zero, List.set_cons_succ, i64_w, i32_w]
          rfl
        refine pure_ (i := 18) (N := some 101) (v := ?_) (a' := ?_) #[true, true, true, true, true, true, true, true, true, true, true, true, true, true, true, true, false, true, true, false, false, false, false] rfl rfl (by kernel_rfl) (fun _ _ _ h => h) (Or.inl ⟨by rfl, ?_⟩) ?_ ?_
        rotate_left
        · intro w'
          go_simp
          with_reducible rfl
        rotate_left
        · simp only [Act.put, List.setIfInBounds_toArray, List.set_cons_zero, List.set_cons_succ, i64_w, i32_w]
          rfl
        refine pure_ (i := 19) (N := some 102) (v := ?_) (a' := ?_) #[true, true, true, true, true, true, true, true, true, true, true, true, true, true, true, true, false, true, true, true, false, false, false] rfl rfl (by kernel_rfl) (fun _ _ _ h => h) (Or.inl ⟨by rfl, ?_⟩) ?_ ?_
        rotate_left
        · intro w'
          go_simp
          with_reducible rfl
        rotate_left
        · simp only [Act.put, List.setIfInBounds_toArray, List.set_cons_zero, List.set_cons_succ, i64_w, i32_w]
          rfl
        refine take_ (i := 20) (N := some 103) (v := ?_) (a' := ?_) #[true, true, true, true, true, true, true, true, true, true, true, true, true, true, true, true, false, true, true, true, true, false, false] rfl rfl (by kernel_rfl) (fun _ _ _ h => h) (Or.inl ⟨by rfl, ?_⟩) hHeld ?_ ?_
        rotate_left
        · rintro w' ⟨s0, s1⟩
          go_simp
          with_reducible rfl
        rotate_left
        · simp only [Act.put, List.setIfInBounds_toArray, List.set_cons_zero, List.set_cons_succ, i64_w, i32_w]
          rfl
        refine one_ (i := 16) (N := some 99) #[true, true, true, true, true, true, true, true, true, true, true, true, true, true, true, true, true, true, true, true, true, false, false] rfl rfl (by kernel_rfl) (by decide) (fun K hK => ?_)
        refine goes_ Try.func43 (by kernel_rfl) rfl #[.pointer (some ⟨g2, 0, none⟩)] (by rfl) rfl rfl (by simp only [List.map_toArray, List.map_cons, List.map_nil]; rfl) ?_
        with_reducible refine (CurP_Place C.out (q) (q) (f) rfl).mono ?_
        rintro e w58 ⟨rfl, hp58, hk58, hb58⟩
        have HK := Aside0.mk hk58
        have HD := Aside0.mk hb58
        have HS := Aside0.mk C.out.blk
        have HN := Aside0.mk hp58
        clear hk58 hb58 hp58
        have C_ := Aside0.mk (HN.out)
        clear C
        have C := C_
        clear C_
        have X_ := Aside0.mk (CurR.keep X.out HS.out HK.out (by have := HLT.out; omega))
        clear X
        have X := X_
        clear X_
        have HB_ := Aside0.mk (below_keep HB.out HD.out HG2.out)
        clear HB HD HK HS HN
        have HB := HB_
        clear HB_
        refine ⟨_, rfl, ?_⟩
        refine hK.out _ _ ⟨(CurR.cellE X.out), (CurR.cellP X.out)⟩ (fun hHeld => ?_)
        clear hK K
        refine norm_ (a' := ?_) ?_ ?_
        rotate_left
        · show Act.put _ (some 99) _ = _
          simp only [Act.put, List.setIfInBounds_toArray, List.set_cons_zero, List.set_cons_succ, i64_w, i32_w]
          rfl
        refine pure_ (i := 21) (N := some 104) (v := ?_) (a' := ?_) #[true, true, true, true, true, true, true, true, true, true, true, true, true, true, true, true, true, true, true, true, true, true, false] rfl rfl (by kernel_rfl) (fun _ _ _ h => h) (Or.inl ⟨by rfl, ?_⟩) ?_ ?_
        rotate_left
        · intro w'
          go_simp
          with_reducible rfl
        rotate_left
        · simp only [Act.put, List.setIfInBounds_toArray, List.set_cons_zero, List.set_cons_succ, i64_w, i32_w]
          rfl
        refine pure_ (i := 22) (N := some 105) (v := ?_) (a' := ?_) #[true, true, true, true, true, true, true, true, true, true, true, true, true, true, true, true, true, true, true, true, true, true, true] rfl rfl (by kernel_rfl) (fun _ _ _ h => h) (Or.inl ⟨by rfl, ?_⟩) ?_ ?_
        rotate_left
        · intro w'
          go_simp
          with_reducible rfl
        rotate_left
        · simp only [Act.put, List.setIfInBounds_toArray, List.set_cons_zero, List.set_cons_succ, i64_w, i32_w]
          rfl
        refine done_ (by kernel_rfl) ?_
        go_wp2_with fail
        exact ⟨⟨i + 1, by omega, by omega, by first | rw [hw] | rfl, q, f, HPL, C, X, HB⟩, by (try rw [hw]); simp only [intOf, Int.toNat_natCast]; omega⟩
      · have ky := decide_eq_false hx1
        have ky2 := beq_eq_false_iff_ne.2 hx1
        have ky3 := eq_false hx1
        clear hx1
        obtain ⟨⟨s, q, f⟩, ef⟩ : ∃ t, t = numAt b p e y z := ⟨_, rfl⟩
        have hq := numAt_place b p e y z hok_.out hp.out.1 hp.out.2 (by have := hb_.out; omega)
        rw [← ef] at hq
        have HQ := Aside0.mk hq
        have T1 : Aside0 (wire_Cursor_Number.f b p e y z = some (s, q, f)) := ⟨by unfold wire_Cursor_Number.f; rw [if_pos hok_.out, if_pos hp.out.1, if_pos hp.out.2, ef]⟩
        have T2 : Aside0 (liveryref03_Cursor_Number.f b p e y z = some (s, q, f)) := ⟨by unfold liveryref03_Cursor_Number.f; rw [if_pos hok_.out, if_pos hp.out.1, if_pos hp.out.2, ef]⟩
        clear ef hq
        go_wp2_with fail
        clear hcx kx kx2 kx3 ky ky2 ky3
        have HD : Aside0 (Below wr.heap.size wr wr.drew) := ⟨below_drew1 (Below.refl _ _)⟩
        have C_ := Aside0.mk (CurP.below C.out HD.out)
        clear C
        have C := C_
        clear C_
        have X_ := Aside0.mk (CurR.below X.out HD.out)
        clear X
        have X := X_
        clear X_
        have HB_ := Aside0.mk (below_step HB.out HD.out)
        clear HB HD
        have HB := HB_
        clear HB_
        refine start_ (n := 25) (S := fun w' => w'.cell? ⟨ab, ao + i * 3 + 1, none⟩ = some (.int .i64 y) ∧ w'.cell? ⟨ab, ao + i * 3 + 2, none⟩ = some (.int .i64 z)) (ds := []) #[false, false, false, false, false, false, false, false, false, false, false, false, false, false, false, false, false, false, false, false, false, false, false, false, false] (by kernel_rfl) rfl rfl ⟨((HB.out.cell (p := ⟨ab, ao + i * 3 + 1, none⟩) HAB.out).trans CY.out), ((HB.out.cell (p := ⟨ab, ao + i * 3 + 2, none⟩) HAB.out).trans CZ.out)⟩ (fun hHeld => ?_)
        generalize wr.drew = wd51 at *
        refine pure_ (i := 0) (N := some 58) (v := ?_) (a' := ?_) #[true, false, false, false, false, false, false, false, false, false, false, false, false, false, false, false, false, false, false, false, false, false, false, false, false] rfl rfl (by kernel_rfl) (fun _ _ _ h => h) (Or.inl ⟨by rfl, ?_⟩) ?_ ?_
        rotate_left
        · intro w'
          go_simp
          with_reducible rfl
        rotate_left
        · simp only [Act.put, List.setIfInBounds_toArray, List.set_cons_zero, List.set_cons_succ, i64_w, i32_w]
          rfl
        refine pure_ (i := 1) (N := some 59) (v := ?_) (a' := ?_) #[true, true, false, false, false, false, false, false, false, false, false, false, false, false, false, false, false, false, false, false, false, false, false, false, false] rfl rfl (by kernel_rfl) (fun _ _ _ h => h) (Or.inl ⟨by rfl, ?_⟩) ?_ ?_
        rotate_left
        · intro w'
          go_simp
          with_reducible rfl
        rotate_left
        · simp only [Act.put, List.setIfInBounds_toArray, List.set_cons_zero, List.set_cons_succ, i64_w, i32_w]
          rfl
        refine pure_ (i := 2) (N := some 60) (v := ?_) (a' := ?_) #[true, true, true, false, false, false, false, false, false, false, false, false, false, false, false, false, false, false, false, false, false, false, false, false, false] rfl rfl (by kernel_rfl) (fun _ _ _ h => h) (Or.inl ⟨by rfl, ?_⟩) ?_ ?_
        rotate_left
        · intro w'
          go_simp
          with_reducible rfl
        rotate_left
        · simp only [Act.put, List.setIfInBounds_toArray, List.set_cons_zero, List.set_cons_succ, i64_w, i32_w]
          rfl
        refine pure_ (i := 3) (N := some 61) (v := ?_) (a' := ?_) #[true, true, true, true, false, false, false, false, false, false, false, false, false, false, false, false, false, false, false, false, false, false, false, false, false] rfl rfl (by kernel_rfl) (fun _ _ _ h => h) (Or.inl ⟨by rfl, ?_⟩) ?_ ?_
        rotate_left
        · intro w'
          go_simp
          with_reducible rfl
        rotate_left
        · simp only [Act.put, List.setIfInBounds_toArray, List.set_cons_zero, List.set_cons_succ, i64_w, i32_w]
          rfl
        refine pure_ (i := 4) (N := some 62) (v := ?_) (a' := ?_) #[true, true, true, true, true, false, false, false, false, false, false, false, false, false, false, false, false, false, false, false, false, false, false, false, false] rfl rfl (by kernel_rfl) (fun _ _ _ h => h) (Or.inl ⟨by rfl, ?_⟩) ?_ ?_
        rotate_left
        · intro w'
          go_simp
          with_reducible rfl
        rotate_left
        · simp only [Act.put, List.setIfInBounds_toArray, List.set_cons_zero, List.set_cons_succ, i64_w, i32_w]
          rfl
        refine pure_ (i := 6) (N := some 64) (v := ?_) (a' := ?_) #[true, true, true, true, true, false, true, false, false, false, false, false, false, false, false, false, false, false, false, false, false, false, false, false, false] rfl rfl (by kernel_rfl) (fun _ _ _ h => h) (Or.inl ⟨by rfl, ?_⟩) ?_ ?_
        rotate_left
        · intro w'
          go_simp
          with_reducible rfl
        rotate_left
        · simp only [Act.put, List.setIfInBounds_toArray, List.set_cons_zero, List.set_cons_succ, i64_w, i32_w]
          rfl
        refine pure_ (i := 7) (N := some 65) (v := ?_) (a' := ?_) #[true, true, true, true, true, false, true, true, false, false, false, false, false, false, false, false, false, false, false, false, false, false, false, false, false] rfl rfl (by kernel_rfl) (fun _ _ _ h => h) (Or.inl ⟨by rfl, ?_⟩) ?_ ?_
        rotate_left
        · intro w'
          go_simp
          with_reducible rfl
        rotate_left
        · simp only [Act.put, List.setIfInBounds_toArray, List.set_cons_zero, List.set_cons_succ, i64_w, i32_w]
          rfl
        refine pure_ (i := 8) (N := some 66) (v := ?_) (a' := ?_) #[true, true, true, true, true, false, true, true, true, false, false, false, false, false, false, false, false, false, false, false, false, false, false, false, false] rfl rfl (by kernel_rfl) (fun _ _ _ h => h) (Or.inl ⟨by rfl, ?_⟩) ?_ ?_
        rotate_left
        · intro w'
          go_simp
          with_reducible rfl
        rotate_left
        · simp only [Act.put, List.setIfInBounds_toArray, List.set_cons_zero, List.set_cons_succ, i64_w, i32_w]
          rfl
        refine pure_ (i := 9) (N := some 67) (v := ?_) (a' := ?_) #[true, true, true, true, true, false, true, true, true, true, false, false, false, false, false, false, false, false, false, false, false, false, false, false, false] rfl rfl (by kernel_rfl) (fun _ _ _ h => h) (Or.inl ⟨by rfl, ?_⟩) ?_ ?_
        rotate_left
        · intro w'
          go_simp
          with_reducible rfl
        rotate_left
        · simp only [Act.put, List.setIfInBounds_toArray, List.set_cons_zero, List.set_cons_succ, i64_w, i32_w]
          rfl
        refine pure_ (i := 12) (N := some 70) (v := ?_) (a' := ?_) #[true, true, true, true, true, false, true, true, true, true, false, false, true, false, false, false, false, false, false, false, false, false, false, false, false] rfl rfl (by kernel_rfl) (fun _ _ _ h => h) (Or.inl ⟨by rfl, ?_⟩) ?_ ?_
        rotate_left
        · intro w'
          go_simp
          with_reducible rfl
        rotate_left
        · simp only [Act.put, List.setIfInBounds_toArray, List.set_cons_zero, List.set_cons_succ, i64_w, i32_w]
          rfl
        refine pure_ (i := 13) (N := some 71) (v := ?_) (a' := ?_) #[true, true, true, true, true, false, true, true, true, true, false, false, true, true, false, false, false, false, false, false, false, false, false, false, false] rfl rfl (by kernel_rfl) (fun _ _ _ h => h) (Or.inl ⟨by rfl, ?_⟩) ?_ ?_
        rotate_left
        · intro w'
          go_simp
          with_reducible rfl
        rotate_left
        · simp only [Act.put, List.setIfInBounds_toArray, List.set_cons_zero, List.set_cons_succ, i64_w, i32_w]
          rfl
        refine pure_ (i := 14) (N := some 72) (v := ?_) (a' := ?_) #[true, true, true, true, true, false, true, true, true, true, false, false, true, true, true, false, false, false, false, false, false, false, false, false, false] rfl rfl (by kernel_rfl) (fun _ _ _ h => h) (Or.inl ⟨by rfl, ?_⟩) ?_ ?_
        rotate_left
        · intro w'
          go_simp
          with_reducible rfl
        rotate_left
        · simp only [Act.put, List.setIfInBounds_toArray, List.set_cons_zero, List.set_cons_succ, i64_w, i32_w]
          rfl
        refine pure_ (i := 15) (N := some 73) (v := ?_) (a' := ?_) #[true, true, true, true, true, false, true, true, true, true, false, false, true, true, true, true, false, false, false, false, false, false, false, false, false] rfl rfl (by kernel_rfl) (fun _ _ _ h => h) (Or.inl ⟨by rfl, ?_⟩) ?_ ?_
        rotate_left
        · intro w'
          go_simp
          with_reducible rfl
        rotate_left
        · simp only [Act.put, List.setIfInBounds_toArray, List.set_cons_zero, List.set_cons_succ, i64_w, i32_w]
          rfl
        refine pure_ (i := 16) (N := some 74) (v := ?_) (a' := ?_) #[true, true, true, true, true, false, true, true, true, true, false, false, true, true, true, true, true, false, false, false, false, false, false, false, false] rfl rfl (by kernel_rfl) (fun _ _ _ h => h) (Or.inl ⟨by rfl, ?_⟩) ?_ ?_
        rotate_left
        · intro w'
          go_simp
          with_reducible rfl
        rotate_left
        · simp only [Act.put, List.setIfInBounds_toArray, List.set_cons_zero, List.set_cons_succ, i64_w, i32_w]
          rfl
        refine pure_ (i := 18) (N := some 76) (v := ?_) (a' := ?_) #[true, true, true, true, true, false, true, true, true, true, false, false, true, true, true, true, true, false, true, false, false, false, false, false, false] rfl rfl (by kernel_rfl) (fun _ _ _ h => h) (Or.inl ⟨by rfl, ?_⟩) ?_ ?_
        rotate_left
        · intro w'
          go_simp
          with_reducible rfl
        rotate_left
        · simp only [Act.put, List.setIfInBounds_toArray, List.set_cons_zero, List.set_cons_succ, i64_w, i32_w]
          rfl
        refine pure_ (i := 19) (N := some 77) (v := ?_) (a' := ?_) #[true, true, true, true, true, false, true, true, true, true, false, false, true, true, true, true, true, false, true, true, false, false, false, false, false] rfl rfl (by kernel_rfl) (fun _ _ _ h => h) (Or.inl ⟨by rfl, ?_⟩) ?_ ?_
        rotate_left
        · intro w'
          go_simp
          with_reducible rfl
        rotate_left
        · simp only [Act.put, List.setIfInBounds_toArray, List.set_cons_zero, List.set_cons_succ, i64_w, i32_w]
          rfl
        refine pure_ (i := 20) (N := some 78) (v := ?_) (a' := ?_) #[true, true, true, true, true, false, true, true, true, true, false, false, true, true, true, true, true, false, true, true, true, false, false, false, false] rfl rfl (by kernel_rfl) (fun _ _ _ h => h) (Or.inl ⟨by rfl, ?_⟩) ?_ ?_
        rotate_left
        · intro w'
          go_simp
          with_reducible rfl
        rotate_left
        · simp only [Act.put, List.setIfInBounds_toArray, List.set_cons_zero, List.set_cons_succ, i64_w, i32_w]
          rfl
        refine pure_ (i := 21) (N := some 79) (v := ?_) (a' := ?_) #[true, true, true, true, true, false, true, true, true, true, false, false, true, true, true, true, true, false, true, true, true, true, false, false, false] rfl rfl (by kernel_rfl) (fun _ _ _ h => h) (Or.inl ⟨by rfl, ?_⟩) ?_ ?_
        rotate_left
        · intro w'
          go_simp
          with_reducible rfl
        rotate_left
        · simp only [Act.put, List.setIfInBounds_toArray, List.set_cons_zero, List.set_cons_succ, i64_w, i32_w]
          rfl
        refine take_ (i := 5) (N := some 63) (v := ?_) (a' := ?_) #[true, true, true, true, true, true, true, true, true, true, false, false, true, true, true, true, true, false, true, true, true, true, false, false, false] rfl rfl (by kernel_rfl) (fun _ _ _ h => h) (Or.inl ⟨by rfl, ?_⟩) hHeld ?_ ?_
        rotate_left
        · rintro w' ⟨s0, s1⟩
          go_simp
          with_reducible rfl
        rotate_left
        · simp only [Act.put, List.setIfInBounds_toArray, List.set_cons_zero, List.set_cons_succ, i64_w, i32_w]
          rfl
        refine take_ (i := 10) (N := some 68) (v := ?_) (a' := ?_) #[true, true, true, true, true, true, true, true, true, true, true, false, true, true, true, true, true, false, true, true, true, true, false, false, false] rfl rfl (by kernel_rfl) (fun _ _ _ h => h) (Or.inl ⟨by rfl, ?_⟩) hHeld ?_ ?_
        rotate_left
        · rintro w' ⟨s0, s1⟩
          go_simp
          with_reducible rfl
        rotate_left
        · simp only [Act.put, List.setIfInBounds_toArray, List.set_cons_zero, List.set_cons_succ, i64_w, i32_w]
          rfl
        refine take_ (i := 17) (N := some 75) (v := ?_) (a' := ?_) #[true, true, true, true, true, true, true, true, true, true, true, false, true, true, true, true, true, true, true, true, true, true, false, false, false] rfl rfl (by kernel_rfl) (fun _ _ _ h => h) (Or.inl ⟨by rfl, ?_⟩) hHeld ?_ ?_
        rotate_left
        · rintro w' ⟨s0, s1⟩
          go_simp
          with_reducible rfl
        rotate_left
        · simp only [Act.put, List.setIfInBounds_toArray, List.set_cons_zero, List.set_cons_succ, i64_w, i32_w]
          rfl
        refine take_ (i := 22) (N := some 80) (v := ?_) (a' := ?_) #[true, true, true, true, true, true, true, true, true, true, true, false, true, true, true, true, true, true, true, true, true, true, true, false, false] rfl rfl (by kernel_rfl) (fun _ _ _ h => h) (Or.inl ⟨by rfl, ?_⟩) hHeld ?_ ?_
        rotate_left
        · rintro w' ⟨s0, s1⟩
          go_simp
          with_reducible rfl
        rotate_left
        · simp only [Act.put, List.setIfInBounds_toArray, List.set_cons_zero, List.set_cons_succ, i64_w, i32_w]
          rfl
        refine one_ (i := 11) (N := some 69) #[true, true, true, true, true, true, true, true, true, true, true, true, true, true, true, true, true, true, true, true, true, true, true, false, false] rfl rfl (by kernel_rfl) (by decide) (fun K hK => ?_)
        refine goes_ Try.func40 (by kernel_rfl) rfl #[.pointer (some ⟨g2, 0, none⟩), .int .i64 y, .int .i64 z] (by rfl) rfl rfl (by simp only [List.map_toArray, List.map_cons, List.map_nil]; rfl) ?_
        with_reducible refine (CurP_Number C.out (y) (z) (s) (q) (f) T1.out).mono ?_
        rintro e w52 ⟨rfl, hp52, hk52, hb52⟩
        have HK := Aside0.mk hk52
        have HD := Aside0.mk hb52
        have HS := Aside0.mk C.out.blk
        have HN := Aside0.mk hp52
        clear hk52 hb52 hp52
        have C_ := Aside0.mk (HN.out)
        clear C
        have C := C_
        clear C_
        have X_ := Aside0.mk (CurR.keep X.out HS.out HK.out (by have := HLT.out; omega))
        clear X
        have X := X_
        clear X_
        have HB_ := Aside0.mk (below_keep HB.out HD.out HG2.out)
        clear HB HD HK HS HN
        have HB := HB_
        clear HB_
        refine ⟨_, rfl, ?_⟩
        refine hK.out _ _ ⟨((HB.out.cell (p := ⟨ab, ao + i * 3 + 1, none⟩) HAB.out).trans CY.out), ((HB.out.cell (p := ⟨ab, ao + i * 3 + 2, none⟩) HAB.out).trans CZ.out)⟩ (fun hHeld => ?_)
        clear hK K
        refine norm_ (a' := ?_) ?_ ?_
        rotate_left
        · show Act.put _ (some 69) _ = _
          simp only [Act.put, List.setIfInBounds_toArray, List.set_cons_zero, List.set_cons_succ, i64_w, i32_w]
          rfl
        refine one_ (i := 23) (N := some 81) #[true, true, true, true, true, true, true, true, true, true, true, true, true, true, true, true, true, true, true, true, true, true, true, true, false] rfl rfl (by kernel_rfl) (by decide) (fun K hK => ?_)
        refine goes_ Try.func47 (by kernel_rfl) rfl #[.pointer (some ⟨gx, 0, none⟩), .int .i64 y, .int .i64 z] (by rfl) rfl rfl (by simp only [List.map_toArray, List.map_cons, List.map_nil]; rfl) ?_
        with_reducible refine (CurR_Number X.out (y) (z) (s) (q) (f) T2.out).mono ?_
        rintro e w53 ⟨rfl, hp53, hk53, hb53⟩
        have HK := Aside0.mk hk53
        have HD := Aside0.mk hb53
        have HS := Aside0.mk X.out.blk
        have HN := Aside0.mk hp53
        clear hk53 hb53 hp53
        have C_ := Aside0.mk (CurP.keep C.out HS.out HK.out (by have := HLT.out; omega))
        clear C
        have C := C_
        clear C_
        have X_ := Aside0.mk (HN.out)
        clear X
        have X := X_
        clear X_
        have HB_ := Aside0.mk (below_keep HB.out HD.out HX2.out)
        clear HB HD HK HS HN
        have HB := HB_
        clear HB_
        refine ⟨_, rfl, ?_⟩
        refine hK.out _ _ ⟨((HB.out.cell (p := ⟨ab, ao + i * 3 + 1, none⟩) HAB.out).trans CY.out), ((HB.out.cell (p := ⟨ab, ao + i * 3 + 2, none⟩) HAB.out).trans CZ.out)⟩ (fun hHeld => ?_)
        clear hK K
        refine norm_ (a' := ?_) ?_ ?_
        rotate_left
        · show Act.put _ (some 81) _ = _
          simp only [Act.put, List.setIfInBounds_toArray, List.set_cons_zero, List.set_cons_succ, i64_w, i32_w]
          rfl
        refine pure_ (i := 24) (N := some 82) (v := ?_) (a' := ?_) #[true, true, true, true, true, true, true, true, true, true, true, true, true, true, true, true, true, true, true, true, true, true, true, true, true] rfl rfl (by kernel_rfl) (fun _ _ _ h => h) (Or.inl ⟨by rfl, ?_⟩) ?_ ?_
        rotate_left
        · intro w'
          go_simp
          with_reducible rfl
        rotate_left
        · simp only [Act.put, List.setIfInBounds_toArray, List.set_cons_zero, List.set_cons_succ, i64_w, i32_w]
          rfl
        refine done_ (by kernel_rfl) ?_
        go_wp2_with fail
        have HPL := Aside0.mk HQ.out
        have HD : Aside0 (Below w53.heap.size w53 w53.drew) := ⟨below_drew1 (Below.refl _ _)⟩
        have C_ := Aside0.mk (CurP.below C.out HD.out)
        clear C
        have C := C_
        clear C_
        have X_ := Aside0.mk (CurR.below X.out HD.out)
        clear X
        have X := X_
        clear X_
        have HB_ := Aside0.mk (below_step HB.out HD.out)
        clear HB HD
        have HB := HB_
        clear HB_
        refine start_ (n := 23) (S := fun w' => w'.cell? ⟨gx, 2, none⟩ = some (.int .i64 f) ∧ w'.cell? ⟨gx, 1, none⟩ = some (.int .i64 q)) (ds := []) #[false, false, false, false, false, false, false, false, false, false, false, false, false, false, false, false, false, false, false, false, false, false, false] (by kernel_rfl) rfl rfl ⟨(CurR.cellE X.out), (CurR.cellP X.out)⟩ (fun hHeld => ?_)
        generalize w53.drew = wd54 at *
        refine pure_ (i := 0) (N := some 83) (v := ?_) (a' := ?_) #[true, false, false, false, false, false, false, false, false, false, false, false, false, false, false, false, false, false, false, false, false, false, false] rfl rfl (by kernel_rfl) (fun _ _ _ h => h) (Or.inl ⟨by rfl, ?_⟩) ?_ ?_
        rotate_left
        · intro w'
          go_simp
          with_reducible rfl
        rotate_left
        · simp only [Act.put, List.setIfInBounds_toArray, List.set_cons_zero, List.set_cons_succ, i64_w, i32_w]
          rfl
        refine pure_ (i := 2) (N := some 85) (v := ?_) (a' := ?_) #[true, false, true, false, false, false, false, false, false, false, false, false, false, false, false, false, false, false, false, false, false, false, false] rfl rfl (by kernel_rfl) (fun _ _ _ h => h) (Or.inl ⟨by rfl, ?_⟩) ?_ ?_
        rotate_left
        · intro w'
          go_simp
          with_reducible rfl
        rotate_left
        · simp only [Act.put, List.setIfInBounds_toArray, List.set_cons_zero, List.set_cons_succ, i64_w, i32_w]
          rfl
        refine pure_ (i := 3) (N := some 86) (v := ?_) (a' := ?_) #[true, false, true, true, false, false, false, false, false, false, false, false, false, false, false, false, false, false, false, false, false, false, false] rfl rfl (by kernel_rfl) (fun _ _ _ h => h) (Or.inl ⟨by rfl, ?_⟩) ?_ ?_
        rotate_left
        · intro w'
          go_simp
          with_reducible rfl
        rotate_left
        · simp only [Act.put, List.setIfInBounds_toArray, List.set_cons_zero, List.set_cons_succ, i64_w, i32_w]
          rfl
        refine pure_ (i := 4) (N := some 87) (v := ?_) (a' := ?_) #[true, false, true, true, true, false, false, false, false, false, false, false, false, false, false, false, false, false, false, false, false, false, false] rfl rfl (by kernel_rfl) (fun _ _ _ h => h) (Or.inl ⟨by rfl, ?_⟩) ?_ ?_
        rotate_left
        · intro w'
          go_simp
          with_reducible rfl
        rotate_left
        · simp only [Act.put, List.setIfInBounds_toArray, List.set_cons_zero, List.set_cons_succ, i64_w, i32_w]
          rfl
        refine take_ (i := 5) (N := some 88) (v := ?_) (a' := ?_) #[true, false, true, true, true, true, false, false, false, false, false, false, false, false, false, false, false, false, false, false, false, false, false] rfl rfl (by kernel_rfl) (fun _ _ _ h => h) (Or.inl ⟨by rfl, ?_⟩) hHeld ?_ ?_
        rotate_left
        · rintro w' ⟨s0, s1⟩
          go_simp
          with_reducible rfl
        rotate_left
        · simp only [Act.put, List.setIfInBounds_toArray, List.set_cons_zero, List.set_cons_succ, i64_w, i32_w]
          rfl
        refine one_ (i := 1) (N := some 84) #[true, true, true, true, true, true, false, false, false, false, false, false, false, false, false, false, false, false, false, false, false, false, false] rfl rfl (by kernel_rfl) (by decide) (fun K hK => ?_)
        refine goes_ Try.func42 (by kernel_rfl) rfl #[.pointer (some ⟨g2, 0, none⟩)] (by rfl) rfl rfl (by simp only [List.map_toArray, List.map_cons, List.map_nil]; rfl) ?_
        with_reducible refine (CurP_Err C.out (f) (q) (f) rfl).mono ?_
        rintro e w55 ⟨rfl, hp55, hk55, hb55⟩
        have HK := Aside0.mk hk55
        have HD := Aside0.mk hb55
        have HS := Aside0.mk C.out.blk
        have HN := Aside0.mk hp55
        clear hk55 hb55 hp55
        have C_ := Aside0.mk (HN.out)
        clear C
        have C := C_
        clear C_
        have X_ := Aside0.mk (CurR.keep X.out HS.out HK.out (by have := HLT.out; omega))
        clear X
        have X := X_
        clear X_
        have HB_ := Aside0.mk (below_keep HB.out HD.out HG2.out)
        clear HB HD HK HS HN
        have HB := HB_
        clear HB_
        refine ⟨_, rfl, ?_⟩
        refine hK.out _ _ ⟨(CurR.cellE X.out), (CurR.cellP X.out)⟩ (fun hHeld => ?_)
        clear hK K
        refine norm_ (a' := ?_) ?_ ?_
        rotate_left
        · show Act.put _ (some 84) _ = _
          simp only [Act.put, List.setIfInBounds_toArray, List.set_cons_zero, List.set_cons_succ, i64_w, i32_w]
          rfl
        refine pure_ (i := 6) (N := some 89) (v := ?_) (a' := ?_) #[true, true, true, true, true, true, true, false, false, false, false, false, false, false, false, false, false, false, false, false, false, false, false] rfl rfl (by kernel_rfl) (fun _ _ _ h => h) (Or.inl ⟨by rfl, ?_⟩) ?_ ?_
        rotate_left
        · intro w'
          go_simp
          with_reducible rfl
        rotate_left
        · simp only [Act.put, List.setIfInBounds_toArray, List.set_cons_zero, List.set_cons_succ, i64_w, i32_w]
          rfl
        refine pure_ (i := 7) (N := some 90) (v := ?_) (a' := ?_) #[true, true, true, true, true, true, true, true, false, false, false, false, false, false, false, false, false, false, false, false, false, false, false] rfl rfl (by kernel_rfl) (fun _ _ _ h => h) (Or.inl ⟨by rfl, ?_⟩) ?_ ?_
        rotate_left
        · intro w'
          go_simp
          with_reducible rfl
        rotate_left
        · simp only [Act.put, List.setIfInBounds_toArray, List.set_cons_zero, List.set_cons_succ, i64_w, i32_w]
          rfl
        refine pure_ (i := 8) (N := some 91) (v := ?_) (a' := ?_) #[true, true, true, true, true, true, true, true, true, false, false, false, false, false, false, false, false, false, false, false, false, false, false] rfl rfl (by kernel_rfl) (fun _ _ _ h => h) (Or.inl ⟨by rfl, ?_⟩) ?_ ?_
        rotate_left
        · intro w'
          go_simp
          with_reducible rfl
        rotate_left
        · simp only [Act.put, List.setIfInBounds_toArray, List.set_cons_zero, List.set_cons_succ, i64_w, i32_w]
          rfl
        refine pure_ (i := 10) (N := some 93) (v := ?_) (a' := ?_) #[true, true, true, true, true, true, true, true, true, false, true, false, false, false, false, false, false, false, false, false, false, false, false] rfl rfl (by kernel_rfl) (fun _ _ _ h => h) (Or.inl ⟨by rfl, ?_⟩) ?_ ?_
        rotate_left
        · intro w'
          go_simp
          with_reducible rfl
        rotate_left
        · simp only [Act.put, List.setIfInBounds_toArray, List.set_cons_zero, List.set_cons_succ, i64_w, i32_w]
          rfl
        refine one_ (i := 9) (N := some 92) #[true, true, true, true, true, true, true, true, true, true, true, false, false, false, false, false, false, false, false, false, false, false, false] rfl rfl (by kernel_rfl) (by decide) (fun K hK => ?_)
        refine goes_ Try.func48 (by kernel_rfl) rfl #[.pointer (some ⟨g2, 0, none⟩)] (by rfl) rfl rfl (by simp only [List.map_toArray, List.map_cons, List.map_nil]; rfl) ?_
        with_reducible refine (CurP_End C.out ((endAt b q f)) (q) (f) (by unfold wire_Cursor_End.f; rw [if_pos HPL.out.1, if_pos HPL.out.2])).mono ?_
        rintro e w56 ⟨rfl, hp56, hk56, hb56⟩
        have HK := Aside0.mk hk56
        have HD := Aside0.mk hb56
        have HS := Aside0.mk C.out.blk
        have HN := Aside0.mk hp56
        clear hk56 hb56 hp56
        have C_ := Aside0.mk (HN.out)
        clear C
        have C := C_
        clear C_
        have X_ := Aside0.mk (CurR.keep X.out HS.out HK.out (by have := HLT.out; omega))
        clear X
        have X := X_
        clear X_
        have HB_ := Aside0.mk (below_keep HB.out HD.out HG2.out)
        clear HB HD HK HS HN
        have HB := HB_
        clear HB_
        refine ⟨_, rfl, ?_⟩
        refine hK.out _ _ ⟨(CurR.cellE X.out), (CurR.cellP X.out)⟩ (fun hHeld => ?_)
        clear hK K
        refine norm_ (a' := ?_) ?_ ?_
        rotate_left
        · show Act.put _ (some 92) _ = _
          simp only [Act.put, List.setIfInBounds_toArray, List.set_cons_zero, List.set_cons_succ, i64_w, i32_w]
          rfl
        refine one_ (i := 11) (N := some 94) #[true, true, true, true, true, true, true, true, true, true, true, true, false, false, false, false, false, false, false, false, false, false, false] rfl rfl (by kernel_rfl) (by decide) (fun K hK => ?_)
        refine goes_ Try.func49 (by kernel_rfl) rfl #[.pointer (some ⟨gx, 0, none⟩)] (by rfl) rfl rfl (by simp only [List.map_toArray, List.map_cons, List.map_nil]; rfl) ?_
        with_reducible refine (CurR_End X.out ((endAt b q f)) (q) (f) (refEnd_eq b q f)).mono ?_
        rintro e w57 ⟨rfl, hp57, hk57, hb57⟩
        have HK := Aside0.mk hk57
        have HD := Aside0.mk hb57
        have HS := Aside0.mk X.out.blk
        have HN := Aside0.mk hp57
        clear hk57 hb57 hp57
        have C_ := Aside0.mk (CurP.keep C.out HS.out HK.out (by have := HLT.out; omega))
        clear C
        have C := C_
        clear C_
        have X_ := Aside0.mk (HN.out)
        clear X
        have X := X_
        clear X_
        have HB_ := Aside0.mk (below_keep HB.out HD.out HX2.out)
        clear HB HD HK HS HN
        have HB := HB_
        clear HB_
        refine ⟨_, rfl, ?_⟩
        refine hK.out _ _ ⟨(CurR.cellE X.out), (CurR.cellP X.out)⟩ (fun hHeld => ?_)
        clear hK K
        refine norm_ (a' := ?_) ?_ ?_
        rotate_left
        · show Act.put _ (some 94) _ = _
          simp only [Act.put, List.setIfInBounds_toArray, List.set_cons_zero, List.set_cons_succ, i64_w, i32_w]
          rfl
        refine pure_ (i := 12) (N := some 95) (v := ?_) (a' := ?_) #[true, true, true, true, true, true, true, true, true, true, true, true, true, false, false, false, false, false, false, false, false, false, false] rfl rfl (by kernel_rfl) (fun _ _ _ h => h) (Or.inl ⟨by rfl, ?_⟩) ?_ ?_
        rotate_left
        · intro w'
          go_simp
          with_reducible rfl
        rotate_left
        · simp only [Act.put, List.setIfInBounds_toArray, List.set_cons_zero, List.set_cons_succ, i64_w, i32_w]
          rfl
        refine pure_ (i := 13) (N := some 96) (v := ?_) (a' := ?_) #[true, true, true, true, true, true, true, true, true, true, true, true, true, true, false, false, false, false, false, false, false, false, false] rfl rfl (by kernel_rfl) (fun _ _ _ h => h) (Or.inl ⟨by rfl, ?_⟩) ?_ ?_
        rotate_left
        · intro w'
          go_simp
          with_reducible rfl
        rotate_left
        · simp only [Act.put, List.setIfInBounds_toArray, List.set_cons_zero, List.set_cons_succ, i64_w, i32_w]
          rfl
        refine pure_ (i := 14) (N := some 97) (v := ?_) (a' := ?_) #[true, true, true, true, true, true, true, true, true, true, true, true, true, true, true, false, false, false, false, false, false, false, false] rfl rfl (by kernel_rfl) (fun _ _ _ h => h) (Or.inl ⟨by rfl, ?_⟩) ?_ ?_
        rotate_left
        · intro w'
          go_simp
          with_reducible rfl
        rotate_left
        · simp only [Act.put, List.setIfInBounds_toArray, List.set_cons_zero, List.set_cons_succ, i64_w, i32_w]
          rfl
        refine pure_ (i := 15) (N := some 98) (v := ?_) (a' := ?_) #[true, true, true, true, true, true, true, true, true, true, true, true, true, true, true, true, false, false, false, false, false, false, false] rfl rfl (by kernel_rfl) (fun _ _ _ h => h) (Or.inl ⟨by rfl, ?_⟩) ?_ ?_
        rotate_left
        · intro w'
          go_simp
          with_reducible rfl
        rotate_left
        · simp only [Act.put, List.setIfInBounds_toArray, List.set_cons_zero, List.set_cons_succ, i64_w, i32_w]
          rfl
        refine pure_ (i := 17) (N := some 100) (v := ?_) (a' := ?_) #[true, true, true, true, true, true, true, true, true, true, true, true, true, true, true, true, false, true, false, false, false, false, false] rfl rfl (by kernel_rfl) (fun _ _ _ h => h) (Or.inl ⟨by rfl, ?_⟩) ?_ ?_
        rotate_left
        · intro w'
          go_simp
          with_reducible rfl
        rotate_left
        · simp only [Act.put, List.setIfInBounds_toArray, List.set_cons_zero, List.set_cons_succ, i64_w, i32_w]
          rfl
        refine pure_ (i := 18) (N := some 101) (v := ?_) (a' := ?_) #[true, true, true, true, true, true, true, true, true, true, true, true, true, true, true, true, false, true, true, false, false, false, false] rfl rfl (by kernel_rfl) (fun _ _ _ h => h) (Or.inl ⟨by rfl, ?_⟩) ?_ ?_
        rotate_left
        · intro w'
          go_simp
          with_reducible rfl
        rotate_left
        · simp only [Act.put, List.setIfInBounds_toArray, List.set_cons_zero, List.set_cons_succ, i64_w, i32_w]
          rfl
        refine pure_ (i := 19) (N := some 102) (v := ?_) (a' := ?_) #[true, true, true, true, true, true, true, true, true, true, true, true, true, true, true, true, false, true, true, true, false, false, false] rfl rfl (by kernel_rfl) (fun _ _ _ h => h) (Or.inl ⟨by rfl, ?_⟩) ?_ ?_
        rotate_left
        · intro w'
          go_simp
          with_reducible rfl
        rotate_left
        · simp only [Act.put, List.setIfInBounds_toArray, List.set_cons_zero, List.set_cons_succ, i64_w, i32_w]
          rfl
        refine take_ (i := 20) (N := some 103) (v := ?_) (a' := ?_) #[true, true, true, true, true, true, true, true, true, true, true, true, true, true, true, true, false, true, true, true, true, false, false] rfl rfl (by kernel_rfl) (fun _ _ _ h => h) (Or.inl ⟨by rfl, ?_⟩) hHeld ?_ ?_
        rotate_left
        · rintro w' ⟨s0, s1⟩
          go_simp
          with_reducible rfl
        rotate_left
        · simp only [Act.put, List.setIfInBounds_toArray, List.set_cons_zero, List.set_cons_succ, i64_w, i32_w]
          rfl
        refine one_ (i := 16) (N := some 99) #[true, true, true, true, true, true, true, true, true, true, true, true, true, true, true, true, true, true, true, true, true, false, false] rfl rfl (by kernel_rfl) (by decide) (fun K hK => ?_)
        refine goes_ Try.func43 (by kernel_rfl) rfl #[.pointer (some ⟨g2, 0, none⟩)] (by rfl) rfl rfl (by simp only [List.map_toArray, List.map_cons, List.map_nil]; rfl) ?_
        with_reducible refine (CurP_Place C.out (q) (q) (f) rfl).mono ?_
        rintro e w58 ⟨rfl, hp58, hk58, hb58⟩
        have HK := Aside0.mk hk58
        have HD := Aside0.mk hb58
        have HS := Aside0.mk C.out.blk
        have HN := Aside0.mk hp58
        clear hk58 hb58 hp58
        have C_ := Aside0.mk (HN.out)
        clear C
        have C := C_
        clear C_
        have X_ := Aside0.mk (CurR.keep X.out HS.out HK.out (by have := HLT.out; omega))
        clear X
        have X := X_
        clear X_
        have HB_ := Aside0.mk (below_keep HB.out HD.out HG2.out)
        clear HB HD HK HS HN
        have HB := HB_
        clear HB_
        refine ⟨_, rfl, ?_⟩
        refine hK.out _ _ ⟨(CurR.cellE X.out), (CurR.cellP X.out)⟩ (fun hHeld => ?_)
        clear hK K
        refine norm_ (a' := ?_) ?_ ?_
        rotate_left
        · show Act.put _ (some 99) _ = _
          simp only [Act.put, List.setIfInBounds_toArray, List.set_cons_zero, List.set_cons_succ, i64_w, i32_w]
          rfl
        refine pure_ (i := 21) (N := some 104) (v := ?_) (a' := ?_) #[true, true, true, true, true, true, true, true, true, true, true, true, true, true, true, true, true, true, true, true, true, true, false] rfl rfl (by kernel_rfl) (fun _ _ _ h => h) (Or.inl ⟨by rfl, ?_⟩) ?_ ?_
        rotate_left
        · intro w'
          go_simp
          with_reducible rfl
        rotate_left
        · simp only [Act.put, List.setIfInBounds_toArray, List.set_cons_zero, List.set_cons_succ, i64_w, i32_w]
          rfl
        refine pure_ (i := 22) (N := some 105) (v := ?_) (a' := ?_) #[true, true, true, true, true, true, true, true, true, true, true, true, true, true, true, true, true, true, true, true, true, true, true] rfl rfl (by kernel_rfl) (fun _ _ _ h => h) (Or.inl ⟨by rfl, ?_⟩) ?_ ?_
        rotate_left
        · intro w'
          go_simp
          with_reducible rfl
        rotate_left
        · simp only [Act.put, List.setIfInBounds_toArray, List.set_cons_zero, List.set_cons_succ, i64_w, i32_w]
          rfl
        refine done_ (by kernel_rfl) ?_
        go_wp2_with fail
        exact ⟨⟨i + 1, by omega, by omega, by first | rw [hw] | rfl, q, f, HPL, C, X, HB⟩, by (try rw [hw]); simp only [intOf, Int.toNat_natCast]; omega⟩
end Go.Proofs.Ytnfnomcgalkagaa.P
