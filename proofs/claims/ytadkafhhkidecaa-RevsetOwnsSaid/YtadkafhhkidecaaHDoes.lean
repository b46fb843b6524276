/- Contracts, typed by hand and by a program: the law's does. -/
import Derived.Test.YtadkafhhkidecaaHDoesA
set_option linter.unusedVariables false
set_option linter.unusedSimpArgs false
namespace Go.Proofs.Ytadkafhhkidecaa.P
open Go.RowKit Go.Proofs.YtadkafhhkidecaaW.PrintWords Go.Proofs.YtadkafhhkidecaaW.PrintLast Go.Proofs.YtadkafhhkidecaaW.PrintMore
set_option maxHeartbeats 8000000 in
set_option maxRecDepth 100000 in
theorem does.calls (gs gr : Nat) (L : List (List Int)) (hL : Good L) (kind d s : Int) (A1 : Option Addr) (c1 : Nat) (known : List Int) (A2 : Option Addr) (c2 : Nat) (more : List (List Int)) (W : World) (S : Nat → Prop) (Q : World → Prop) (hc1 : known.length ≤ c1) (hc2 : more.length ≤ c2)
    (h : St W S W [Res.view Q, PSet gs L, RSet gr L]) (hQ : ∀ w, Q w → Reads2 A1 known A2 more w) :
    Calls Try.prog 10 #[.pointer (some ⟨gs, 0, none⟩), .pointer (some ⟨gr, 0, none⟩), .agg #[.int .i64 kind, .int .i64 d, .int .i64 s, .slice A1 known.length c1, .slice A2 more.length c2]] W fun e W' =>
      e = .returned (.bool true) ∧ St W S W' [Res.any, PSet gs (stepL kind d s known more L), RSet gr (stepL kind d s known more L)] := by
  obtain ⟨Fo, hFo, hF, hst⟩ := h.freeze
  have HST := Aside0.mk hst
  have HFO := Aside0.mk hFo
  have HGL := Aside0.mk hL
  have HK := Aside0.mk (show Kd.F (Kd.int .i64) W Fo A1 known.length known from Foot.imp hF (fun w hw => (hQ w hw).1))
  have HM := Aside0.mk (show Kd.F (Kd.slice 3 (Kd.int .i64)) W Fo A2 more.length more from Foot.imp hF (fun w hw => (hQ w hw).2))
  clear h hF hst hQ hL hFo
  have hu1 := Try.underlying33
  have hu2 := Try.underlying29
  obtain ⟨b, eb⟩ : ∃ b, b = W.heap.size := ⟨_, rfl⟩
  have HEB := Aside0.mk eb
  clear eb
  go_enter Try.func10, Try.ntmps10
  go_wp2_with fail
  rw [← HEB.out]
  obtain ⟨w1, e1⟩ : ∃ w1, w1 = W.alloc (.cells #[.int .i64 kind, .int .i64 d, .int .i64 s, .slice A1 known.length c1, .slice A2 more.length c2] 33) := ⟨_, rfl⟩
  rw [← e1]
  have HB1 := Aside0.mk (show Below W.heap.size W w1 by rw [e1]; exact below_alloc (Below.refl _ _) _)
  have HX1 := Aside0.mk (show w1.heap[b]? = some (.cells #[.int .i64 kind, .int .i64 d, .int .i64 s, .slice A1 known.length c1, .slice A2 more.length c2] 33 (0, 0)) by rw [e1, HEB.out]; exact heap_alloc_new W _)
  clear e1
  refine (cut.calls kind d s A1 c1 known A2 c2 more w1 Fo hc1 (Kd.F_below HM.out HB1.out) hc2).mono ?_
  rintro e w2 ⟨A, c, rfl, hc, hR, hB⟩
  have HCC := Aside0.mk (show (cutM more).length ≤ c ∧ (cutM more).length ≤ 1000000 ∧ ∀ r ∈ cutM more, r.length ≤ 1000000 from ⟨hc, by have := cutM_len more; omega, fun r hr => by have := cutM_rows more r hr; omega⟩)
  have HX2 := Aside0.mk ((hB.block b (blk_lt HX1.out)).trans HX1.out)
  have HB2 := Aside0.mk (below_step HB1.out hB)
  have HR2 := Aside0.mk (show (told (Kd.int .i64) 3 W Fo).R 30 w2 0 (fun k => b < k) (.slice A (cutM more).length c) (cutM more) from told_R HB1.out HFO.out (Kd.R_mono hR (fun k hk => Nat.lt_of_lt_of_le (blk_lt HX1.out) hk)))
  clear hR hB hc
  obtain ⟨kn, ekn⟩ : ∃ kn, known.take 20 = kn := ⟨_, rfl⟩
  rw [ekn]
  have HKN := Aside0.mk ekn
  have hknl : kn.length ≤ c1 := by rw [← ekn, List.length_take]; omega
  have HKC := Aside0.mk hknl
  have HKF := Aside0.mk (show Kd.F (Kd.int .i64) W Fo A1 kn.length kn by
    rw [← ekn]
    by_cases h20 : 20 ≤ known.length
    · exact Kd.F_take HK.out h20
    · rw [List.take_of_length_le (by omega)]; exact HK.out)
  have HQ := Aside0.mk (show ∀ W' ok ok', (Res.agree W Fo).P ok W' → (SEPB b kind d s A1 kn.length c1 A c (cutM more) W Fo).P ok' W' → Reads2 A1 kn A (cutM more) W' from fun W' ok ok' h1 h2 => ⟨HKF.out W' h1.2, h2.elim fun f h3 => told_C (Kd.R_reads' h3.2).2.2 h1.2⟩)
  clear ekn hknl
  obtain ⟨x0, x1, x2, x3, x4, f0, f1, f2, f3, f4⟩ := blk_all5 HX2.out
  by_cases hk1 : kind = 1
  · have hk1b : (kind == 1) = true := by simp [hk1]
    have HSTEP := Aside0.mk (show ∀ L, stepL kind d s known more L = mergeL kn (cutM more) L from fun L => by rw [stepL, if_pos hk1, HKN.out])
    clear hk1
    go_wp2_with fail
    obtain ⟨w3, e3⟩ : ∃ w3, w3 = (((((w2.setCell ⟨b, 0, none⟩ (.int .i64 kind)).setCell ⟨b, 1, none⟩ (.int .i64 d)).setCell ⟨b, 2, none⟩ (.int .i64 s)).setCell ⟨b, 3, none⟩ (.slice A1 kn.length c1)).setCell ⟨b, 4, none⟩ (.slice A (cutM more).length c)).drew := ⟨_, rfl⟩
    have HT3 := Aside0.mk (does_state HST.out HB2.out HX2.out HEB.out HR2.out e3)
    have HXD := Aside0.mk (sepb_blk HT3.out)
    clear x0 x1 x2 x3 x4 f0 f1 f2 f3 f4 HX2 HR2
    refine start_ (n := 14) (S := fun w' => w'.cell? ⟨b, 3, none⟩ = some (.slice A1 kn.length c1) ∧ w'.cell? ⟨b, 4, none⟩ = some (.slice A (cutM more).length c)) (ds := []) #[false, false, false, false, false, false, false, false, false, false, false, false, false, false] (by kernel_rfl) rfl rfl ⟨(by rw [← e3]; exact cell_blk HXD.out 3 rfl), (by rw [← e3]; exact cell_blk HXD.out 4 rfl)⟩ (fun hHeld => ?_)
    rw [← e3] at hHeld ⊢
    clear e3
    refine pure_ (i := 0) (N := some 12) (v := ?_) (a' := ?_) #[true, false, false, false, false, false, false, false, false, false, false, false, false, false] rfl rfl (by kernel_rfl) (fun _ _ _ h => h) (Or.inl ⟨by rfl, ?_⟩) ?_ ?_
    rotate_left
    · intro w'
      go_simp
      with_reducible rfl
    rotate_left
    · simp only [Act.put, List.setIfInBounds_toArray, List.set_cons_zero, List.set_cons_succ, i64_w, i32_w]
      rfl
    refine pure_ (i := 1) (N := some 13) (v := ?_) (a' := ?_) #[true, true, false, false, false, false, false, false, false, false, false, false, false, false] rfl rfl (by kernel_rfl) (fun _ _ _ h => h) (Or.inl ⟨by rfl, ?_⟩) ?_ ?_
    rotate_left
    · intro w'
      go_simp
      with_reducible rfl
    rotate_left
    · simp only [Act.put, List.setIfInBounds_toArray, List.set_cons_zero, List.set_cons_succ, i64_w, i32_w]
      rfl
    refine pure_ (i := 3) (N := some 15) (v := ?_) (a' := ?_) #[true, true, false, true, false, false, false, false, false, false, false, false, false, false] rfl rfl (by kernel_rfl) (fun _ _ _ h => h) (Or.inl ⟨by rfl, ?_⟩) ?_ ?_
    rotate_left
    · intro w'
      go_simp
      with_reducible rfl
    rotate_left
    · simp only [Act.put, List.setIfInBounds_toArray, List.set_cons_zero, List.set_cons_succ, i64_w, i32_w]
      rfl
    refine pure_ (i := 6) (N := some 18) (v := ?_) (a' := ?_) #[true, true, false, true, false, false, true, false, false, false, false, false, false, false] rfl rfl (by kernel_rfl) (fun _ _ _ h => h) (Or.inl ⟨by rfl, ?_⟩) ?_ ?_
    rotate_left
    · intro w'
      go_simp
      with_reducible rfl
    rotate_left
    · simp only [Act.put, List.setIfInBounds_toArray, List.set_cons_zero, List.set_cons_succ, i64_w, i32_w]
      rfl
    refine pure_ (i := 7) (N := some 19) (v := ?_) (a' := ?_) #[true, true, false, true, false, false, true, true, false, false, false, false, false, false] rfl rfl (by kernel_rfl) (fun _ _ _ h => h) (Or.inl ⟨by rfl, ?_⟩) ?_ ?_
    rotate_left
    · intro w'
      go_simp
      with_reducible rfl
    rotate_left
    · simp only [Act.put, List.setIfInBounds_toArray, List.set_cons_zero, List.set_cons_succ, i64_w, i32_w]
      rfl
    refine pure_ (i := 9) (N := some 21) (v := ?_) (a' := ?_) #[true, true, false, true, false, false, true, true, false, true, false, false, false, false] rfl rfl (by kernel_rfl) (fun _ _ _ h => h) (Or.inl ⟨by rfl, ?_⟩) ?_ ?_
    rotate_left
    · intro w'
      go_simp
      with_reducible rfl
    rotate_left
    · simp only [Act.put, List.setIfInBounds_toArray, List.set_cons_zero, List.set_cons_succ, i64_w, i32_w]
      rfl
    refine take_ (i := 2) (N := some 14) (v := ?_) (a' := ?_) #[true, true, true, true, false, false, true, true, false, true, false, false, false, false] rfl rfl (by kernel_rfl) (fun _ _ _ h => h) (Or.inl ⟨by rfl, ?_⟩) hHeld ?_ ?_
    rotate_left
    · rintro w' ⟨s0, s1⟩
      go_simp
      with_reducible rfl
    rotate_left
    · simp only [Act.put, List.setIfInBounds_toArray, List.set_cons_zero, List.set_cons_succ, i64_w, i32_w]
      rfl
    refine take_ (i := 4) (N := some 16) (v := ?_) (a' := ?_) #[true, true, true, true, true, false, true, true, false, true, false, false, false, false] rfl rfl (by kernel_rfl) (fun _ _ _ h => h) (Or.inl ⟨by rfl, ?_⟩) hHeld ?_ ?_
    rotate_left
    · rintro w' ⟨s0, s1⟩
      go_simp
      with_reducible rfl
    rotate_left
    · simp only [Act.put, List.setIfInBounds_toArray, List.set_cons_zero, List.set_cons_succ, i64_w, i32_w]
      rfl
    refine take_ (i := 8) (N := some 20) (v := ?_) (a' := ?_) #[true, true, true, true, true, false, true, true, true, true, false, false, false, false] rfl rfl (by kernel_rfl) (fun _ _ _ h => h) (Or.inl ⟨by rfl, ?_⟩) hHeld ?_ ?_
    rotate_left
    · rintro w' ⟨s0, s1⟩
      go_simp
      with_reducible rfl
    rotate_left
    · simp only [Act.put, List.setIfInBounds_toArray, List.set_cons_zero, List.set_cons_succ, i64_w, i32_w]
      rfl
    refine take_ (i := 10) (N := some 22) (v := ?_) (a' := ?_) #[true, true, true, true, true, false, true, true, true, true, true, false, false, false] rfl rfl (by kernel_rfl) (fun _ _ _ h => h) (Or.inl ⟨by rfl, ?_⟩) hHeld ?_ ?_
    rotate_left
    · rintro w' ⟨s0, s1⟩
      go_simp
      with_reducible rfl
    rotate_left
    · simp only [Act.put, List.setIfInBounds_toArray, List.set_cons_zero, List.set_cons_succ, i64_w, i32_w]
      rfl
    refine one_ (i := 5) (N := some 17) #[true, true, true, true, true, true, true, true, true, true, true, false, false, false] rfl rfl (by kernel_rfl) (by decide) (fun K hK => ?_)
    refine goes_ Try.func20 (by kernel_rfl) rfl #[.pointer (some ⟨gs, 0, none⟩), .slice A1 kn.length c1, .slice A (cutM more).length c] (by rfl) rfl rfl (by simp only [List.map_toArray, List.map_cons, List.map_nil]; rfl) ?_
    with_reducible refine (mergeP_call HT3.out HGL.out HQ.out HKC.out HCC.out).mono ?_
    rintro e w4 ⟨rfl, hT4⟩
    have HT4 := Aside0.mk hT4
    clear hT4
    have HX4 := Aside0.mk (sepb_blk HT4.out)
    refine ⟨_, rfl, ?_⟩
    refine hK.out _ _ ⟨(cell_blk HX4.out 3 rfl), (cell_blk HX4.out 4 rfl)⟩ (fun hHeld => ?_)
    clear hK K
    refine norm_ (a' := ?_) ?_ ?_
    rotate_left
    · show Act.put _ (some 17) _ = _
      simp only [Act.put, List.setIfInBounds_toArray, List.set_cons_zero, List.set_cons_succ, i64_w, i32_w]
      rfl
    refine one_ (i := 11) (N := some 23) #[true, true, true, true, true, true, true, true, true, true, true, true, false, false] rfl rfl (by kernel_rfl) (by decide) (fun K hK => ?_)
    refine goes_ Try.func28 (by kernel_rfl) rfl #[.pointer (some ⟨gr, 0, none⟩), .slice A1 kn.length c1, .slice A (cutM more).length c] (by rfl) rfl rfl (by simp only [List.map_toArray, List.map_cons, List.map_nil]; rfl) ?_
    with_reducible refine (mergeR_call HT4.out HGL.out HQ.out HKC.out HCC.out).mono ?_
    rintro e w5 ⟨rfl, hT5⟩
    have HT5 := Aside0.mk hT5
    clear hT5
    have HX5 := Aside0.mk (sepb_blk HT5.out)
    refine ⟨_, rfl, ?_⟩
    refine hK.out _ _ ⟨(cell_blk HX5.out 3 rfl), (cell_blk HX5.out 4 rfl)⟩ (fun hHeld => ?_)
    clear hK K
    refine norm_ (a' := ?_) ?_ ?_
    rotate_left
    · show Act.put _ (some 23) _ = _
      simp only [Act.put, List.setIfInBounds_toArray, List.set_cons_zero, List.set_cons_succ, i64_w, i32_w]
      rfl
    refine pure_ (i := 12) (N := some 24) (v := ?_) (a' := ?_) #[true, true, true, true, true, true, true, true, true, true, true, true, true, false] rfl rfl (by kernel_rfl) (fun _ _ _ h => h) (Or.inl ⟨by rfl, ?_⟩) ?_ ?_
    rotate_left
    · intro w'
      go_simp
      with_reducible rfl
    rotate_left
    · simp only [Act.put, List.setIfInBounds_toArray, List.set_cons_zero, List.set_cons_succ, i64_w, i32_w]
      rfl
    refine pure_ (i := 13) (N := some 6) (v := ?_) (a' := ?_) #[true, true, true, true, true, true, true, true, true, true, true, true, true, true] rfl rfl (by kernel_rfl) (fun _ _ _ h => h) (Or.inl ⟨by rfl, ?_⟩) ?_ ?_
    rotate_left
    · intro w'
      go_simp
      with_reducible rfl
    rotate_left
    · simp only [Act.put, List.setIfInBounds_toArray, List.set_cons_zero, List.set_cons_succ, i64_w, i32_w]
      rfl
    refine done_ (by kernel_rfl) ?_
    go_wp2_with fail
    go_ret
    rw [HSTEP.out]
    exact ⟨by simp, St.drop_any HT5.out⟩
  · have hk1b : (kind == 1) = false := by simp [hk1]
    have HSTEP := Aside0.mk (show ∀ L, stepL kind d s known more L = addL L d s from fun L => by rw [stepL, if_neg hk1])
    clear hk1
    go_wp2_with fail
    obtain ⟨w3, e3⟩ : ∃ w3, w3 = (((((w2.setCell ⟨b, 0, none⟩ (.int .i64 kind)).setCell ⟨b, 1, none⟩ (.int .i64 d)).setCell ⟨b, 2, none⟩ (.int .i64 s)).setCell ⟨b, 3, none⟩ (.slice A1 kn.length c1)).setCell ⟨b, 4, none⟩ (.slice A (cutM more).length c)).drew := ⟨_, rfl⟩
    have HT3 := Aside0.mk (does_state HST.out HB2.out HX2.out HEB.out HR2.out e3)
    have HXD := Aside0.mk (sepb_blk HT3.out)
    clear x0 x1 x2 x3 x4 f0 f1 f2 f3 f4 HX2 HR2
    refine start_ (n := 10) (S := fun w' => w'.cell? ⟨b, 1, none⟩ = some (.int .i64 d) ∧ w'.cell? ⟨b, 2, none⟩ = some (.int .i64 s)) (ds := []) #[false, false, false, false, false, false, false, false, false, false] (by kernel_rfl) rfl rfl ⟨(by rw [← e3]; exact cell_blk HXD.out 1 rfl), (by rw [← e3]; exact cell_blk HXD.out 2 rfl)⟩ (fun hHeld => ?_)
    rw [← e3] at hHeld ⊢
    clear e3
    refine pure_ (i := 0) (N := some 25) (v := ?_) (a' := ?_) #[true, false, false, false, false, false, false, false, false, false] rfl rfl (by kernel_rfl) (fun _ _ _ h => h) (Or.inl ⟨by rfl, ?_⟩) ?_ ?_
    rotate_left
    · intro w'
      go_simp
      with_reducible rfl
    rotate_left
    · simp only [Act.put, List.setIfInBounds_toArray, List.set_cons_zero, List.set_cons_succ, i64_w, i32_w]
      rfl
    refine pure_ (i := 1) (N := some 26) (v := ?_) (a' := ?_) #[true, true, false, false, false, false, false, false, false, false] rfl rfl (by kernel_rfl) (fun _ _ _ h => h) (Or.inl ⟨by rfl, ?_⟩) ?_ ?_
    rotate_left
    · intro w'
      go_simp
      with_reducible rfl
    rotate_left
    · simp only [Act.put, List.setIfInBounds_toArray, List.set_cons_zero, List.set_cons_succ, i64_w, i32_w]
      rfl
    refine pure_ (i := 4) (N := some 29) (v := ?_) (a' := ?_) #[true, true, false, false, true, false, false, false, false, false] rfl rfl (by kernel_rfl) (fun _ _ _ h => h) (Or.inl ⟨by rfl, ?_⟩) ?_ ?_
    rotate_left
    · intro w'
      go_simp
      with_reducible rfl
    rotate_left
    · simp only [Act.put, List.setIfInBounds_toArray, List.set_cons_zero, List.set_cons_succ, i64_w, i32_w]
      rfl
    refine pure_ (i := 5) (N := some 30) (v := ?_) (a' := ?_) #[true, true, false, false, true, true, false, false, false, false] rfl rfl (by kernel_rfl) (fun _ _ _ h => h) (Or.inl ⟨by rfl, ?_⟩) ?_ ?_
    rotate_left
    · intro w'
      go_simp
      with_reducible rfl
    rotate_left
    · simp only [Act.put, List.setIfInBounds_toArray, List.set_cons_zero, List.set_cons_succ, i64_w, i32_w]
      rfl
    refine take_ (i := 2) (N := some 27) (v := ?_) (a' := ?_) #[true, true, true, false, true, true, false, false, false, false] rfl rfl (by kernel_rfl) (fun _ _ _ h => h) (Or.inl ⟨by rfl, ?_⟩) hHeld ?_ ?_
    rotate_left
    · rintro w' ⟨s0, s1⟩
      go_simp
      with_reducible rfl
    rotate_left
    · simp only [Act.put, List.setIfInBounds_toArray, List.set_cons_zero, List.set_cons_succ, i64_w, i32_w]
      rfl
    refine take_ (i := 6) (N := some 31) (v := ?_) (a' := ?_) #[true, true, true, false, true, true, true, false, false, false] rfl rfl (by kernel_rfl) (fun _ _ _ h => h) (Or.inl ⟨by rfl, ?_⟩) hHeld ?_ ?_
    rotate_left
    · rintro w' ⟨s0, s1⟩
      go_simp
      with_reducible rfl
    rotate_left
    · simp only [Act.put, List.setIfInBounds_toArray, List.set_cons_zero, List.set_cons_succ, i64_w, i32_w]
      rfl
    refine one_ (i := 3) (N := some 28) #[true, true, true, true, true, true, true, false, false, false] rfl rfl (by kernel_rfl) (by decide) (fun K hK => ?_)
    refine goes_ Try.func21 (by kernel_rfl) rfl #[.pointer (some ⟨gs, 0, none⟩), .agg #[.int .i64 d, .int .i64 s]] (by rfl) rfl rfl (by simp only [List.map_toArray, List.map_cons, List.map_nil]; rfl) ?_
    with_reducible refine (addP_call HT3.out HGL.out d s).mono ?_
    rintro e w4 ⟨rfl, hT4⟩
    have HT4 := Aside0.mk hT4
    clear hT4
    have HX4 := Aside0.mk (sepb_blk HT4.out)
    refine ⟨_, rfl, ?_⟩
    refine hK.out _ _ ⟨(cell_blk HX4.out 1 rfl), (cell_blk HX4.out 2 rfl)⟩ (fun hHeld => ?_)
    clear hK K
    refine norm_ (a' := ?_) ?_ ?_
    rotate_left
    · show Act.put _ (some 28) _ = _
      simp only [Act.put, List.setIfInBounds_toArray, List.set_cons_zero, List.set_cons_succ, i64_w, i32_w]
      rfl
    refine one_ (i := 7) (N := some 32) #[true, true, true, true, true, true, true, true, false, false] rfl rfl (by kernel_rfl) (by decide) (fun K hK => ?_)
    refine goes_ Try.func29 (by kernel_rfl) rfl #[.pointer (some ⟨gr, 0, none⟩), .agg #[.int .i64 d, .int .i64 s]] (by rfl) rfl rfl (by simp only [List.map_toArray, List.map_cons, List.map_nil]; rfl) ?_
    with_reducible refine (addR_call HT4.out HGL.out d s).mono ?_
    rintro e w5 ⟨rfl, hT5⟩
    have HT5 := Aside0.mk hT5
    clear hT5
    have HX5 := Aside0.mk (sepb_blk HT5.out)
    refine ⟨_, rfl, ?_⟩
    refine hK.out _ _ ⟨(cell_blk HX5.out 1 rfl), (cell_blk HX5.out 2 rfl)⟩ (fun hHeld => ?_)
    clear hK K
    refine norm_ (a' := ?_) ?_ ?_
    rotate_left
    · show Act.put _ (some 32) _ = _
      simp only [Act.put, List.setIfInBounds_toArray, List.set_cons_zero, List.set_cons_succ, i64_w, i32_w]
      rfl
    refine pure_ (i := 8) (N := some 33) (v := ?_) (a' := ?_) #[true, true, true, true, true, true, true, true, true, false] rfl rfl (by kernel_rfl) (fun _ _ _ h => h) (Or.inl ⟨by rfl, ?_⟩) ?_ ?_
    rotate_left
    · intro w'
      go_simp
      with_reducible rfl
    rotate_left
    · simp only [Act.put, List.setIfInBounds_toArray, List.set_cons_zero, List.set_cons_succ, i64_w, i32_w]
      rfl
    refine pure_ (i := 9) (N := some 6) (v := ?_) (a' := ?_) #[true, true, true, true, true, true, true, true, true, true] rfl rfl (by kernel_rfl) (fun _ _ _ h => h) (Or.inl ⟨by rfl, ?_⟩) ?_ ?_
    rotate_left
    · intro w'
      go_simp
      with_reducible rfl
    rotate_left
    · simp only [Act.put, List.setIfInBounds_toArray, List.set_cons_zero, List.set_cons_succ, i64_w, i32_w]
      rfl
    refine done_ (by kernel_rfl) ?_
    go_wp2_with fail
    go_ret
    rw [HSTEP.out]
    exact ⟨by simp, St.drop_any HT5.out⟩
end Go.Proofs.Ytadkafhhkidecaa.P
