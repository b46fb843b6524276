/- A law: a set's rows grow at their end. -/
import Derived.Test.YtadkafhhkidecaaHLaw11
set_option linter.unusedVariables false
set_option linter.unusedSimpArgs false
namespace Go.Proofs.Ytadkafhhkidecaa.P
open Go.RowKit Go.Proofs.YtadkafhhkidecaaW.PrintWords Go.Proofs.YtadkafhhkidecaaW.PrintLast Go.Proofs.YtadkafhhkidecaaW.PrintMore
set_option maxHeartbeats 8000000 in
set_option maxRecDepth 100000 in
theorem liverylaw11_RevsetGrows.walk (A0 : Option Addr) (c0 : Nat) (l0 : List S33) (w : World) (w0 : l0.length ≤ maxLen ∧ l0.length * 72 ≤ 140737488351232 ∧ ∀ x ∈ l0, q33 x) (hr0 : Kd.C k33 w A0 l0.length l0) (hc0 : l0.length ≤ c0) :
    Calls Try.prog 5 #[.slice A0 l0.length c0] w fun e w' => e = .returned (.bool true) ∧ Below w.heap.size w w' := by
  obtain ⟨Fo, hFo, hF, hst⟩ := law_st3 hr0
  have HF := Aside0.mk hF
  have HFO := Aside0.mk hFo
  have HST := Aside0.mk hst
  have hml := w0.2.1
  have hu1 := Try.underlying33
  have hu2 := Try.underlying29
  clear hF hst w0 hr0 hFo
  go_enter Try.func5, Try.ntmps5
  go_wp2_with fail
  refine (newP_at HST.out).mono ?_
  rintro e w1 ⟨gs, rfl, h1⟩
  have HST1 := Aside0.mk (show St w (fun _ => False) w1 [Res.agree w Fo, PSet gs lv0] from h1)
  clear h1
  go_wp2_with fail
  go_loopw [4] (fun s4 wr => ∃ (i : Nat) (L : List (List Int)), i ≤ l0.length ∧ i ≤ 60 ∧ s4 = .int .i64 (i : Int) ∧ Aside0 (Good L) ∧ Aside0 (St w (fun _ => False) wr [Res.agree w Fo, PSet gs L])) (fun s4 _ => (61 - (intOf s4).toNat))
  case atStart => exact ⟨0, lv0, by omega, by omega, rfl, ⟨lv0_good⟩, HST1⟩
  case round =>
    obtain ⟨i, L, hi, hi60, rfl, HG, HSR⟩ := hrel
    clear HST HST1
    by_cases hlt : i < l0.length
    · by_cases h60 : i < 60
      · have b1 : decide ((i : Int) < (l0.length : Int)) = true := decide_eq_true (by omega)
        have b2 : decide ((i : Int) < 60) = true := decide_eq_true (by omega)
        obtain ⟨ad, A3, c3, A4, c4, x, eA, hmem, hx0, hx1, hx2, hx3, hx4, l3, l4, g3, g4⟩ := deed_at HF.out i hlt
        subst eA
        obtain ⟨k, d, s, kn0, mo, e0, e1, e2, e3, e4⟩ : ∃ k d s kn mo, x.f0 = k ∧ x.f1.f0 = d ∧ x.f1.f1 = s ∧ x.f2 = kn ∧ x.f3 = mo := ⟨_, _, _, _, _, rfl, rfl, rfl, rfl, rfl⟩
        rw [e0] at hx0
        rw [e1] at hx1
        rw [e2] at hx2
        rw [e3] at hx3 l3 g3
        rw [e4] at hx4 l4 g4
        have HK := Aside0.mk (And.intro l3 g3)
        have HM := Aside0.mk (And.intro l4 g4)
        clear e0 e1 e2 e3 e4 hmem l3 l4 g3 g4
        go_wp2_with fail
        have HSN := Aside0.mk (show St w (fun _ => False) wr [Res.agree w Fo, PSet gs L, Res.row (Kd.slice 3 (Kd.int .i64)) 30 (.slice none 0 0) []] from HSR.out.nil _ _)
        obtain ⟨wo, rfl⟩ : ∃ wo : World, wo = wr := ⟨_, rfl⟩
        clear HSR
        go_loopw [5, 6] (fun s5 s6 wr => ∃ n : Nat, n ≤ 16 ∧ s6 = .int .i64 ((n : Int) + 1) ∧ Aside0 (St w (fun _ => False) wr [Res.agree w Fo, PSet gs L, Res.row (Kd.slice 3 (Kd.int .i64)) 30 s5 (L.take n)])) (fun _ s6 _ => (17 - (intOf s6).toNat))
        case atStart => exact ⟨0, by omega, rfl, HSN⟩
        case round =>
          obtain ⟨n, hn, rfl, HSA⟩ := hrel
          clear HSN
          by_cases hn16 : n < 16
          · have b3 : decide ((n : Int) + 1 ≤ 16) = true := decide_eq_true (by omega)
            have HTK := Aside0.mk (show L.take n ++ [L.getD n []] = L.take (n + 1) by rw [List.take_succ_eq_append_getElem (by rw [HG.out.1]; exact hn16), List.getD_eq_getElem?_getD, List.getElem?_eq_getElem (by rw [HG.out.1]; exact hn16)]; rfl)
            have HTL := Aside0.mk (show (L.take n).length ≤ 16 by rw [List.length_take]; omega)
            go_wp2_with fail
            refine (rowP_at HSA.out 1 rfl HG.out ((n : Int) + 1)).mono ?_
            rintro e w2 ⟨A, c, rfl, hc, hC, h2⟩
            rw [rowN_at L hn16] at h2 ⊢
            obtain ⟨r, er⟩ : ∃ r, L.getD n [] = r := ⟨_, rfl⟩
            rw [er] at h2 HTK ⊢
            have HST2 := Aside0.mk (show St w (fun _ => False) w2 [Res.agree w Fo, PSet gs L, Res.row (Kd.slice 3 (Kd.int .i64)) 30 u5 (L.take n), Res.row (Kd.int .i64) 3 (.slice A r.length c) r] from h2)
            clear h2 hc hC er
            go_wp2_with (at_builtin; refine St.app_row rfl (.tmp 27) (.tmp 31) 31 30 rfl Try.underlying31 hinfo30B HST2.out 2 3 u5 (.slice A r.length c) (L.take n) r rfl rfl rfl rfl (by decide) (by decide) (by decide) (by have := HTL.out; omega) ?_)
            intro v1 w3 h3
            rw [HTK.out] at h3
            have HST3 := Aside0.mk (show St w (fun _ => False) w3 [Res.agree w Fo, PSet gs L, Res.row (Kd.slice 3 (Kd.int .i64)) 30 v1 (L.take (n + 1))] from St.drop (Rs := [Res.agree w Fo, PSet gs L, Res.row (Kd.slice 3 (Kd.int .i64)) 30 v1 (L.take (n + 1))]) h3)
            clear h3 HST2 HSA HTK
            go_wp2_with fail
            go_roundw
            case rel => exact ⟨n + 1, by omega, by simp, HST3⟩
            case measure => simp [intOf]; omega
          · have en : n = 16 := by omega
            subst en
            rw [List.take_of_length_le (by rw [HG.out.1]; exact Nat.le_refl _)] at HSA
            obtain ⟨g5, c5, ev5⟩ := rowsrow_form HSA.out 2 rfl (by rw [HG.out.1]; decide)
            rw [HG.out.1] at ev5
            subst ev5
            replace hx0 := pw_cell_below HSA.out.below hx0
            replace hx1 := pw_cell_below HSA.out.below hx1
            replace hx2 := pw_cell_below HSA.out.below hx2
            replace hx3 := pw_cell_below HSA.out.below hx3
            replace hx4 := pw_cell_below HSA.out.below hx4
            clear hn hn16
            go_wp2_with fail
            refine (cut.calls k d s A3 c3 kn0 A4 c4 mo wr Fo HK.out.1 (Kd.F_below HM.out.2 HSA.out.below) HM.out.1).mono ?_
            rintro e w2 ⟨A, c, rfl, hc, hR, hB⟩
            have HCC := Aside0.mk (show (cutM mo).length ≤ c ∧ (cutM mo).length ≤ 1000000 ∧ ∀ r ∈ cutM mo, r.length ≤ 1000000 from ⟨hc, by have := cutM_len mo; omega, fun r hr => by have := cutM_rows mo r hr; omega⟩)
            have HR2 := Aside0.mk (told_R HSA.out.below HFO.out hR)
            have HB2 := Aside0.mk hB
            obtain ⟨kn, ekn⟩ : ∃ kn, kn0.take 20 = kn := ⟨_, rfl⟩
            have HKF := Aside0.mk (show Kd.F (Kd.int .i64) w Fo A3 kn.length kn by rw [← ekn]; exact F_take20 HK.out.2)
            have HKC := Aside0.mk (show kn.length ≤ c3 by have := HK.out.1; rw [← ekn, List.length_take]; omega)
            rw [ekn]
            obtain ⟨b, eb⟩ : ∃ b, b = w2.heap.size := ⟨_, rfl⟩
            clear hc hR hB ekn hx0 hx1 hx2 hx3 hx4

            by_cases hk1 : k = 1
            · have hk1b : (k == 1) = true := by simp [hk1]
              have HG2 := Aside0.mk (show Good (mergeL kn (cutM mo) L) from HG.out.merge _ _ 16)
              have HGR := Aside0.mk (mergeL_grows kn (cutM mo) L)
              clear hk1
              go_wp2_with fail
              rw [← eb]
              obtain ⟨w3, e3⟩ : ∃ w3, w3 = w2.alloc (.cells #[.int .i64 k, .int .i64 d, .int .i64 s, .slice A3 kn.length c3, .slice A (cutM mo).length c] 33) := ⟨_, rfl⟩
              rw [← e3]
              have HST3 := Aside0.mk (show St w (fun _ => False) w3 [Res.agree w Fo, PSet gs L, Res.row (Kd.slice 3 (Kd.int .i64)) 30 (.slice (some ⟨g5, 0, none⟩) 16 c5) L, SEPB b k d s A3 kn.length c3 A c (cutM mo) w Fo] from box_state HSA.out HB2.out eb HR2.out e3)
              clear e3 eb HR2 HB2 HSA hk1b
              refine (mergeP_at HST3.out 1 rfl (by decide) HG.out (fun W' hW => ?_) HKC.out HCC.out).mono ?_
              · obtain ⟨ok, h1⟩ := hW 0 _ (by decide) rfl
                obtain ⟨ok', h2⟩ := hW 3 _ (by decide) rfl
                exact sepb_reads HKF.out h1 h2
              rintro e w4 ⟨rfl, h4⟩
              obtain ⟨L2, eL⟩ : ∃ L2, mergeL kn (cutM mo) L = L2 := ⟨_, rfl⟩
              rw [eL] at h4 HG2 HGR
              have HST4 := Aside0.mk (show St w (fun _ => False) w4 [Res.agree w Fo, PSet gs L2, Res.row (Kd.slice 3 (Kd.int .i64)) 30 (.slice (some ⟨g5, 0, none⟩) 16 c5) L, SEPB b k d s A3 kn.length c3 A c (cutM mo) w Fo] from h4)
              clear h4 eL HST3
              go_wp2_with fail
              have HST6 := Aside0.mk (show St w (fun _ => False) w4 [Res.agree w Fo, PSet gs L2, Res.row (Kd.slice 3 (Kd.int .i64)) 30 (.slice (some ⟨g5, 0, none⟩) 16 c5) L] from St.drop (Rs := [Res.agree w Fo, PSet gs L2, Res.row (Kd.slice 3 (Kd.int .i64)) 30 (.slice (some ⟨g5, 0, none⟩) 16 c5) L]) HST4.out)
              clear HST4
              go_loopw [8] (fun s8 wr => ∃ j : Nat, j ≤ 16 ∧ s8 = .int .i64 ((j : Int) + 1) ∧ Aside0 (St w (fun _ => False) wr [Res.agree w Fo, PSet gs L2, Res.row (Kd.slice 3 (Kd.int .i64)) 30 (.slice (some ⟨g5, 0, none⟩) 16 c5) L])) (fun s8 _ => (17 - (intOf s8).toNat))
              case atStart => exact ⟨0, by omega, rfl, HST6⟩
              case round =>
                obtain ⟨j, hj, rfl, HSB⟩ := hrel
                clear HST6
                by_cases hj16 : j < 16
                · obtain ⟨B, cb, hcell, hcb, hC⟩ := rowsrow_at HSB.out 2 rfl j (by rw [HG.out.1]; exact hj16)
                  obtain ⟨ro, ero⟩ : ∃ ro, L.getD j [] = ro := ⟨_, rfl⟩
                  rw [ero] at hcell hcb hC
                  have HBEG := Aside0.mk (show (L2.getD j []).take ro.length = ro by rw [← ero]; exact HGR.out j)
                  have HCR := Aside0.mk (And.intro hcb hC)
                  have HCELL := Aside0.mk hcell
                  have hwrap : wrap64 (j : Int) = (j : Int) := w64 (by omega) (by omega)
                  have hjn : (j : Int).toNat = j := Int.toNat_natCast j
                  have b1 : decide ((j : Int) + 1 ≤ 16) = true := decide_eq_true (by omega)
                  have hj0 : (0 : Int) ≤ (j : Int) := by omega
                  have hj1 : (j : Int) < 16 := by omega
                  clear hcell hcb hC ero
                  go_wp2_with fail
                  refine start_ (n := 10) (S := fun w' => w'.cell? ⟨g5, j, none⟩ = some (.slice B ro.length cb)) (ds := []) #[false, false, false, false, false, false, false, false, false, false] (by kernel_rfl) rfl rfl ((pw_cell_below (below_drew (Below.refl _ _)) HCELL.out)) (fun hHeld => ?_)
                  refine pure_ (i := 0) (N := some 55) (v := ?_) (a' := ?_) #[true, false, false, false, false, false, false, false, false, false] rfl rfl (by kernel_rfl) (fun _ _ _ h => h) (Or.inl ⟨by rfl, ?_⟩) ?_ ?_
                  rotate_left
                  · intro w'
                    go_simp
                    with_reducible rfl
                  rotate_left
                  · simp only [Act.put, List.setIfInBounds_toArray, List.set_cons_zero, List.set_cons_succ, i64_w, i32_w]
                    rfl
                  refine pure_ (i := 1) (N := some 56) (v := ?_) (a' := ?_) #[true, true, false, false, false, false, false, false, false, false] rfl rfl (by kernel_rfl) (fun _ _ _ h => h) (Or.inl ⟨by rfl, ?_⟩) ?_ ?_
                  rotate_left
                  · intro w'
                    go_simp
                    with_reducible rfl
                  rotate_left
                  · simp only [Act.put, List.setIfInBounds_toArray, List.set_cons_zero, List.set_cons_succ, i64_w, i32_w]
                    rfl
                  refine pure_ (i := 3) (N := some 58) (v := ?_) (a' := ?_) #[true, true, false, true, false, false, false, false, false, false] rfl rfl (by kernel_rfl) (fun _ _ _ h => h) (Or.inl ⟨by rfl, ?_⟩) ?_ ?_
                  rotate_left
                  · intro w'
                    go_simp
                    with_reducible rfl
                  rotate_left
                  · simp only [Act.put, List.setIfInBounds_toArray, List.set_cons_zero, List.set_cons_succ, i64_w, i32_w]
                    rfl
                  refine pure_ (i := 4) (N := some 59) (v := ?_) (a' := ?_) #[true, true, false, true, true, false, false, false, false, false] rfl rfl (by kernel_rfl) (fun _ _ _ h => h) (Or.inl ⟨by rfl, ?_⟩) ?_ ?_
                  rotate_left
                  · intro w'
                    go_simp
                    with_reducible rfl
                  rotate_left
                  · simp only [Act.put, List.setIfInBounds_toArray, List.set_cons_zero, List.set_cons_succ, i64_w, i32_w]
                    rfl
                  refine pure_ (i := 5) (N := some 60) (v := ?_) (a' := ?_) #[true, true, false, true, true, true, false, false, false, false] rfl rfl (by kernel_rfl) (fun _ _ _ h => h) (Or.inl ⟨by rfl, ?_⟩) ?_ ?_
                  rotate_left
                  · intro w'
                    go_simp
                    with_reducible rfl
                  rotate_left
                  · simp only [Act.put, List.setIfInBounds_toArray, List.set_cons_zero, List.set_cons_succ, i64_w, i32_w]
                    rfl
                  refine pure_ (i := 6) (N := some 61) (v := ?_) (a' := ?_) #[true, true, false, true, true, true, true, false, false, false] rfl rfl (by kernel_rfl) (fun _ _ _ h => h) (Or.inl ⟨by rfl, ?_⟩) ?_ ?_
                  rotate_left
                  · intro w'
                    go_simp
                    with_reducible rfl
                  rotate_left
                  · simp only [Act.put, List.setIfInBounds_toArray, List.set_cons_zero, List.set_cons_succ, i64_w, i32_w]
                    rfl
                  refine take_ (i := 7) (N := some 62) (v := ?_) (a' := ?_) #[true, true, false, true, true, true, true, true, false, false] rfl rfl (by kernel_rfl) (fun _ _ _ h => h) (Or.inl ⟨by rfl, ?_⟩) hHeld ?_ ?_
                  rotate_left
                  · intro w' s0
                    go_simp
                    with_reducible rfl
                  rotate_left
                  · simp only [Act.put, List.setIfInBounds_toArray, List.set_cons_zero, List.set_cons_succ, i64_w, i32_w]
                    rfl
                  refine one_ (i := 2) (N := some 57) #[true, true, true, true, true, true, true, true, false, false] rfl rfl (by kernel_rfl) (by decide) (fun K hK => ?_)
                  refine goes_ Try.func18 (by kernel_rfl) rfl #[.pointer (some ⟨gs, 0, none⟩), .int .i64 ((j : Int) + 1)] (by rfl) rfl rfl (by simp only [List.map_toArray, List.map_cons, List.map_nil]; rfl) ?_
                  with_reducible refine (rowP2_at (St.drew HSB.out) 1 rfl HG2.out ((j : Int) + 1)).mono ?_
                  rintro e w6 ⟨A6, c6, rfl, hc6, hC6, hB6, h6⟩
                  have HSC := Aside0.mk h6
                  have HRO := Aside0.mk (Kd.C_below (Kd.C_drew HCR.out.2) hB6)
                  have hcell := pw_cell_below (below_step (below_drew (Below.refl wr.heap.size wr)) hB6) HCELL.out
                  rw [rowN_at L2 hj16] at hc6 hC6 ⊢
                  have HC6 := Aside0.mk (And.intro hc6 hC6)
                  clear hc6 hC6 hB6 h6
                  refine ⟨_, rfl, ?_⟩
                  refine hK.out _ _ (hcell) (fun hHeld => ?_)
                  clear hK K
                  refine norm_ (a' := ?_) ?_ ?_
                  rotate_left
                  · show Act.put _ (some 57) _ = _
                    simp only [Act.put, List.setIfInBounds_toArray, List.set_cons_zero, List.set_cons_succ, i64_w, i32_w]
                    rfl
                  refine one_ (i := 8) (N := some 63) #[true, true, true, true, true, true, true, true, true, false] rfl rfl (by kernel_rfl) (by decide) (fun K hK => ?_)
                  refine goes_ Try.func22 (by kernel_rfl) rfl #[.slice A6 (L2.getD j []).length c6, .slice B ro.length cb] (by rfl) rfl rfl (by simp only [List.map_toArray, List.map_cons, List.map_nil]; rfl) ?_
                  with_reducible refine (Begins.calls A6 c6 (L2.getD j []) B cb ro _ HC6.out.2 HC6.out.1 HRO.out HCR.out.1 (by have := HG2.out.len j; omega)).mono ?_
                  rintro e w7_ ⟨rfl, ⟨n7, rfl⟩⟩
                  rw [decide_eq_true HBEG.out]
                  refine ⟨_, rfl, ?_⟩
                  refine hK.out _ _ ((pw_cell_below (pw_below_drewN (Below.refl _ _) _) hcell)) (fun hHeld => ?_)
                  clear hK K
                  refine norm_ (a' := ?_) ?_ ?_
                  rotate_left
                  · show Act.put _ (some 63) _ = _
                    simp only [Act.put, List.setIfInBounds_toArray, List.set_cons_zero, List.set_cons_succ, i64_w, i32_w]
                    rfl
                  refine pure_ (i := 9) (N := some 9) (v := ?_) (a' := ?_) #[true, true, true, true, true, true, true, true, true, true] rfl rfl (by kernel_rfl) (fun _ _ _ h => h) (Or.inl ⟨by rfl, ?_⟩) ?_ ?_
                  rotate_left
                  · intro w'
                    go_simp
                    with_reducible rfl
                  rotate_left
                  · simp only [Act.put, List.setIfInBounds_toArray, List.set_cons_zero, List.set_cons_succ, i64_w, i32_w]
                    rfl
                  refine done_ (by kernel_rfl) ?_
                  go_wp2_with fail
                  refine (rowP2_at (St.drewN HSC.out n7) 1 rfl HG2.out ((j : Int) + 1)).mono ?_
                  rintro e w8 ⟨A8, c8, rfl, hc8, hC8, hB8, h8⟩
                  rw [rowN_at L2 hj16]
                  have HST8 := Aside0.mk h8
                  have hlen := HG2.out.len j
                  obtain ⟨nl, enl⟩ : ∃ nl, (L2.getD j []).length = nl := ⟨_, rfl⟩
                  rw [enl] at hlen ⊢
                  have b4 : decide ((32 : Int) < (nl : Int)) = false := decide_eq_false (by omega)
                  have b5 : decide (32 < nl) = false := decide_eq_false (by omega)
                  clear h8 hc8 hC8 hB8 enl
                  go_wp2_with fail
                  go_roundw
                  case rel => exact ⟨j + 1, by omega, by simp, HST8⟩
                  case measure => simp [intOf]; omega
                · have ej : j = 16 := by omega
                  subst ej
                  have HST7 := Aside0.mk (St.drop (Rs := [Res.agree w Fo, PSet gs L2]) HSB.out)
                  clear hj hj16
                  go_wp2_with fail
                  go_roundw
                  case rel => exact ⟨i + 1, L2, by omega, by omega, by simp, HG2, HST7⟩
                  case measure => simp [intOf]; omega
            · have hk1b : (k == 1) = false := by simp [hk1]
              have HG2 := Aside0.mk (show Good (addL L d s) from HG.out.add d s)
              have HGR := Aside0.mk (addL_grows L d s)
              clear hk1
              go_wp2_with fail
              rw [← eb]
              obtain ⟨w3, e3⟩ : ∃ w3, w3 = w2.alloc (.cells #[.int .i64 k, .int .i64 d, .int .i64 s, .slice A3 kn.length c3, .slice A (cutM mo).length c] 33) := ⟨_, rfl⟩
              rw [← e3]
              have HST3 := Aside0.mk (show St w (fun _ => False) w3 [Res.agree w Fo, PSet gs L, Res.row (Kd.slice 3 (Kd.int .i64)) 30 (.slice (some ⟨g5, 0, none⟩) 16 c5) L, SEPB b k d s A3 kn.length c3 A c (cutM mo) w Fo] from box_state HSA.out HB2.out eb HR2.out e3)
              clear e3 eb HR2 HB2 HSA hk1b
              refine (addP_at HST3.out 1 rfl (by decide) HG.out d s).mono ?_
              rintro e w4 ⟨rfl, h4⟩
              obtain ⟨L2, eL⟩ : ∃ L2, addL L d s = L2 := ⟨_, rfl⟩
              rw [eL] at h4 HG2 HGR
              have HST4 := Aside0.mk (show St w (fun _ => False) w4 [Res.agree w Fo, PSet gs L2, Res.row (Kd.slice 3 (Kd.int .i64)) 30 (.slice (some ⟨g5, 0, none⟩) 16 c5) L, SEPB b k d s A3 kn.length c3 A c (cutM mo) w Fo] from h4)
              clear h4 eL HST3
              go_wp2_with fail
              have HST6 := Aside0.mk (show St w (fun _ => False) w4 [Res.agree w Fo, PSet gs L2, Res.row (Kd.slice 3 (Kd.int .i64)) 30 (.slice (some ⟨g5, 0, none⟩) 16 c5) L] from St.drop (Rs := [Res.agree w Fo, PSet gs L2, Res.row (Kd.slice 3 (Kd.int .i64)) 30 (.slice (some ⟨g5, 0, none⟩) 16 c5) L]) HST4.out)
              clear HST4
              go_loopw [8] (fun s8 wr => ∃ j : Nat, j ≤ 16 ∧ s8 = .int .i64 ((j : Int) + 1) ∧ Aside0 (St w (fun _ => False) wr [Res.agree w Fo, PSet gs L2, Res.row (Kd.slice 3 (Kd.int .i64)) 30 (.slice (some ⟨g5, 0, none⟩) 16 c5) L])) (fun s8 _ => (17 - (intOf s8).toNat))
              case atStart => exact ⟨0, by omega, rfl, HST6⟩
              case round =>
                obtain ⟨j, hj, rfl, HSB⟩ := hrel
                clear HST6
                by_cases hj16 : j < 16
                · obtain ⟨B, cb, hcell, hcb, hC⟩ := rowsrow_at HSB.out 2 rfl j (by rw [HG.out.1]; exact hj16)
                  obtain ⟨ro, ero⟩ : ∃ ro, L.getD j [] = ro := ⟨_, rfl⟩
                  rw [ero] at hcell hcb hC
                  have HBEG := Aside0.mk (show (L2.getD j []).take ro.length = ro by rw [← ero]; exact HGR.out j)
                  have HCR := Aside0.mk (And.intro hcb hC)
                  have HCELL := Aside0.mk hcell
                  have hwrap : wrap64 (j : Int) = (j : Int) := w64 (by omega) (by omega)
                  have hjn : (j : Int).toNat = j := Int.toNat_natCast j
                  have b1 : decide ((j : Int) + 1 ≤ 16) = true := decide_eq_true (by omega)
                  have hj0 : (0 : Int) ≤ (j : Int) := by omega
                  have hj1 : (j : Int) < 16 := by omega
                  clear hcell hcb hC ero
                  go_wp2_with fail
                  refine start_ (n := 10) (S := fun w' => w'.cell? ⟨g5, j, none⟩ = some (.slice B ro.length cb)) (ds := []) #[false, false, false, false, false, false, false, false, false, false] (by kernel_rfl) rfl rfl ((pw_cell_below (below_drew (Below.refl _ _)) HCELL.out)) (fun hHeld => ?_)
                  refine pure_ (i := 0) (N := some 55) (v := ?_) (a' := ?_) #[true, false, false, false, false, false, false, false, false, false] rfl rfl (by kernel_rfl) (fun _ _ _ h => h) (Or.inl ⟨by rfl, ?_⟩) ?_ ?_
                  rotate_left
                  · intro w'
                    go_simp
                    with_reducible rfl
                  rotate_left
                  · simp only [Act.put, List.setIfInBounds_toArray, List.set_cons_zero, List.set_cons_succ, i64_w, i32_w]
                    rfl
                  refine pure_ (i := 1) (N := some 56) (v := ?_) (a' := ?_) #[true, true, false, false, false, false, false, false, false, false] rfl rfl (by kernel_rfl) (fun _ _ _ h => h) (Or.inl ⟨by rfl, ?_⟩) ?_ ?_
                  rotate_left
                  · intro w'
                    go_simp
                    with_reducible rfl
                  rotate_left
                  · simp only [Act.put, List.setIfInBounds_toArray, List.set_cons_zero, List.set_cons_succ, i64_w, i32_w]
                    rfl
                  refine pure_ (i := 3) (N := some 58) (v := ?_) (a' := ?_) #[true, true, false, true, false, false, false, false, false, false] rfl rfl (by kernel_rfl) (fun _ _ _ h => h) (Or.inl ⟨by rfl, ?_⟩) ?_ ?_
                  rotate_left
                  · intro w'
                    go_simp
                    with_reducible rfl
                  rotate_left
                  · simp only [Act.put, List.setIfInBounds_toArray, List.set_cons_zero, List.set_cons_succ, i64_w, i32_w]
                    rfl
                  refine pure_ (i := 4) (N := some 59) (v := ?_) (a' := ?_) #[true, true, false, true, true, false, false, false, false, false] rfl rfl (by kernel_rfl) (fun _ _ _ h => h) (Or.inl ⟨by rfl, ?_⟩) ?_ ?_
                  rotate_left
                  · intro w'
                    go_simp
                    with_reducible rfl
                  rotate_left
                  · simp only [Act.put, List.setIfInBounds_toArray, List.set_cons_zero, List.set_cons_succ, i64_w, i32_w]
                    rfl
                  refine pure_ (i := 5) (N := some 60) (v := ?_) (a' := ?_) #[true, true, false, true, true, true, false, false, false, false] rfl rfl (by kernel_rfl) (fun _ _ _ h => h) (Or.inl ⟨by rfl, ?_⟩) ?_ ?_
                  rotate_left
                  · intro w'
                    go_simp
                    with_reducible rfl
                  rotate_left
                  · simp only [Act.put, List.setIfInBounds_toArray, List.set_cons_zero, List.set_cons_succ, i64_w, i32_w]
                    rfl
                  refine pure_ (i := 6) (N := some 61) (v := ?_) (a' := ?_) #[true, true, false, true, true, true, true, false, false, false] rfl rfl (by kernel_rfl) (fun _ _ _ h => h) (Or.inl ⟨by rfl, ?_⟩) ?_ ?_
                  rotate_left
                  · intro w'
                    go_simp
                    with_reducible rfl
                  rotate_left
                  · simp only [Act.put, List.setIfInBounds_toArray, List.set_cons_zero, List.set_cons_succ, i64_w, i32_w]
                    rfl
                  refine take_ (i := 7) (N := some 62) (v := ?_) (a' := ?_) #[true, true, false, true, true, true, true, true, false, false] rfl rfl (by kernel_rfl) (fun _ _ _ h => h) (Or.inl ⟨by rfl, ?_⟩) hHeld ?_ ?_
                  rotate_left
                  · intro w' s0
                    go_simp
                    with_reducible rfl
                  rotate_left
                  · simp only [Act.put, List.setIfInBounds_toArray, List.set_cons_zero, List.set_cons_succ, i64_w, i32_w]
                    rfl
                  refine one_ (i := 2) (N := some 57) #[true, true, true, true, true, true, true, true, false, false] rfl rfl (by kernel_rfl) (by decide) (fun K hK => ?_)
                  refine goes_ Try.func18 (by kernel_rfl) rfl #[.pointer (some ⟨gs, 0, none⟩), .int .i64 ((j : Int) + 1)] (by rfl) rfl rfl (by simp only [List.map_toArray, List.map_cons, List.map_nil]; rfl) ?_
                  with_reducible refine (rowP2_at (St.drew HSB.out) 1 rfl HG2.out ((j : Int) + 1)).mono ?_
                  rintro e w6 ⟨A6, c6, rfl, hc6, hC6, hB6, h6⟩
                  have HSC := Aside0.mk h6
                  have HRO := Aside0.mk (Kd.C_below (Kd.C_drew HCR.out.2) hB6)
                  have hcell := pw_cell_below (below_step (below_drew (Below.refl wr.heap.size wr)) hB6) HCELL.out
                  rw [rowN_at L2 hj16] at hc6 hC6 ⊢
                  have HC6 := Aside0.mk (And.intro hc6 hC6)
                  clear hc6 hC6 hB6 h6
                  refine ⟨_, rfl, ?_⟩
                  refine hK.out _ _ (hcell) (fun hHeld => ?_)
                  clear hK K
                  refine norm_ (a' := ?_) ?_ ?_
                  rotate_left
                  · show Act.put _ (some 57) _ = _
                    simp only [Act.put, List.setIfInBounds_toArray, List.set_cons_zero, List.set_cons_succ, i64_w, i32_w]
                    rfl
                  refine one_ (i := 8) (N := some 63) #[true, true, true, true, true, true, true, true, true, false] rfl rfl (by kernel_rfl) (by decide) (fun K hK => ?_)
                  refine goes_ Try.func22 (by kernel_rfl) rfl #[.slice A6 (L2.getD j []).length c6, .slice B ro.length cb] (by rfl) rfl rfl (by simp only [List.map_toArray, List.map_cons, List.map_nil]; rfl) ?_
                  with_reducible refine (Begins.calls A6 c6 (L2.getD j []) B cb ro _ HC6.out.2 HC6.out.1 HRO.out HCR.out.1 (by have := HG2.out.len j; omega)).mono ?_
                  rintro e w7_ ⟨rfl, ⟨n7, rfl⟩⟩
                  rw [decide_eq_true HBEG.out]
                  refine ⟨_, rfl, ?_⟩
                  refine hK.out _ _ ((pw_cell_below (pw_below_drewN (Below.refl _ _) _) hcell)) (fun hHeld => ?_)
                  clear hK K
                  refine norm_ (a' := ?_) ?_ ?_
                  rotate_left
                  · show Act.put _ (some 63) _ = _
                    simp only [Act.put, List.setIfInBounds_toArray, List.set_cons_zero, List.set_cons_succ, i64_w, i32_w]
                    rfl
                  refine pure_ (i := 9) (N := some 9) (v := ?_) (a' := ?_) #[true, true, true, true, true, true, true, true, true, true] rfl rfl (by kernel_rfl) (fun _ _ _ h => h) (Or.inl ⟨by rfl, ?_⟩) ?_ ?_
                  rotate_left
                  · intro w'
                    go_simp
                    with_reducible rfl
                  rotate_left
                  · simp only [Act.put, List.setIfInBounds_toArray, List.set_cons_zero, List.set_cons_succ, i64_w, i32_w]
                    rfl
                  refine done_ (by kernel_rfl) ?_
                  go_wp2_with fail
                  refine (rowP2_at (St.drewN HSC.out n7) 1 rfl HG2.out ((j : Int) + 1)).mono ?_
                  rintro e w8 ⟨A8, c8, rfl, hc8, hC8, hB8, h8⟩
                  rw [rowN_at L2 hj16]
                  have HST8 := Aside0.mk h8
                  have hlen := HG2.out.len j
                  obtain ⟨nl, enl⟩ : ∃ nl, (L2.getD j []).length = nl := ⟨_, rfl⟩
                  rw [enl] at hlen ⊢
                  have b4 : decide ((32 : Int) < (nl : Int)) = false := decide_eq_false (by omega)
                  have b5 : decide (32 < nl) = false := decide_eq_false (by omega)
                  clear h8 hc8 hC8 hB8 enl
                  go_wp2_with fail
                  go_roundw
                  case rel => exact ⟨j + 1, by omega, by simp, HST8⟩
                  case measure => simp [intOf]; omega
                · have ej : j = 16 := by omega
                  subst ej
                  have HST7 := Aside0.mk (St.drop (Rs := [Res.agree w Fo, PSet gs L2]) HSB.out)
                  clear hj hj16
                  go_wp2_with fail
                  go_roundw
                  case rel => exact ⟨i + 1, L2, by omega, by omega, by simp, HG2, HST7⟩
                  case measure => simp [intOf]; omega
      · have e60 : i = 60 := by omega
        subst e60
        have b1 : decide ((60 : Int) < (l0.length : Int)) = true := decide_eq_true (by omega)
        go_wp2_with fail
        refine (lives_at HSR.out).mono ?_
        rintro e w3 ⟨rfl, h3⟩
        have HST3 := Aside0.mk h3
        clear h3
        go_wp2_with fail
        go_ret
        exact ⟨rfl, HST3.out.below⟩
    · have en : i = l0.length := by omega
      subst en
      have b1 : decide ((l0.length : Int) < (l0.length : Int)) = false := decide_eq_false (by omega)
      clear hlt
      go_wp2_with fail
      refine (lives_at HSR.out).mono ?_
      rintro e w3 ⟨rfl, h3⟩
      have HST3 := Aside0.mk h3
      clear h3
      go_wp2_with fail
      go_ret
      exact ⟨rfl, HST3.out.below⟩
end Go.Proofs.Ytadkafhhkidecaa.P
