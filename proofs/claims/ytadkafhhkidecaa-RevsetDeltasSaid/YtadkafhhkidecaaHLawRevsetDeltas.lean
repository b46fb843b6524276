/- A law: what is told of a set is what the document's set tells. -/
import Derived.Test.YtadkafhhkidecaaHLaw11
set_option linter.unusedVariables false
set_option linter.unusedSimpArgs false
namespace Go.Proofs.Ytadkafhhkidecaa.P
open Go.RowKit Go.Proofs.YtadkafhhkidecaaW.PrintWords Go.Proofs.YtadkafhhkidecaaW.PrintLast Go.Proofs.YtadkafhhkidecaaW.PrintMore
set_option maxHeartbeats 8000000 in
set_option maxRecDepth 100000 in
theorem liverylaw11_RevsetDeltas.walk (A0 : Option Addr) (c0 : Nat) (l0 : List S33) (A1 : Option Addr) (c1 : Nat) (l1 : List Int) (w : World) (w0 : l0.length ≤ maxLen ∧ l0.length * 72 ≤ 140737488351232 ∧ ∀ x ∈ l0, q33 x) (hr0 : Kd.C k33 w A0 l0.length l0) (hc0 : l0.length ≤ c0) (w1 : l1.length ≤ maxLen ∧ l1.length * 8 ≤ 140737488351232 ∧ ∀ x ∈ l1, (Lit.int .i64 x).wf = true) (hr1 : Kd.C (Kd.int .i64) w A1 l1.length l1) (hc1 : l1.length ≤ c1) :
    Calls Try.prog 4 #[.slice A0 l0.length c0, .slice A1 l1.length c1] w fun e w' => e = .returned (.bool true) ∧ Below w.heap.size w w' := by
  obtain ⟨Fo, hF, hF1, hst⟩ := law_st2 hr0 hr1
  have HF := Aside0.mk hF
  have HST := Aside0.mk hst
  have hml := w0.2.1
  have hml1 := w1.2.1
  obtain ⟨kn, ekn⟩ : ∃ kn, l1.take 20 = kn := ⟨_, rfl⟩
  have HKF := Aside0.mk (show Kd.F (Kd.int .i64) w Fo A1 kn.length kn by rw [← ekn]; exact F_take20 hF1)
  have HKC := Aside0.mk (show kn.length ≤ c1 by rw [← ekn, List.length_take]; omega)
  have hkl : kn.length = if 20 < l1.length then 20 else l1.length := by rw [← ekn, List.length_take]; split <;> omega
  clear hF hF1 hst w0 hr0 hr1 w1 ekn
  by_cases h20 : 20 < l1.length
  · have b0 : decide ((20 : Int) < (l1.length : Int)) = true := decide_eq_true (by omega)
    have b0c : decide (20 < l1.length) = true := decide_eq_true h20
    have hcut := hcutT A1 l1.length c1 20 (by omega) hc1
    rw [if_pos h20] at hkl
    replace hcut : ∀ W : World, (Instr.slice 30 (.slice A1 l1.length c1) none (some (.int .i64 20)) none).run Try.prog W = .ok (.slice A1 kn.length c1) W := by rw [hkl]; exact hcut
    clear h20 hkl
    go_enter Try.func4, Try.ntmps4
    go_wp2_with fail
    clear hcut b0 b0c
    refine (newP_at HST.out).mono ?_
    rintro e w1 ⟨gs, rfl, h1⟩
    have HST1 := Aside0.mk h1
    clear h1
    go_wp2_with fail
    refine (newR_at HST1.out).mono ?_
    rintro e w2 ⟨gr, rfl, h2⟩
    have HST2 := Aside0.mk (show St w (fun _ => False) w2 [Res.agree w Fo, PSet gs lv0, RSet gr lv0] from h2)
    clear h2
    go_wp2_with fail
    go_loopw [7] (fun s7 wr => ∃ (i : Nat) (L : List (List Int)), i ≤ l0.length ∧ i ≤ 40 ∧ s7 = .int .i64 (i : Int) ∧ Aside0 (Good L) ∧ Aside0 (St w (fun _ => False) wr [Res.agree w Fo, PSet gs L, RSet gr L])) (fun s7 _ => (41 - (intOf s7).toNat))
    case atStart => exact ⟨0, lv0, by omega, by omega, rfl, ⟨lv0_good⟩, HST2⟩
    case round =>
      obtain ⟨i, L, hi, hi40, rfl, HG, HSR⟩ := hrel
      clear HST HST1 HST2
      by_cases hlt : i < l0.length
      · by_cases h40 : i < 40
        · have b1 : decide ((i : Int) < (l0.length : Int)) = true := decide_eq_true (by omega)
          have b2 : decide ((i : Int) < 40) = true := decide_eq_true (by omega)
          obtain ⟨ad, A3, c3, A4, c4, x, eA, hmem, hx0, hx1, hx2, hx3, hx4, l3, l4, g3, g4⟩ := deed_at HF.out i hlt
          subst eA
          obtain ⟨k, d, s, kn2, mo, e0, e1, e2, e3, e4⟩ : ∃ k d s kn2 mo, x.f0 = k ∧ x.f1.f0 = d ∧ x.f1.f1 = s ∧ x.f2 = kn2 ∧ x.f3 = mo := ⟨_, _, _, _, _, rfl, rfl, rfl, rfl, rfl⟩
          rw [e0] at hx0
          rw [e1] at hx1
          rw [e2] at hx2
          rw [e3] at hx3 l3 g3
          rw [e4] at hx4 l4 g4
          replace hx0 := pw_cell_below HSR.out.below hx0
          replace hx1 := pw_cell_below HSR.out.below hx1
          replace hx2 := pw_cell_below HSR.out.below hx2
          replace hx3 := pw_cell_below HSR.out.below hx3
          replace hx4 := pw_cell_below HSR.out.below hx4
          have HK := Aside0.mk (And.intro l3 g3)
          have HM := Aside0.mk (And.intro l4 g4)
          clear e0 e1 e2 e3 e4 hmem l3 l4 g3 g4
          go_wp2_with fail
          refine (does_at HSR.out HG.out k d s HK.out.1 HM.out.1 (reads2_F HK.out.2 HM.out.2)).mono ?_
          rintro e w3 ⟨rfl, h3⟩
          have HST3 := Aside0.mk h3
          have HG2 := Aside0.mk (HG.out.step k d s kn2 mo)
          obtain ⟨L2, eL⟩ : ∃ L2, stepL k d s kn2 mo L = L2 := ⟨_, rfl⟩
          rw [eL] at HST3 HG2
          clear h3 hx0 hx1 hx2 hx3 hx4 HSR HG eL
          go_wp2_with fail
          go_roundw
          case rel => exact ⟨i + 1, L2, by omega, by omega, by simp, HG2, HST3⟩
          case measure => simp [intOf]; omega
        · have e40 : i = 40 := by omega
          subst e40
          have b1 : decide ((40 : Int) < (l0.length : Int)) = true := decide_eq_true (by omega)
          go_wp2_with fail
          refine (deltas_at HSR.out 1 rfl HG.out (HKF.out wr (agree_of HSR.out)) HKC.out).mono ?_
          rintro e w3 ⟨A3, c3, rfl, hc3, hC3, hB3, h3⟩
          have HST3 := Aside0.mk h3
          have HC3 := Aside0.mk (And.intro hc3 hC3)
          clear h3 hc3 hC3 hB3
          go_wp2_with fail
          refine (deltasR_at HST3.out 2 rfl HG.out (HKF.out w3 (agree_of HST3.out)) HKC.out).mono ?_
          rintro e w4 ⟨A4, c4, rfl, hc4, hC4, hB4, h4⟩
          have HST4 := Aside0.mk h4
          have HC4 := Aside0.mk (And.intro hc4 hC4)
          have HC3b := Aside0.mk (Kd.C_below HC3.out.2 hB4)
          clear h4 hc4 hC4 hB4
          go_wp2_with fail
          refine (SameRows.self A3 c3 A4 c4 (deltaS L kn) w4 HC3b.out HC3.out.1 HC4.out.2 HC4.out.1 (by have := deltaS_len L kn; omega) (fun r hr => by have := deltaS_rows HG.out kn r hr; omega)).mono ?_
          rintro e w5_ ⟨rfl, ⟨n5, rfl⟩⟩
          obtain ⟨w5, e5⟩ : ∃ w5, w5 = World.drewN w4 n5 := ⟨_, rfl⟩
          rw [← e5]
          have HST5 := Aside0.mk (St.on (W' := w5) HST4.out (by rw [e5]; exact pw_below_drewN (Below.refl _ _) _))
          clear e5 HC3 HC3b HC4 HST4 HST3 HSR
          go_wp2_with fail
          refine (lives_at HST5.out).mono ?_
          rintro e w6 ⟨rfl, h6⟩
          have HST6 := Aside0.mk h6
          clear h6
          go_wp2_with fail
          go_ret
          exact ⟨rfl, HST6.out.below⟩
      · have en : i = l0.length := by omega
        subst en
        have b1 : decide ((l0.length : Int) < (l0.length : Int)) = false := decide_eq_false (by omega)
        go_wp2_with fail
        refine (deltas_at HSR.out 1 rfl HG.out (HKF.out wr (agree_of HSR.out)) HKC.out).mono ?_
        rintro e w3 ⟨A3, c3, rfl, hc3, hC3, hB3, h3⟩
        have HST3 := Aside0.mk h3
        have HC3 := Aside0.mk (And.intro hc3 hC3)
        clear h3 hc3 hC3 hB3
        go_wp2_with fail
        refine (deltasR_at HST3.out 2 rfl HG.out (HKF.out w3 (agree_of HST3.out)) HKC.out).mono ?_
        rintro e w4 ⟨A4, c4, rfl, hc4, hC4, hB4, h4⟩
        have HST4 := Aside0.mk h4
        have HC4 := Aside0.mk (And.intro hc4 hC4)
        have HC3b := Aside0.mk (Kd.C_below HC3.out.2 hB4)
        clear h4 hc4 hC4 hB4
        go_wp2_with fail
        refine (SameRows.self A3 c3 A4 c4 (deltaS L kn) w4 HC3b.out HC3.out.1 HC4.out.2 HC4.out.1 (by have := deltaS_len L kn; omega) (fun r hr => by have := deltaS_rows HG.out kn r hr; omega)).mono ?_
        rintro e w5_ ⟨rfl, ⟨n5, rfl⟩⟩
        obtain ⟨w5, e5⟩ : ∃ w5, w5 = World.drewN w4 n5 := ⟨_, rfl⟩
        rw [← e5]
        have HST5 := Aside0.mk (St.on (W' := w5) HST4.out (by rw [e5]; exact pw_below_drewN (Below.refl _ _) _))
        clear e5 HC3 HC3b HC4 HST4 HST3 HSR
        go_wp2_with fail
        refine (lives_at HST5.out).mono ?_
        rintro e w6 ⟨rfl, h6⟩
        have HST6 := Aside0.mk h6
        clear h6
        go_wp2_with fail
        go_ret
        exact ⟨rfl, HST6.out.below⟩
  · rw [if_neg h20] at hkl
    have b0 : decide ((20 : Int) < (l1.length : Int)) = false := decide_eq_false (by omega)
    have b0c : decide (20 < l1.length) = false := decide_eq_false h20
    rw [← hkl] at b0 b0c hc1 hml1 ⊢
    clear h20 hkl
    go_enter Try.func4, Try.ntmps4
    go_wp2_with fail
    clear b0 b0c
    refine (newP_at HST.out).mono ?_
    rintro e w1 ⟨gs, rfl, h1⟩
    have HST1 := Aside0.mk h1
    clear h1
    go_wp2_with fail
    refine (newR_at HST1.out).mono ?_
    rintro e w2 ⟨gr, rfl, h2⟩
    have HST2 := Aside0.mk (show St w (fun _ => False) w2 [Res.agree w Fo, PSet gs lv0, RSet gr lv0] from h2)
    clear h2
    go_wp2_with fail
    go_loopw [7] (fun s7 wr => ∃ (i : Nat) (L : List (List Int)), i ≤ l0.length ∧ i ≤ 40 ∧ s7 = .int .i64 (i : Int) ∧ Aside0 (Good L) ∧ Aside0 (St w (fun _ => False) wr [Res.agree w Fo, PSet gs L, RSet gr L])) (fun s7 _ => (41 - (intOf s7).toNat))
    case atStart => exact ⟨0, lv0, by omega, by omega, rfl, ⟨lv0_good⟩, HST2⟩
    case round =>
      obtain ⟨i, L, hi, hi40, rfl, HG, HSR⟩ := hrel
      clear HST HST1 HST2
      by_cases hlt : i < l0.length
      · by_cases h40 : i < 40
        · have b1 : decide ((i : Int) < (l0.length : Int)) = true := decide_eq_true (by omega)
          have b2 : decide ((i : Int) < 40) = true := decide_eq_true (by omega)
          obtain ⟨ad, A3, c3, A4, c4, x, eA, hmem, hx0, hx1, hx2, hx3, hx4, l3, l4, g3, g4⟩ := deed_at HF.out i hlt
          subst eA
          obtain ⟨k, d, s, kn2, mo, e0, e1, e2, e3, e4⟩ : ∃ k d s kn2 mo, x.f0 = k ∧ x.f1.f0 = d ∧ x.f1.f1 = s ∧ x.f2 = kn2 ∧ x.f3 = mo := ⟨_, _, _, _, _, rfl, rfl, rfl, rfl, rfl⟩
          rw [e0] at hx0
          rw [e1] at hx1
          rw [e2] at hx2
          rw [e3] at hx3 l3 g3
          rw [e4] at hx4 l4 g4
          replace hx0 := pw_cell_below HSR.out.below hx0
          replace hx1 := pw_cell_below HSR.out.below hx1
          replace hx2 := pw_cell_below HSR.out.below hx2
          replace hx3 := pw_cell_below HSR.out.below hx3
          replace hx4 := pw_cell_below HSR.out.below hx4
          have HK := Aside0.mk (And.intro l3 g3)
          have HM := Aside0.mk (And.intro l4 g4)
          clear e0 e1 e2 e3 e4 hmem l3 l4 g3 g4
          go_wp2_with fail
          refine (does_at HSR.out HG.out k d s HK.out.1 HM.out.1 (reads2_F HK.out.2 HM.out.2)).mono ?_
          rintro e w3 ⟨rfl, h3⟩
          have HST3 := Aside0.mk h3
          have HG2 := Aside0.mk (HG.out.step k d s kn2 mo)
          obtain ⟨L2, eL⟩ : ∃ L2, stepL k d s kn2 mo L = L2 := ⟨_, rfl⟩
          rw [eL] at HST3 HG2
          clear h3 hx0 hx1 hx2 hx3 hx4 HSR HG eL
          go_wp2_with fail
          go_roundw
          case rel => exact ⟨i + 1, L2, by omega, by omega, by simp, HG2, HST3⟩
          case measure => simp [intOf]; omega
        · have e40 : i = 40 := by omega
          subst e40
          have b1 : decide ((40 : Int) < (l0.length : Int)) = true := decide_eq_true (by omega)
          go_wp2_with fail
          refine (deltas_at HSR.out 1 rfl HG.out (HKF.out wr (agree_of HSR.out)) HKC.out).mono ?_
          rintro e w3 ⟨A3, c3, rfl, hc3, hC3, hB3, h3⟩
          have HST3 := Aside0.mk h3
          have HC3 := Aside0.mk (And.intro hc3 hC3)
          clear h3 hc3 hC3 hB3
          go_wp2_with fail
          refine (deltasR_at HST3.out 2 rfl HG.out (HKF.out w3 (agree_of HST3.out)) HKC.out).mono ?_
          rintro e w4 ⟨A4, c4, rfl, hc4, hC4, hB4, h4⟩
          have HST4 := Aside0.mk h4
          have HC4 := Aside0.mk (And.intro hc4 hC4)
          have HC3b := Aside0.mk (Kd.C_below HC3.out.2 hB4)
          clear h4 hc4 hC4 hB4
          go_wp2_with fail
          refine (SameRows.self A3 c3 A4 c4 (deltaS L kn) w4 HC3b.out HC3.out.1 HC4.out.2 HC4.out.1 (by have := deltaS_len L kn; omega) (fun r hr => by have := deltaS_rows HG.out kn r hr; omega)).mono ?_
          rintro e w5_ ⟨rfl, ⟨n5, rfl⟩⟩
          obtain ⟨w5, e5⟩ : ∃ w5, w5 = World.drewN w4 n5 := ⟨_, rfl⟩
          rw [← e5]
          have HST5 := Aside0.mk (St.on (W' := w5) HST4.out (by rw [e5]; exact pw_below_drewN (Below.refl _ _) _))
          clear e5 HC3 HC3b HC4 HST4 HST3 HSR
          go_wp2_with fail
          refine (lives_at HST5.out).mono ?_
          rintro e w6 ⟨rfl, h6⟩
          have HST6 := Aside0.mk h6
          clear h6
          go_wp2_with fail
          go_ret
          exact ⟨rfl, HST6.out.below⟩
      · have en : i = l0.length := by omega
        subst en
        have b1 : decide ((l0.length : Int) < (l0.length : Int)) = false := decide_eq_false (by omega)
        go_wp2_with fail
        refine (deltas_at HSR.out 1 rfl HG.out (HKF.out wr (agree_of HSR.out)) HKC.out).mono ?_
        rintro e w3 ⟨A3, c3, rfl, hc3, hC3, hB3, h3⟩
        have HST3 := Aside0.mk h3
        have HC3 := Aside0.mk (And.intro hc3 hC3)
        clear h3 hc3 hC3 hB3
        go_wp2_with fail
        refine (deltasR_at HST3.out 2 rfl HG.out (HKF.out w3 (agree_of HST3.out)) HKC.out).mono ?_
        rintro e w4 ⟨A4, c4, rfl, hc4, hC4, hB4, h4⟩
        have HST4 := Aside0.mk h4
        have HC4 := Aside0.mk (And.intro hc4 hC4)
        have HC3b := Aside0.mk (Kd.C_below HC3.out.2 hB4)
        clear h4 hc4 hC4 hB4
        go_wp2_with fail
        refine (SameRows.self A3 c3 A4 c4 (deltaS L kn) w4 HC3b.out HC3.out.1 HC4.out.2 HC4.out.1 (by have := deltaS_len L kn; omega) (fun r hr => by have := deltaS_rows HG.out kn r hr; omega)).mono ?_
        rintro e w5_ ⟨rfl, ⟨n5, rfl⟩⟩
        obtain ⟨w5, e5⟩ : ∃ w5, w5 = World.drewN w4 n5 := ⟨_, rfl⟩
        rw [← e5]
        have HST5 := Aside0.mk (St.on (W' := w5) HST4.out (by rw [e5]; exact pw_below_drewN (Below.refl _ _) _))
        clear e5 HC3 HC3b HC4 HST4 HST3 HSR
        go_wp2_with fail
        refine (lives_at HST5.out).mono ?_
        rintro e w6 ⟨rfl, h6⟩
        have HST6 := Aside0.mk h6
        clear h6
        go_wp2_with fail
        go_ret
        exact ⟨rfl, HST6.out.below⟩
end Go.Proofs.Ytadkafhhkidecaa.P
