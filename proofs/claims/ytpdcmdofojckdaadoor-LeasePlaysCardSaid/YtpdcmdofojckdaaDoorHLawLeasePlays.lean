/- A law: the book and the document's book play alike. -/
import Derived.Test.YtpdcmdofojckdaaDoorHLaws13
set_option linter.unusedVariables false
set_option linter.unusedSimpArgs false
namespace Go.Proofs.YtpdcmdofojckdaaDoor.P
open Go.RowKit Go.Proofs.YtpdcmdofojckdaaDoor.Pure Go.Proofs.YtpdcmdofojckdaaDoorW.PrintWords Go.Proofs.YtpdcmdofojckdaaDoorW.PrintLast Go.Proofs.YtpdcmdofojckdaaDoorW.PrintMore
set_option maxHeartbeats 16000000 in
set_option maxRecDepth 100000 in
theorem liverylaw13_LeasePlays.walk (a0 : Int) (A1 : Option Addr) (c1 : Nat) (l1 : List S29) (a2 : Int) (A3 : Option Addr) (c3 : Nat) (l3 : List S36) (w : World) (w0 : (Lit.int .i64 a0).wf = true) (w1 : (l1.length ≤ maxLen ∧ l1.length * 48 ≤ 140737488351232 ∧ ∀ y0 ∈ l1, q29 y0)) (hr1 : Kd.C k29 w A1 l1.length l1) (hc1 : l1.length ≤ c1) (w2 : (Lit.int .i64 a2).wf = true) (w3 : (l3.length ≤ maxLen ∧ l3.length * 16 ≤ 140737488351232 ∧ ∀ y0 ∈ l3, q36 y0)) (hr3 : Kd.C k36 w A3 l3.length l3) (hc3 : l3.length ≤ c3) :
    Calls Tryd.prog 6 #[.int .i64 a0, .slice A1 l1.length c1, .int .i64 a2, .slice A3 l3.length c3] w fun e w' => e = .returned (.bool true) ∧ Below w.heap.size w w' := by
  have f1 := Kd.C_F heapD hr1
  have f2 := Kd.C_F heapI hr3
  obtain ⟨Fo, hF, hst⟩ := law_stQ (w := w) (Q := fun W => Kd.C k29 W A1 l1.length l1 ∧ Kd.C k36 W A3 l3.length l3) (fun W' hW => ⟨f1 W' hW, f2 W' hW⟩)
  have HD := Aside0.mk (show FD w Fo A1 l1 from Foot.imp hF (fun _ h => h.1))
  have HID := Aside0.mk (show Kd.F k36 w Fo A3 l3.length l3 from Foot.imp hF (fun _ h => h.2))
  have HST := Aside0.mk hst
  have HFW := Aside0.mk (few13.calls A3 c3 l3 w hc3)
  have hml := w1.1
  clear f1 f2 hF hst w1 w2 w3 w0 hr1 hr3
  obtain ⟨ids, eids⟩ : ∃ ids, l3.take 20 = ids := ⟨_, rfl⟩
  have HIC := Aside0.mk (show ∀ W', Agree w Fo W' → k36.C W' A3 ids.length ids from fun W' h => by
    rw [← eids]
    by_cases h20 : 20 ≤ l3.length
    · exact Kd.C_take (HID.out W' h) h20
    · rw [List.take_of_length_le (by omega)]; exact HID.out W' h)
  have HIL := Aside0.mk (show ids.length ≤ c3 ∧ ids.length ≤ 1000 by rw [← eids, List.length_take]; omega)
  rw [eids] at HFW
  clear eids
  obtain ⟨ni, eni⟩ : ∃ ni, ids.length = ni := ⟨_, rfl⟩
  rw [eni] at HFW
  have HNI := Aside0.mk eni
  clear eni
  have hu := Tryd.underlying29
  go_enter Tryd.func6, Tryd.ntmps6
  go_wp2_with fail
  refine HFW.out.mono ?_
  rintro e wz ⟨rfl, rfl⟩
  clear HFW
  by_cases ho : 1 ≤ a0 ∧ a0 ≤ 16
  · have o1 : decide (1 ≤ a0) = true := decide_eq_true ho.1
    have o2 : decide (a0 ≤ 16) = true := decide_eq_true ho.2
    have HO := Aside0.mk ho
    clear ho
    go_wp2_with fail
    refine (newP_at HST.out a0 HO.out).mono ?_
    rintro e w1 ⟨gp, rfl, h1⟩
    have HST1 := Aside0.mk (show St wz (fun _ => False) w1 [Res.agree wz Fo, PBook gp (bk0 a0)] from h1)
    clear h1
    go_wp2_with fail
    obtain ⟨gr, egr⟩ : ∃ gr, gr = w1.heap.size := ⟨_, rfl⟩
    have h2 := boxR_at HST1.out a0
    rw [← egr] at h2 ⊢
    have HST2 := Aside0.mk (show St wz (fun _ => False) (w1.alloc (.cells #[.int .i64 a0, .slice none 0 0, .slice none 0 0] 47)) [Res.agree wz Fo, PBook gp (bk0 a0), RBook gr (bk0 a0)] from h2)
    clear h2 egr HST1
    go_loopw [11] (fun s11 wr => ∃ (i : Nat) (B : Bk), i ≤ l1.length ∧ i ≤ 20 ∧ s11 = .int .i64 (i : Int) ∧ Aside0 (Good13 B) ∧ Aside0 (St wz (fun _ => False) wr [Res.agree wz Fo, PBook gp B, RBook gr B])) (fun s11 _ => (21 - (intOf s11).toNat))
    case atStart => exact ⟨0, bk0 a0, by omega, by omega, rfl, ⟨good0 HO.out⟩, HST2⟩
    case round =>
      obtain ⟨i, B, hi, hi20, rfl, HG, HSR⟩ := hrel
      clear HST HST2
      by_cases hgo : i < l1.length ∧ i < 20
      · obtain ⟨hlt, h20⟩ := hgo
        have b1 : decide ((i : Int) < (l1.length : Int)) = true := decide_eq_true (by omega)
        have b2 : decide ((i : Int) < 20) = true := decide_eq_true (by omega)
        have b3 : decide (i < l1.length) = true := decide_eq_true hlt
        obtain ⟨ad, A4, c4, x, eA, hmem, hx0, hx1, hx2, hx3, l4, g4⟩ := deed_at HD.out i hlt
        subst eA
        obtain ⟨k, d, s, l, e0, e1, e2, e3⟩ : ∃ k d s l, x.f0 = k ∧ x.f1 = d ∧ x.f2 = s ∧ x.f3 = l := ⟨_, _, _, _, rfl, rfl, rfl, rfl⟩
        rw [e0] at hx0
        rw [e1] at hx1
        rw [e2] at hx2
        rw [e3] at hx3 l4 g4
        replace hx0 := pw_cell_below HSR.out.below hx0
        replace hx1 := pw_cell_below HSR.out.below hx1
        replace hx2 := pw_cell_below HSR.out.below hx2
        replace hx3 := pw_cell_below HSR.out.below hx3
        have HK := Aside0.mk (And.intro l4 g4)
        clear e0 e1 e2 e3 hmem l4 g4
        go_wp2_with fail
        refine (does_at HSR.out 1 2 rfl rfl (by decide) (by decide) (by decide) HG.out k d s HK.out.1 (fun W' hW => (hW 0 _ (by decide) (by decide) rfl).elim fun ok hp => HK.out.2 W' hp.2)).mono ?_
        rintro e w3 ⟨rfl, h3⟩
        have HST3 := Aside0.mk (show St wz (fun _ => False) w3 [Res.agree wz Fo, PBook gp (stepB k d s l B), RBook gr (stepB k d s l B)] from h3)
        have HG2 := Aside0.mk (HG.out.step k d s l)
        obtain ⟨B2, eB⟩ : ∃ B2, stepB k d s l B = B2 := ⟨_, rfl⟩
        rw [eB] at HST3 HG2
        clear h3 hx0 hx1 hx2 hx3 HSR HG eB
        have HLL := Aside0.mk (heldL_length HG2.out a2)
        obtain ⟨L, eL⟩ : ∃ L, heldL B2 a2 = L := ⟨_, rfl⟩
        have HP := Aside0.mk (heldP_at HST3.out 1 rfl HG2.out a2)
        rw [eL] at HP HLL
        go_wp2_with fail
        refine HP.out.mono ?_
        rintro e w4 ⟨A5, c5, rfl, hc5, hC5, h4⟩
        have HST4 := Aside0.mk (show St wz (fun _ => False) w4 [Res.agree wz Fo, PBook gp B2, RBook gr B2, Res.row k42 42 (.slice A5 L.length c5) L] from h4)
        have HR := Aside0.mk (heldR_at HST4.out 2 rfl HG2.out a2)
        rw [eL] at HR
        clear h4 hC5 HP HST3
        go_wp2_with fail
        refine HR.out.mono ?_
        rintro e w5 ⟨A6, c6, rfl, hc6, hC6, h5⟩
        have HST5 := Aside0.mk (show St wz (fun _ => False) w5 [Res.agree wz Fo, PBook gp B2, RBook gr B2, Res.row k42 42 (.slice A5 L.length c5) L, Res.row k42 42 (.slice A6 L.length c6) L] from h5)
        have HSM := Aside0.mk (same_at HST5.out (row_C HST5.out 3 rfl) hC6 hc5 hc6 (by have := HLL.out; omega))
        clear h5 hC6 HR HST4 eL
        go_wp2_with fail
        refine HSM.out.mono ?_
        rintro e w6 ⟨rfl, h6⟩
        have HST6 := Aside0.mk (less3 h6)
        clear h6 HSM HST5
        go_wp2_with fail
        go_roundw
        case rel => exact ⟨i + 1, B2, by omega, by omega, by simp, HG2, HST6⟩
        case measure => simp [intOf]; omega
      · by_cases hlt : i < l1.length
        · have e20 : i = 20 := by omega
          subst e20
          have b1 : decide ((20 : Int) < (l1.length : Int)) = true := decide_eq_true (by omega)
          clear hgo
          obtain ⟨R, eR⟩ : ∃ R, untilR B ids a2 = R := ⟨_, rfl⟩
          obtain ⟨sb, esb⟩ : ∃ sb, staleB B ids a2 = sb := ⟨_, rfl⟩
          have HUP := Aside0.mk (fun (W : World) (Rs : List Res) (h : St wz (fun _ => False) W (Res.agree wz Fo :: Rs)) (j : Nat) (hj : (Res.agree wz Fo :: Rs)[j]? = some (PBook gp B)) => untilP_at h j hj HG.out a2 (HIC.out _ (agree_of h)) HIL.out.1 HIL.out.2)
          have HUR := Aside0.mk (fun (W : World) (Rs : List Res) (h : St wz (fun _ => False) W (Res.agree wz Fo :: Rs)) (j : Nat) (hj : (Res.agree wz Fo :: Rs)[j]? = some (RBook gr B)) => untilR_at h j hj HG.out a2 (HIC.out _ (agree_of h)) HIL.out.1 HIL.out.2)
          have HSP := Aside0.mk (fun (W : World) (Rs : List Res) (h : St wz (fun _ => False) W (Res.agree wz Fo :: Rs)) (j : Nat) (hj : (Res.agree wz Fo :: Rs)[j]? = some (PBook gp B)) => staleP_at h j hj HG.out a2 (HIC.out _ (agree_of h)) HIL.out.1 HIL.out.2)
          have HSQ := Aside0.mk (fun (W : World) (Rs : List Res) (h : St wz (fun _ => False) W (Res.agree wz Fo :: Rs)) (j : Nat) (hj : (Res.agree wz Fo :: Rs)[j]? = some (RBook gr B)) => staleR_at h j hj a2 (HIC.out _ (agree_of h)) HIL.out.1 HIL.out.2)
          rw [eR, HNI.out] at HUP HUR
          rw [esb, HNI.out] at HSP HSQ
          clear eR esb
          go_wp2_with fail
          refine (HUP.out _ _ HSR.out 1 rfl).mono ?_
          rintro e w3 ⟨rfl, h3⟩
          have HST3 := Aside0.mk h3
          clear h3
          go_wp2_with fail
          refine (HUR.out _ _ HST3.out 2 rfl).mono ?_
          rintro e w4 ⟨rfl, h4⟩
          have HST4 := Aside0.mk h4
          clear h4 HST3
          go_wp2_with fail
          go_loopw [18] (fun s18 wr => ∃ q : Nat, q ≤ 18 ∧ s18 = .int .i64 (q : Int) ∧ Aside0 (St wz (fun _ => False) wr [Res.agree wz Fo, PBook gp B, RBook gr B])) (fun s18 _ => (18 - (intOf s18).toNat))
          case atStart => exact ⟨0, by omega, rfl, HST4⟩
          case round =>
            obtain ⟨q, hq, rfl, HSQR⟩ := hrel
            clear HST4 HSR
            by_cases hql : q < 18
            · have c1 : decide ((q : Int) ≤ 17) = true := decide_eq_true (by omega)
              have HF1 := Aside0.mk (freshP_at HSQR.out 1 rfl HG.out (q : Int) a2)
              obtain ⟨t, et⟩ : ∃ t, freshB B (q : Int) a2 = t := ⟨_, rfl⟩
              rw [et] at HF1
              go_wp2_with fail
              refine HF1.out.mono ?_
              rintro e w5 ⟨rfl, h5⟩
              have HF2 := Aside0.mk (freshR_at h5 2 rfl (q : Int) a2)
              rw [et] at HF2
              clear h5 HF1 et HSQR
              go_wp2_with fail
              refine HF2.out.mono ?_
              rintro e w6 ⟨rfl, h6⟩
              have HST6 := Aside0.mk h6
              have tt : (t != t) = false := by cases t <;> rfl
              clear h6 HF2
              go_wp2_with fail
              go_roundw
              case rel => exact ⟨q + 1, by omega, by simp, HST6⟩
              case measure => simp [intOf]; omega
            · have c1 : decide ((q : Int) ≤ 17) = false := decide_eq_false (by omega)
              go_wp2_with fail
              refine (HSP.out _ _ HSQR.out 1 rfl).mono ?_
              rintro e w5 ⟨rfl, h5⟩
              have HST5 := Aside0.mk h5
              clear h5 HSQR
              go_wp2_with fail
              refine (HSQ.out _ _ HST5.out 2 rfl).mono ?_
              rintro e w6 ⟨rfl, h6⟩
              have HST6 := Aside0.mk h6
              have tt : (sb == sb) = true := by cases sb <;> rfl
              clear h6 HST5
              go_wp2_with fail
              refine (lives_at HST6.out).mono ?_
              rintro e w7 ⟨rfl, h7⟩
              have HST7 := Aside0.mk h7
              clear h7
              go_wp2_with fail
              go_ret
              exact ⟨rfl, HST7.out.below⟩
        · have b1 : decide ((i : Int) < (l1.length : Int)) = false := decide_eq_false (by omega)
          clear hgo
          obtain ⟨R, eR⟩ : ∃ R, untilR B ids a2 = R := ⟨_, rfl⟩
          obtain ⟨sb, esb⟩ : ∃ sb, staleB B ids a2 = sb := ⟨_, rfl⟩
          have HUP := Aside0.mk (fun (W : World) (Rs : List Res) (h : St wz (fun _ => False) W (Res.agree wz Fo :: Rs)) (j : Nat) (hj : (Res.agree wz Fo :: Rs)[j]? = some (PBook gp B)) => untilP_at h j hj HG.out a2 (HIC.out _ (agree_of h)) HIL.out.1 HIL.out.2)
          have HUR := Aside0.mk (fun (W : World) (Rs : List Res) (h : St wz (fun _ => False) W (Res.agree wz Fo :: Rs)) (j : Nat) (hj : (Res.agree wz Fo :: Rs)[j]? = some (RBook gr B)) => untilR_at h j hj HG.out a2 (HIC.out _ (agree_of h)) HIL.out.1 HIL.out.2)
          have HSP := Aside0.mk (fun (W : World) (Rs : List Res) (h : St wz (fun _ => False) W (Res.agree wz Fo :: Rs)) (j : Nat) (hj : (Res.agree wz Fo :: Rs)[j]? = some (PBook gp B)) => staleP_at h j hj HG.out a2 (HIC.out _ (agree_of h)) HIL.out.1 HIL.out.2)
          have HSQ := Aside0.mk (fun (W : World) (Rs : List Res) (h : St wz (fun _ => False) W (Res.agree wz Fo :: Rs)) (j : Nat) (hj : (Res.agree wz Fo :: Rs)[j]? = some (RBook gr B)) => staleR_at h j hj a2 (HIC.out _ (agree_of h)) HIL.out.1 HIL.out.2)
          rw [eR, HNI.out] at HUP HUR
          rw [esb, HNI.out] at HSP HSQ
          clear eR esb
          go_wp2_with fail
          refine (HUP.out _ _ HSR.out 1 rfl).mono ?_
          rintro e w3 ⟨rfl, h3⟩
          have HST3 := Aside0.mk h3
          clear h3
          go_wp2_with fail
          refine (HUR.out _ _ HST3.out 2 rfl).mono ?_
          rintro e w4 ⟨rfl, h4⟩
          have HST4 := Aside0.mk h4
          clear h4 HST3
          go_wp2_with fail
          go_loopw [18] (fun s18 wr => ∃ q : Nat, q ≤ 18 ∧ s18 = .int .i64 (q : Int) ∧ Aside0 (St wz (fun _ => False) wr [Res.agree wz Fo, PBook gp B, RBook gr B])) (fun s18 _ => (18 - (intOf s18).toNat))
          case atStart => exact ⟨0, by omega, rfl, HST4⟩
          case round =>
            obtain ⟨q, hq, rfl, HSQR⟩ := hrel
            clear HST4 HSR
            by_cases hql : q < 18
            · have c1 : decide ((q : Int) ≤ 17) = true := decide_eq_true (by omega)
              have HF1 := Aside0.mk (freshP_at HSQR.out 1 rfl HG.out (q : Int) a2)
              obtain ⟨t, et⟩ : ∃ t, freshB B (q : Int) a2 = t := ⟨_, rfl⟩
              rw [et] at HF1
              go_wp2_with fail
              refine HF1.out.mono ?_
              rintro e w5 ⟨rfl, h5⟩
              have HF2 := Aside0.mk (freshR_at h5 2 rfl (q : Int) a2)
              rw [et] at HF2
              clear h5 HF1 et HSQR
              go_wp2_with fail
              refine HF2.out.mono ?_
              rintro e w6 ⟨rfl, h6⟩
              have HST6 := Aside0.mk h6
              have tt : (t != t) = false := by cases t <;> rfl
              clear h6 HF2
              go_wp2_with fail
              go_roundw
              case rel => exact ⟨q + 1, by omega, by simp, HST6⟩
              case measure => simp [intOf]; omega
            · have c1 : decide ((q : Int) ≤ 17) = false := decide_eq_false (by omega)
              go_wp2_with fail
              refine (HSP.out _ _ HSQR.out 1 rfl).mono ?_
              rintro e w5 ⟨rfl, h5⟩
              have HST5 := Aside0.mk h5
              clear h5 HSQR
              go_wp2_with fail
              refine (HSQ.out _ _ HST5.out 2 rfl).mono ?_
              rintro e w6 ⟨rfl, h6⟩
              have HST6 := Aside0.mk h6
              have tt : (sb == sb) = true := by cases sb <;> rfl
              clear h6 HST5
              go_wp2_with fail
              refine (lives_at HST6.out).mono ?_
              rintro e w7 ⟨rfl, h7⟩
              have HST7 := Aside0.mk h7
              clear h7
              go_wp2_with fail
              go_ret
              exact ⟨rfl, HST7.out.below⟩
  · have HN := Aside0.mk (newP_no HST.out a0 ho)
    by_cases o1 : 1 ≤ a0
    · have o1b : decide (1 ≤ a0) = true := decide_eq_true o1
      have o2b : decide (a0 ≤ 16) = false := decide_eq_false (by omega)
      clear o1 ho
      go_wp2_with fail
      refine HN.out.mono ?_
      rintro e w1 ⟨rfl, h1⟩
      have HST1 := Aside0.mk h1
      clear h1
      go_wp2_with fail
      refine (lives_at HST1.out).mono ?_
      rintro e w7 ⟨rfl, h7⟩
      have HST7 := Aside0.mk h7
      clear h7
      go_wp2_with fail
      go_ret
      exact ⟨rfl, HST7.out.below⟩
    · have o1b : decide (1 ≤ a0) = false := decide_eq_false o1
      clear o1 ho
      go_wp2_with fail
      refine HN.out.mono ?_
      rintro e w1 ⟨rfl, h1⟩
      have HST1 := Aside0.mk h1
      clear h1
      go_wp2_with fail
      refine (lives_at HST1.out).mono ?_
      rintro e w7 ⟨rfl, h7⟩
      have HST7 := Aside0.mk h7
      clear h7
      go_wp2_with fail
      go_ret
      exact ⟨rfl, HST7.out.below⟩
end Go.Proofs.YtpdcmdofojckdaaDoor.P
