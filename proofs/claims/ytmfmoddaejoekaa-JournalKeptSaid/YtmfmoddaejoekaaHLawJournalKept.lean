/- A law: in one stroke. -/
import Derived.Test.YtmfmoddaejoekaaHLaws17
import Derived.Test.YtmfmoddaejoekaaR17i
import Derived.Deep.DeepCutAuto
import Derived.Deep.LoopGhost
set_option linter.unusedVariables false
set_option linter.unusedSimpArgs false
namespace Go.Proofs.Ytmfmoddaejoekaa.P
open Go.RowKit Go.Proofs.YtmfmoddaejoekaaW.PrintWords Go.Proofs.YtmfmoddaejoekaaW.PrintLast Go.Proofs.YtmfmoddaejoekaaW.PrintMore
set_option maxHeartbeats 32000000 in
set_option maxRecDepth 100000 in
theorem liverylaw17_JournalKept.walk (A0 : Option Addr) (c0 : Nat) (l0 : List S33) (A1 : Option Addr) (c1 : Nat) (l1 : List Int) (w : World) (w0 : l0.length ≤ maxLen ∧ l0.length * 64 ≤ 140737488351232 ∧ ∀ x ∈ l0, q33 x) (hr0 : Kd.C k33 w A0 l0.length l0) (hc0 : l0.length ≤ c0) (w1 : l1.length ≤ maxLen ∧ l1.length * 8 ≤ 140737488351232 ∧ ∀ x ∈ l1, (Lit.int .i64 x).wf = true) (hr1 : Kd.C (Kd.int .i64) w A1 l1.length l1) (hc1 : l1.length ≤ c1) :
    Calls Try.prog 6 #[.slice A0 l0.length c0, .slice A1 l1.length c1] w fun e w' => e = .returned (.bool true) ∧ Below w.heap.size w w' := by
  obtain ⟨Fo, hF, hF1, hst⟩ := law_st2 hr0 hr1
  have HF := Aside0.mk hF
  have HF1 := Aside0.mk hF1
  have HST := Aside0.mk hst
  have hml := w0.2.1
  have hml1 := w1.2.1
  have HQ := Aside0.mk w0.2.2
  have HQ1 := Aside0.mk w1.2.2
  have hu1 := Try.underlying33
  obtain ⟨N, hN1, hN2, hN3⟩ : ∃ N, N ≤ l0.length ∧ N ≤ 20 ∧ (N = l0.length ∨ (N = 20 ∧ N < l0.length)) := by
    by_cases h : l0.length ≤ 20
    · exact ⟨l0.length, by omega, h, .inl rfl⟩
    · exact ⟨20, by omega, by omega, .inr ⟨rfl, by omega⟩⟩
  obtain ⟨T1, J1, ho1, hc1'⟩ := kept_new
  have HO1 := Aside0.mk ho1
  have HC1 := Aside0.mk hc1'
  clear hF hF1 hst w0 hr0 ho1 hc1' w1 hr1
  go_enter Try.func6, Try.ntmps6
  go_wp2_with fail
  refine (newT_at HST.out).mono ?_
  rintro e v1 ⟨g, rfl, h1⟩
  have HST1 := Aside0.mk (show St w (fun _ => False) v1 [Res.agree w Fo, PTape g TM.new] from h1)
  clear h1
  go_wp2_with fail
  refine (open_at HST1.out 1 rfl (by decide) TM.new_ok (by decide) TM.By.new).mono ?_
  rw [HO1.out]
  rintro e w2 ⟨gj1, rfl, h2⟩
  have HST2 := Aside0.mk (show St w (fun _ => False) w2 [Res.agree w Fo, PTJ g gj1 T1 J1] from h2)
  clear h2
  go_wp2_with fail
  go_loopg [6, 8] 21 (fun kq s6 s8 wr => ∃ (i : Nat) (T : TM) (J : JM) (gj : Nat), s6 = .pointer (some ⟨gj, 0, none⟩) ∧ s8 = .int .i64 (i : Int) ∧ i ≤ N ∧ kq + i = 21 ∧ Aside0 (KeptS i T J) ∧ Aside0 (St w (fun _ => False) wr [Res.agree w Fo, PTJ g gj T J]))
  case atStart => exact ⟨0, T1, J1, gj1, rfl, rfl, by omega, by omega, HC1, HST2⟩
  case round =>
    obtain ⟨i, T, J, gj, rfl, rfl, hi, hki, HC, HSR⟩ := hrel
    obtain ⟨kg, ekg⟩ : ∃ kg, kg = gk - 1 := ⟨_, rfl⟩
    have hkg : kg < gk ∧ (i < N → kg + (i + 1) = 21) := by omega
    clear ekg hki
    clear HST HST1 HST2 HO1 HC1
    by_cases hiN : i < N
    · have hlt : i < l0.length := by omega
      have b1 : decide ((i : Int) < (l0.length : Int)) = true := decide_eq_true (by omega)
      have b2 : decide ((i : Int) < 20) = true := decide_eq_true (by omega)
      go_wp2_with fail
      refine (records_at HSR.out 1 rfl (by have := HC.out.L; omega) (fun r hr => by have := HC.out.rcs r hr; omega)).mono ?_
      rintro e w3 ⟨A9, c9, rfl, _, _, _, h3⟩
      have HS3 := Aside0.mk (show St w (fun _ => False) w3 [Res.agree w Fo, PTJ g gj T J, RowL (.slice A9 J.L.length c9) J.L] from h3)
      clear h3 HSR
      go_upto_region 11 with fail
      (try simp only [Act.put, List.setIfInBounds_toArray, List.set_cons_zero, List.set_cons_succ])
      go_cut [57] (fun s57 wc => ∃ b : Bool, s57 = .bool b ∧ Aside0 (b = true → i < l1.length ∧ 0 ≤ rd l1 (i : Int)) ∧ Aside0 (St w (fun _ => False) wc [Res.agree w Fo, PTJ g gj T J, RowL (.slice A9 J.L.length c9) J.L]))
      case first =>
        by_cases hf : i < l1.length
        · have c1b : decide ((i : Int) < (l1.length : Int)) = true := decide_eq_true (by omega)
          obtain ⟨ad, eA, hx⟩ := Kd.at_int (HF1.out _ (agree_of HS3.out)) (i : Int) (by omega) (by omega)
          subst eA
          rw [Int.toNat_natCast] at hx
          by_cases hn : 0 ≤ rd l1 (i : Int)
          · have c2b : decide (rd l1 (i : Int) ≥ 0) = true := decide_eq_true hn
            have c3b : decide (0 ≤ rd l1 (i : Int)) = true := decide_eq_true hn
            go_wp2_with fail
            go_meet
            case rel => exact ⟨true, rfl, ⟨fun _ => ⟨hf, hn⟩⟩, HS3⟩
          · have c2b : decide (rd l1 (i : Int) ≥ 0) = false := decide_eq_false (by omega)
            have c3b : decide (0 ≤ rd l1 (i : Int)) = false := decide_eq_false (by omega)
            go_wp2_with fail
            go_meet
            case rel => exact ⟨false, rfl, ⟨fun h => by cases h⟩, HS3⟩
        · have c1b : decide ((i : Int) < (l1.length : Int)) = false := decide_eq_false (by omega)
          go_wp2_with fail
          go_meet
          case rel => exact ⟨false, rfl, ⟨fun h => by cases h⟩, HS3⟩
      case rest =>
        obtain ⟨b, rfl, HB, HS4⟩ := hcut
        clear HS3
        go_upto_if 57 with fail
        (try simp only [Act.put, List.setIfInBounds_toArray, List.set_cons_zero, List.set_cons_succ])
        go_cut [] (fun wc => ∃ T2 : TM, Aside0 (KeptS i T2 J) ∧ Aside0 (St w (fun _ => False) wc [Res.agree w Fo, PTJ g gj T2 J, RowL (.slice A9 J.L.length c9) J.L]))
        case first =>
          cases b with
          | false =>
            go_wp2_with fail
            go_meet
            case rel => exact ⟨T, HC, HS4⟩
          | true =>
            have hf := (HB.out rfl).1
            obtain ⟨ad, eA, hx⟩ := Kd.at_int (HF1.out _ (agree_of HS4.out)) (i : Int) (by omega) (by omega)
            subst eA
            rw [Int.toNat_natCast] at hx
            go_wp2_with fail
            refine (fuseJ_at HS4.out 1 rfl (by decide) _).mono ?_
            rintro e w4 ⟨rfl, h4⟩
            have HS5 := Aside0.mk h4
            clear h4 hx
            go_wp2_with fail
            go_meet
            case rel => exact ⟨_, ⟨HC.out.fuse _⟩, HS5⟩
        case rest =>
          obtain ⟨T2, HK2, HS5⟩ := hcut
          clear HS4 HB HC
          obtain ⟨ad, A2, c2, A3, c3, x, eA, hx, hx0, hx1, hx2, hx3, l2, l3, g2, g3⟩ := deed_at HF.out i hlt
          subst eA
          have hqx : q33 x := by rw [hx, List.getD_eq_getElem?_getD, List.getElem?_eq_getElem hlt]; exact HQ.out _ (List.getElem_mem hlt)
          obtain ⟨k, nn, kn, mo, e0, e1, e2, e3⟩ : ∃ k nn kn mo, x.f0 = k ∧ x.f1 = nn ∧ x.f2 = kn ∧ x.f3 = mo := ⟨_, _, _, _, rfl, rfl, rfl, rfl⟩
          have HKR := Aside0.mk (show (-9223372036854775808 ≤ k ∧ k ≤ 9223372036854775807) ∧ (-9223372036854775808 ≤ nn ∧ nn ≤ 9223372036854775807) from by rw [← e0, ← e1]; exact ⟨wf64 hqx.1, wf64 hqx.2.1⟩)
          have HKB := Aside0.mk (show okB kn = true from wfB (by rw [← e2]; exact hqx.2.2.1.2.2))
          have HMB := Aside0.mk (show ∀ y ∈ mo, okB y = true from by rw [← e3]; exact fun y hy => wfB (hqx.2.2.2.2.2 y hy).2.2)
          have HML := Aside0.mk (show mo.length ≤ c3 ∧ mo.length * 24 ≤ 140737488351232 from by rw [← e3]; exact ⟨l3, hqx.2.2.2.2.1⟩)
          rw [e0] at hx0
          rw [e1] at hx1
          rw [e2] at hx2 l2 g2
          rw [e3] at hx3 g3
          have HX := Aside0.mk (And.intro hx0 (And.intro hx1 (And.intro hx2 hx3)))
          have HK := Aside0.mk (And.intro l2 g2)
          have HM := Aside0.mk g3
          clear hx hqx e0 e1 e2 e3 hx0 hx1 hx2 hx3 l2 l3 g2 g3
          have HSA := Aside0.mk (lit_row HS5.out (i : Int))
          have hx2 := pw_cell_below HSA.out.below HX.out.2.2.1
          have HFC := Aside0.mk HK.out.1
          have HYL := Aside0.mk (show (kn.take 60).length ≤ 60 from by rw [List.length_take]; omega)
          have HYB := Aside0.mk (okB_take HKB.out 60)
          have HYF := Aside0.mk (F_take HK.out.2 60)
          clear HS5
          go_wp2_with fail
          refine (few17.calls A2 c2 kn 60 _ HFC.out (by decide)).mono ?_
          rintro e w3' ⟨rfl, rfl⟩
          obtain ⟨y, ey⟩ : ∃ y, kn.take 60 = y := ⟨_, rfl⟩
          rw [ey] at HYL HYB HYF ⊢
          clear ey hx2 HFC HKB HK
          go_wp2_with (at_builtin; refine St.app_int (k := .u8) rfl (.tmp 67) (.tmp 73) 30 5 1 rfl Try.underlying30 hinfoB (by decide) HSA.out 3 (.slice (some ⟨wc.heap.size, 0, none⟩) 1 1) [(i : Int)] y A2 y.length c2 rfl rfl rfl (by decide) (HYF.out _ (agree_of HSA.out)) (by have := HYL.out; simp; omega) ?_)
          intro v5 w5 h5
          have HR := Aside0.mk (show 1 ≤ ((i : Int) :: y).length ∧ ((i : Int) :: y).length ≤ 61 from by have := HYL.out; simp; omega)
          have HRB := Aside0.mk (show okB ((i : Int) :: y) = true from okB_append (a := [(i : Int)]) (okB_of fun z hz => by rw [List.mem_singleton.1 hz]; exact (show (0 : Int) ≤ (i : Int) ∧ (i : Int) ≤ 255 by omega)) HYB.out)
          obtain ⟨r, er⟩ : ∃ r, (i : Int) :: y = r := ⟨_, rfl⟩
          rw [er] at HR HRB
          have h5 := (show St w (fun _ => False) w5 [Res.agree w Fo, PTJ g gj T2 J, RowL (.slice A9 J.L.length c9) J.L, RowB v5 r] from by rw [← er]; exact h5)
          obtain ⟨Ao, co, ev5, hco, _⟩ := row_slice h5 3 rfl
          subst ev5
          obtain ⟨F2, hF2, hFw, hFr, h6⟩ := St.freeze2 h5 2 3 rfl rfl (by decide) (by decide) (by decide)
          have HS6 := Aside0.mk (show St w (fun _ => False) w5 [Res.agree w Fo, PTJ g gj T2 J, Res.agree w5 F2] from drops_at (Xs := [Res.any]) h6)
          have HW := Aside0.mk (show Kd.F (Kd.slice 5 (Kd.int .u8)) w5 F2 A9 J.L.length J.L from Foot.imp hFw (fun W' ⟨ok, hp⟩ => (Kd.R_reads' (show (Kd.slice 5 (Kd.int .u8)).R 30 W' 0 ok (.slice A9 J.L.length c9) J.L from hp)).2.2))
          have HRF := Aside0.mk (show Kd.F (Kd.int .u8) w5 F2 Ao r.length r from Foot.imp hFr (fun W' ⟨ok, hp⟩ => (Kd.R_reads' (show (Kd.int .u8).R 5 W' 0 ok (.slice Ao r.length co) r from hp)).2.2))
          have HCO := Aside0.mk hco
          have HLC := Aside0.mk (row_C h5 2 rfl).2.1
          clear h5 h6 hFw hFr HSA HYL HYB HYF er hco
          have hx0 := pw_cell_below HS6.out.below HX.out.1
          go_wp2_with fail
          refine (pick_at HS6.out k 3 (by decide)).mono ?_
          rintro e w6 ⟨rfl, h6⟩
          have HS7 := Aside0.mk h6
          clear h6 hx0 HS6
          go_upto_if 81 with fail
          (try simp only [Act.put, List.setIfInBounds_toArray, List.set_cons_zero, List.set_cons_succ])
          obtain ⟨bb, ebb⟩ : ∃ bb, (pk k 3 == 1) = bb := ⟨_, rfl⟩
          rw [ebb]
          clear ebb
          go_cut [7, 11] (fun s7 s11 wc => ∃ (e : Int) (T' : TM) (J' : JM) (nx : List (List Int)) (A11 : Option Addr) (c11 : Nat) (R3 : Res), s7 = .int .i64 e ∧ s11 = .slice A11 nx.length c11 ∧ nx.length ≤ c11 ∧ Aside0 (PostS i e T' J' J.L nx) ∧ Aside0 (∀ ok W', R3.P ok W' → Agree w5 F2 W' → Kd.C (Kd.slice 5 (Kd.int .u8)) W' A11 nx.length nx) ∧ Aside0 (St w (fun _ => False) wc [Res.agree w Fo, PTJ g gj T' J', Res.agree w5 F2, R3]))
          case first =>
            cases bb with
            | true =>
             as_aux_lemma =>
              obtain ⟨M, hM1, hM2, hM3⟩ : ∃ M, M ≤ mo.length ∧ M ≤ 5 ∧ (M = mo.length ∨ (M = 5 ∧ M < mo.length)) := by
                by_cases h : mo.length ≤ 5
                · exact ⟨mo.length, by omega, h, .inl rfl⟩
                · exact ⟨5, by omega, by omega, .inr ⟨rfl, by omega⟩⟩
              have HS8 := Aside0.mk (show St w (fun _ => False) w6 [Res.agree w Fo, PTJ g gj T2 J, Res.agree w5 F2, RowL (.slice none 0 0) (nextK mo 0)] from St.nil HS7.out _ _)
              clear HS7
              have hmL := HML.out.2
              go_wp2_with fail
              go_loopg [11, 12] 6 (fun kq s11 s12 wr => ∃ j : Nat, j ≤ M ∧ kq + j = 6 ∧ s12 = .int .i64 (j : Int) ∧ Aside0 (St w (fun _ => False) wr [Res.agree w Fo, PTJ g gj T2 J, Res.agree w5 F2, RowL s11 (nextK mo j)]))
              case atStart => exact ⟨0, by omega, by omega, rfl, HS8⟩
              case round =>
                obtain ⟨j, hj, hkj, rfl, HSJ⟩ := hrel
                obtain ⟨kk, ekk⟩ : ∃ kk, kk = gk - 1 := ⟨_, rfl⟩
                have hkk : kk < gk ∧ kk + (j + 1) = 6 := by omega
                clear ekk hkj
                clear HS8
                by_cases hjM : j < M
                · have hjm : j < mo.length := by omega
                  have d1 : decide ((j : Int) < (mo.length : Int)) = true := decide_eq_true (by omega)
                  have d2 : decide ((j : Int) < 5) = true := decide_eq_true (by omega)
                  have hx3 := pw_cell_below HSJ.out.below HX.out.2.2.2
                  have HSL := Aside0.mk (lit_row HSJ.out (j : Int))
                  have hy3 := pw_cell_below HSL.out.below HX.out.2.2.2
                  obtain ⟨ad3, B, cb, eA3, hcell, hcb, hCB⟩ := at_slice (HM.out _ (agree_of HSL.out)) j hjm
                  subst eA3
                  have HCB := Aside0.mk (C_take hCB 60)
                  have HCL := Aside0.mk hcb
                  have HRW := Aside0.mk (show rowK mo j = (j : Int) :: (mo.getD j []).take 60 from rfl)
                  obtain ⟨row, erow⟩ : ∃ row, mo.getD j [] = row := ⟨_, rfl⟩
                  rw [erow] at hcell HCB HCL HRW
                  have HYL := Aside0.mk (show (row.take 60).length ≤ 60 from by rw [List.length_take]; omega)
                  clear hCB erow hcb HSJ
                  go_wp2_with fail
                  refine (few17.calls B cb row 60 _ HCL.out (by decide)).mono ?_
                  rintro e w8 ⟨rfl, rfl⟩
                  obtain ⟨y, ey⟩ : ∃ y, row.take 60 = y := ⟨_, rfl⟩
                  rw [ey] at HCB HRW HYL ⊢
                  clear ey hcell hx3 hy3 HCL
                  go_wp2_with (at_builtin; refine St.app_int (k := .u8) rfl (.tmp 99) (.tmp 108) 30 5 1 rfl Try.underlying30 hinfoB (by decide) HSL.out 4 (.slice (some ⟨wr.heap.size, 0, none⟩) 1 1) [(j : Int)] y B y.length cb rfl rfl rfl (by decide) HCB.out (by have := HYL.out; simp; omega) ?_)
                  intro v9 w9 h9
                  have h9 := (show St w (fun _ => False) w9 [Res.agree w Fo, PTJ g gj T2 J, Res.agree w5 F2, RowL u11 (nextK mo j), RowB v9 (rowK mo j)] from by rw [HRW.out]; exact h9)
                  obtain ⟨Ay, cy, ev9, _, _⟩ := row_slice h9 4 rfl
                  subst ev9
                  obtain ⟨yy, eyy⟩ : ∃ yy, rowK mo j = yy := ⟨_, rfl⟩
                  have HSK := Aside0.mk h9
                  have HNK := Aside0.mk (nextK_succ mo j)
                  rw [eyy] at HSK HNK ⊢
                  have HLN := Aside0.mk (nextK_len mo j)
                  clear h9 HSL HCB HRW HYL eyy
                  go_wp2_with (at_builtin; refine St.app_row rfl (.tmp 96) (.tmp 110) 29 30 rfl Try.underlying29 hinfoR HSK.out 3 4 u11 (.slice Ay yy.length cy) (nextK mo j) yy rfl rfl rfl rfl (by decide) (by decide) (by decide) (by have := HLN.out; omega) ?_)
                  intro v10 w10 h10
                  have HSN := Aside0.mk (show St w (fun _ => False) w10 [Res.agree w Fo, PTJ g gj T2 J, Res.agree w5 F2, RowL v10 (nextK mo (j + 1))] from by rw [HNK.out]; exact drops_at (Xs := [Res.any]) h10)
                  clear h10 HSK HNK HLN
                  go_wp2_with fail
                  go_roundg kk
                  case measure => omega
                  case rel => exact ⟨j + 1, by omega, hkk.2, by simp, HSN⟩
                · have ejM : M = j := by omega
                  subst ejM
                  have hx3 := pw_cell_below HSJ.out.below HX.out.2.2.2
                  obtain ⟨A11, c11, ev11, hc11, _⟩ := row_slice HSJ.out 3 rfl
                  subst ev11
                  have HNR := Aside0.mk (And.intro (nextK_rows mo M) (nextK_ok mo M hM2 HMB.out))
                  have HNL := Aside0.mk (nextK_len mo M)
                  obtain ⟨nx, enx⟩ : ∃ nx, nextK mo M = nx := ⟨_, rfl⟩
                  rw [enx] at HSJ HNR HNL hc11 ⊢
                  obtain ⟨e, T', J', hre, hps⟩ := post_renew HK2.out (l := nx) (by have := HNL.out; omega) HNR.out.1 HNR.out.2 (by omega)
                  have HRE := Aside0.mk hre
                  have HPS := Aside0.mk hps
                  have HC11 := Aside0.mk hc11
                  clear hre hps enx hc11
                  rcases hM3 with eM | ⟨eM, eM2⟩
                  · have d1 : decide ((M : Int) < (mo.length : Int)) = false := decide_eq_false (by omega)
                    go_wp2_with fail
                    refine (renew_at (l := nx) HSJ.out 1 rfl (by decide) HK2.out.ok (by omega) HK2.out.good.sd (by have := HK2.out.good.gen; omega) (by have := HNL.out; omega) (fun W' hW => ?_)).mono ?_
                    · obtain ⟨ok3, hp3⟩ := hW 3 _ (by decide) rfl
                      exact (Kd.R_reads' (show (Kd.slice 5 (Kd.int .u8)).R 30 W' 0 ok3 (.slice A11 nx.length c11) nx from hp3)).2.2
                    rw [HRE.out]
                    rintro e9 w9 ⟨rfl, h9⟩
                    have HS11 := Aside0.mk h9
                    clear h9 HSJ
                    go_wp2_with fail
                    go_meet
                    case rel => exact ⟨e, T', J', nx, A11, c11, _, rfl, rfl, HC11.out, HPS, ⟨fun ok W' hp hag => (Kd.R_reads' (show (Kd.slice 5 (Kd.int .u8)).R 30 W' 0 ok (.slice A11 nx.length c11) nx from hp)).2.2⟩, HS11⟩
                  · have d1 : decide ((M : Int) < (mo.length : Int)) = true := decide_eq_true (by omega)
                    have d2 : decide ((M : Int) < 5) = false := decide_eq_false (by omega)
                    go_wp2_with fail
                    refine (renew_at (l := nx) HSJ.out 1 rfl (by decide) HK2.out.ok (by omega) HK2.out.good.sd (by have := HK2.out.good.gen; omega) (by have := HNL.out; omega) (fun W' hW => ?_)).mono ?_
                    · obtain ⟨ok3, hp3⟩ := hW 3 _ (by decide) rfl
                      exact (Kd.R_reads' (show (Kd.slice 5 (Kd.int .u8)).R 30 W' 0 ok3 (.slice A11 nx.length c11) nx from hp3)).2.2
                    rw [HRE.out]
                    rintro e9 w9 ⟨rfl, h9⟩
                    have HS11 := Aside0.mk h9
                    clear h9 HSJ
                    go_wp2_with fail
                    go_meet
                    case rel => exact ⟨e, T', J', nx, A11, c11, _, rfl, rfl, HC11.out, HPS, ⟨fun ok W' hp hag => (Kd.R_reads' (show (Kd.slice 5 (Kd.int .u8)).R 30 W' 0 ok (.slice A11 nx.length c11) nx from hp)).2.2⟩, HS11⟩
            | false =>
             as_aux_lemma =>
              have HS8 := Aside0.mk (show St w (fun _ => False) w6 [Res.agree w Fo, PTJ g gj T2 J, Res.agree w5 F2, Res.row (told (Kd.int .u8) 5 w5 F2) 30 (.slice none 0 0) []] from St.nil HS7.out _ _)
              have HAG := Aside0.mk (show Agree w5 F2 w6 from (HS7.out.get 2 rfl).elim fun ok hp => hp.2)
              obtain ⟨e, T', J', hap, hps⟩ := post_append HK2.out (r := r) (by have := HR.out; omega) HRB.out (by omega)
              have HAP := Aside0.mk hap
              have HPS := Aside0.mk hps
              clear hap hps HS7
              go_wp2_with (at_builtin; refine St.app_told rfl (.tmp 115) (.tmp 116) 29 30 rfl Try.underlying29 hinfoR HS8.out 3 (.slice none 0 0) [] J.L A9 J.L.length c9 rfl rfl rfl (by decide) (told_of HW.out HAG.out) (by have := HK2.out.L; simp; omega) ?_)
              intro v7 w7 h7
              have HS9 := Aside0.mk (show St w (fun _ => False) w7 [Res.agree w Fo, PTJ g gj T2 J, Res.agree w5 F2, Res.row (told (Kd.int .u8) 5 w5 F2) 30 v7 J.L] from h7)
              clear h7 HS8 HAG
              go_wp2_with (at_builtin; refine St.app_told1 rfl (.tmp 118) (.tmp 120) 29 30 rfl Try.underlying29 hinfoR HS9.out 3 v7 Ao co J.L r rfl rfl rfl (by decide) HCO.out HRF.out (by have := HK2.out.L; omega) ?_)
              intro v8 w8 h8
              obtain ⟨nx, enx⟩ : ∃ nx, J.L ++ [r] = nx := ⟨_, rfl⟩
              rw [enx] at HPS
              have h8 := (show St w (fun _ => False) w8 [Res.agree w Fo, PTJ g gj T2 J, Res.agree w5 F2, Res.row (told (Kd.int .u8) 5 w5 F2) 30 v8 nx] from by rw [← enx]; exact h8)
              obtain ⟨A11, c11, ev8, hc11, _⟩ := row_slice h8 3 rfl
              subst ev8
              have HS10 := Aside0.mk h8
              have HC11 := Aside0.mk hc11
              have hcr := HCO.out
              clear h8 HS9 enx hc11
              go_wp2_with fail
              refine (append_at (r := r) HS10.out 1 rfl (by decide) HK2.out.ok (by omega) hcr (by have := HK2.out.L; omega) (by have := HK2.out.size (by omega); omega) (fun W' hW => ?_)).mono ?_
              · obtain ⟨ok2, hp2⟩ := hW 2 _ (by decide) rfl
                exact HRF.out W' hp2.2
              rw [HAP.out]
              rintro e9 w9 ⟨rfl, h9⟩
              have HS11 := Aside0.mk h9
              clear h9 HS10
              go_wp2_with fail
              go_meet
              case rel => exact ⟨e, T', J', nx, A11, c11, _, rfl, rfl, HC11.out, HPS, ⟨fun ok W' hp hag => told_C (Kd.R_reads' (show (told (Kd.int .u8) 5 w5 F2).R 30 W' 0 ok (.slice A11 nx.length c11) nx from hp)).2.2 hag⟩, HS11⟩
          case rest =>
            obtain ⟨e, T', J', nx, A11, c11, R3, rfl, rfl, hc11, HPS, HR3, HS8⟩ := hcut
            clear HS7
            rcases HPS.out.2.2 with ⟨rfl, hK', hL'⟩ | ⟨rfl, hbr, hJL, hJS, hPd⟩
            · as_aux_lemma =>
              have HK' := Aside0.mk hK'
              clear hK' HPS HK2 HW HRF
              subst hL'
              go_wp2_with fail
              refine (records_at HS8.out 1 rfl (by have := HK'.out.L; omega) (fun r hr => by have := HK'.out.rcs r hr; omega)).mono ?_
              rintro e w7 ⟨A7, c7, rfl, hc7, hC7, _, h7⟩
              have HS9 := Aside0.mk (show St w (fun _ => False) w7 [Res.agree w Fo, PTJ g gj T' J', Res.agree w5 F2, R3] from drops_at (Xs := [_]) h7)
              have HC7 := Aside0.mk (And.intro hc7 hC7)
              have HCN := Aside0.mk (show Kd.C (Kd.slice 5 (Kd.int .u8)) w7 A11 J'.L.length J'.L from (HS9.out.get 3 rfl).elim fun ok hp => HR3.out ok w7 hp ((HS9.out.get 2 rfl).elim fun ok2 hp2 => hp2.2))
              clear h7 hc7 hC7 HS8
              go_wp2_with fail
              refine (same_at HS9.out HC7.out.2 HC7.out.1 HCN.out hc11 (by have := HK'.out.L; omega) (fun r hr => by have := HK'.out.rcs r hr; omega)).mono ?_
              rw [decide_eq_true (rfl : J'.L = J'.L)]
              rintro e w8 ⟨rfl, h8⟩
              have HS10 := Aside0.mk (show St w (fun _ => False) w8 [Res.agree w Fo, PTJ g gj T' J'] from drops_at (Xs := [Res.agree w5 F2, R3]) h8)
              clear h8 HS9 HR3
              go_wp2_with fail
              go_roundg kg
              case measure => omega
              case rel => exact ⟨i + 1, T', J', gj, rfl, by simp, by omega, hkg.2 hiN, HK', HS10⟩
            · as_aux_lemma =>
              have HPD := Aside0.mk hPd
              have HBR := Aside0.mk hbr
              have HJ2 := Aside0.mk (And.intro hJL hJS)
              clear hPd hbr hJL hJS
              have hcr := HCO.out
              go_wp2_with fail
              refine (append_at (r := r) HS8.out 1 rfl (by decide) HPS.out.1 (by omega) hcr (by have := HJ2.out; omega) (by have := HJ2.out; omega) (fun W' hW => ?_)).mono ?_
              · obtain ⟨ok2, hp2⟩ := hW 2 _ (by decide) rfl
                exact HRF.out W' hp2.2
              rw [append_broken HBR.out]
              rintro e7 w7 ⟨rfl, h7⟩
              have HS9 := Aside0.mk (show St w (fun _ => False) w7 [Res.agree w Fo, PTJ g gj T' J', Res.agree w5 F2, R3] from h7)
              clear h7 HS8
              have hx1 := pw_cell_below HS9.out.below HX.out.2.1
              go_wp2_with fail
              refine (crashJ_at HS9.out 1 rfl (by decide) HPS.out.1 (by omega) nn HKR.out.2.1 HKR.out.2.2).mono ?_
              rintro e8 w8 ⟨rfl, h8⟩
              have HS10 := Aside0.mk (show St w (fun _ => False) w8 [Res.agree w Fo, PTape g (T'.crash nn), Res.agree w5 F2, R3] from forget_at h8 1 rfl)
              have HH2 := Aside0.mk (HPD.out.crash nn)
              have HOK2 := Aside0.mk (show (T'.crash nn).Ok 0 ∧ (T'.crash nn).By from ⟨TM.crash_ok HPS.out.1 nn, HPS.out.2.1.crash nn⟩)
              clear h8 HS9 hx1 hcr HJ2 HBR HPD HPS
              have hx1 := pw_cell_below HS10.out.below HX.out.2.1
              go_wp2_with fail
              refine (pick_at HS10.out nn 5 (by decide)).mono ?_
              rintro e9 w9 ⟨rfl, h9⟩
              have HS11 := Aside0.mk h9
              clear h9 HS10 hx1
              go_wp2_with fail
              refine (fuse_at HS11.out 1 rfl (by decide) _).mono ?_
              rintro e10 w10 ⟨rfl, h10⟩
              obtain ⟨T3, eT3⟩ : ∃ T3, (T'.crash nn).fuse (pk nn 5) = T3 := ⟨_, rfl⟩
              have HS12 := Aside0.mk (show St w (fun _ => False) w10 [Res.agree w Fo, PTape g T3, Res.agree w5 F2, R3] from by rw [← eT3]; exact h10)
              have HOK3 := Aside0.mk (show T3.Ok 0 ∧ T3.By ∧ T3.us = [] ∧ Hold (i + 1) T3.s0 T3.s1 (fun M => M = J.L ∨ M = nx) from by
                rw [← eT3]
                refine ⟨TM.fuse_ok HOK2.out.1 _, HOK2.out.2.fuse _, ?_, ?_⟩
                · unfold TM.fuse
                  split <;> rfl
                · have hs0 : ((T'.crash nn).fuse (pk nn 5)).s0 = (T'.crash nn).s0 := by
                    unfold TM.fuse
                    split <;> rfl
                  have hs1 : ((T'.crash nn).fuse (pk nn 5)).s1 = (T'.crash nn).s1 := by
                    unfold TM.fuse
                    split <;> rfl
                  rw [hs0, hs1]
                  exact HH2.out)
              clear h10 HS11 HH2 HOK2 eT3
              go_upto_region 31 with fail
              (try simp only [Act.put, List.setIfInBounds_toArray, List.set_cons_zero, List.set_cons_succ])
              go_cut [15, 16] (fun s15 s16 wc => ∃ (f : Int) (T4 : TM), s16 = .int .i64 f ∧ (f = 0 ∨ f = 40) ∧ Aside0 (T4.Ok 20 ∧ T4.By ∧ Pend T4 (fun a b => Hold (i + 1) a b (fun M => M = J.L ∨ M = nx))) ∧ Aside0 (St w (fun _ => False) wc [Res.agree w Fo, PTape g T4, Res.agree w5 F2, R3]))
              case first =>
                obtain ⟨f, T4, oj, ho, hf, hp⟩ := open_pend HOK3.out.2.2.1 HOK3.out.2.2.2
                have hok := Ok_open HOK3.out.1
                have hby := By_open HOK3.out.2.1
                rw [ho] at hok hby
                have HO4 := Aside0.mk ho
                have HT4 := Aside0.mk (show T4.Ok 20 ∧ T4.By ∧ Pend T4 (fun a b => Hold (i + 1) a b (fun M => M = J.L ∨ M = nx)) from ⟨hok, hby, hp⟩)
                clear ho hok hby hp
                go_wp2_with fail
                refine (open_at HS12.out 1 rfl (by decide) HOK3.out.1 (by decide) HOK3.out.2.1).mono ?_
                rw [HO4.out]
                cases oj with
                | none =>
                  rintro e11 w11 ⟨rfl, h11⟩
                  have HS13 := Aside0.mk (show St w (fun _ => False) w11 [Res.agree w Fo, PTape g T4, Res.agree w5 F2, R3] from h11)
                  clear h11
                  go_wp2_with fail
                  go_meet
                  case rel => exact ⟨f, T4, rfl, hf, HT4, HS13⟩
                | some J4 =>
                  rintro e11 w11 ⟨gk4, rfl, h11⟩
                  have HS13 := Aside0.mk (show St w (fun _ => False) w11 [Res.agree w Fo, PTape g T4, Res.agree w5 F2, R3] from forget_at h11 1 rfl)
                  clear h11
                  go_wp2_with fail
                  go_meet
                  case rel => exact ⟨f, T4, rfl, hf, HT4, HS13⟩
              case rest =>
                obtain ⟨f, T4, rfl, hf, HT4, HS13⟩ := hcut
                clear HS12 HOK3
                go_upto_region 32 with fail
                (try simp only [Act.put, List.setIfInBounds_toArray, List.set_cons_zero, List.set_cons_succ])
                go_cut [169] (fun s169 wc => s169 = .bool false ∧ Aside0 (St w (fun _ => False) wc [Res.agree w Fo, PTape g T4, Res.agree w5 F2, R3]))
                case first =>
                  rcases hf with rfl | rfl
                  · go_wp2_with fail
                    go_meet
                    case rel => exact ⟨rfl, HS13⟩
                  · go_wp2_with fail
                    go_meet
                    case rel => exact ⟨rfl, HS13⟩
                case rest =>
                  obtain ⟨rfl, HS14⟩ := hcut
                  clear HS13 hf
                  have hx1 := pw_cell_below HS14.out.below HX.out.2.1
                  go_wp2_with fail
                  refine (pick_at HS14.out nn 1000 (by decide)).mono ?_
                  rintro e9 w9 ⟨rfl, h9⟩
                  obtain ⟨hp0, hp1⟩ := pk_range nn 1000 HKR.out.2 (by decide)
                  obtain ⟨q, eq⟩ := Int.eq_ofNat_of_zero_le hp0
                  rw [eq] at hp1 ⊢
                  have hq : q < 1000 := by omega
                  have HS15 := Aside0.mk h9
                  clear h9 HS14 hx1 hp0 hp1 eq
                  go_wp2_with fail
                  refine (crash_at HS15.out 1 rfl (by decide) HT4.out.1 (by decide) ((q : Int) + 3) (by omega) (by omega)).mono ?_
                  rintro e10 w10 ⟨rfl, h10⟩
                  obtain ⟨T6, J6, ho6, hk6, hx6⟩ := open_calm (T := T4.crash ((q : Int) + 3)) (i := i + 1) rfl rfl ((TM.crash_ok HT4.out.1 _).mono (by omega)) (HT4.out.2.1.crash _) (by omega) (HT4.out.2.2.crash _)
                  have HO6 := Aside0.mk ho6
                  have HK6 := Aside0.mk hk6
                  have HX6 := Aside0.mk hx6
                  have HS16 := Aside0.mk h10
                  clear h10 HS15 ho6 hk6 hx6
                  go_wp2_with fail
                  refine (open_at HS16.out 1 rfl (by decide) (TM.crash_ok HT4.out.1 _) (by decide) (HT4.out.2.1.crash _)).mono ?_
                  rw [HO6.out]
                  rintro e11 w11 ⟨gk6, rfl, h11⟩
                  have HS17 := Aside0.mk (show St w (fun _ => False) w11 [Res.agree w Fo, PTJ g gk6 T6 J6, Res.agree w5 F2, R3] from h11)
                  clear h11 HS16 HO6 HT4
                  go_wp2_with fail
                  refine (records_at HS17.out 1 rfl (by have := HK6.out.L; omega) (fun r hr => by have := HK6.out.rcs r hr; omega)).mono ?_
                  rintro e12 w12 ⟨A12, c12, rfl, hc12, hC12, _, h12⟩
                  have HS18 := Aside0.mk (show St w (fun _ => False) w12 [Res.agree w Fo, PTJ g gk6 T6 J6, Res.agree w5 F2, R3] from drops_at (Xs := [_]) h12)
                  have HC12 := Aside0.mk (And.intro hc12 hC12)
                  have HCW := Aside0.mk (show Kd.C (Kd.slice 5 (Kd.int .u8)) w12 A9 J.L.length J.L from HW.out w12 ((HS18.out.get 2 rfl).elim fun ok2 hp2 => hp2.2))
                  have hlc := HLC.out
                  clear h12 hc12 hC12 HS17
                  go_wp2_with fail
                  refine (same_at HS18.out HC12.out.2 HC12.out.1 HCW.out hlc (by have := HK6.out.L; omega) (fun r hr => by have := HK6.out.rcs r hr; omega)).mono ?_
                  rintro e13 w13 ⟨rfl, h13⟩
                  have HS19 := Aside0.mk h13
                  clear h13 HS18 HC12 HCW hlc
                  go_wp2_with fail
                  refine (records_at HS19.out 1 rfl (by have := HK6.out.L; omega) (fun r hr => by have := HK6.out.rcs r hr; omega)).mono ?_
                  rintro e14 w14 ⟨A14, c14, rfl, hc14, hC14, _, h14⟩
                  have HS20 := Aside0.mk (show St w (fun _ => False) w14 [Res.agree w Fo, PTJ g gk6 T6 J6, Res.agree w5 F2, R3] from drops_at (Xs := [_]) h14)
                  have HC14 := Aside0.mk (And.intro hc14 hC14)
                  have HCN := Aside0.mk (show Kd.C (Kd.slice 5 (Kd.int .u8)) w14 A11 nx.length nx from (HS20.out.get 3 rfl).elim fun ok hp => HR3.out ok w14 hp ((HS20.out.get 2 rfl).elim fun ok2 hp2 => hp2.2))
                  clear h14 hc14 hC14 HS19
                  go_wp2_with fail
                  refine (same_at HS20.out HC14.out.2 HC14.out.1 HCN.out hc11 (by have := HK6.out.L; omega) (fun r hr => by have := HK6.out.rcs r hr; omega)).mono ?_
                  rintro e15 w15 ⟨rfl, h15⟩
                  have HS21 := Aside0.mk (show St w (fun _ => False) w15 [Res.agree w Fo, PTJ g gk6 T6 J6] from drops_at (Xs := [Res.agree w5 F2, R3]) h15)
                  clear h15 HS20 HC14 HCN
                  by_cases hold : J6.L = J.L
                  · have b5 : decide (J6.L = J.L) = true := decide_eq_true hold
                    clear hold
                    go_wp2_with fail
                    go_roundg kg
                    case measure => omega
                    case rel => exact ⟨i + 1, T6, J6, gk6, rfl, by simp, by omega, hkg.2 hiN, HK6, HS21⟩
                  · have b5 : decide (J6.L = J.L) = false := decide_eq_false hold
                    have b6 : decide (J6.L = nx) = true := decide_eq_true (HX6.out.resolve_left hold)
                    clear hold
                    go_wp2_with fail
                    go_roundg kg
                    case measure => omega
                    case rel => exact ⟨i + 1, T6, J6, gk6, rfl, by simp, by omega, hkg.2 hiN, HK6, HS21⟩
    · have eiN : N = i := by omega
      subst eiN
      clear hi hiN
      rcases hN3 with eN | ⟨eN, eN2⟩
      · have b1 : decide ((N : Int) < (l0.length : Int)) = false := decide_eq_false (by omega)
        go_wp2_with fail
        refine (lives_at HSR.out).mono ?_
        rintro e v9 ⟨rfl, h9⟩
        have HS9 := Aside0.mk h9
        clear h9
        go_wp2_with fail
        go_ret
        exact ⟨rfl, HS9.out.below⟩
      · have b1 : decide ((N : Int) < (l0.length : Int)) = true := decide_eq_true (by omega)
        have b2 : decide ((N : Int) < 20) = false := decide_eq_false (by omega)
        go_wp2_with fail
        refine (lives_at HSR.out).mono ?_
        rintro e v9 ⟨rfl, h9⟩
        have HS9 := Aside0.mk h9
        clear h9
        go_wp2_with fail
        go_ret
        exact ⟨rfl, HS9.out.below⟩
end Go.Proofs.Ytmfmoddaejoekaa.P
