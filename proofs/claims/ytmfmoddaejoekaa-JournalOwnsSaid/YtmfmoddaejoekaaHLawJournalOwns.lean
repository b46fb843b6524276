/- A law: a journal keeps what it holds to itself. -/
import Derived.Test.YtmfmoddaejoekaaHLaws17
set_option linter.unusedVariables false
set_option linter.unusedSimpArgs false
namespace Go.Proofs.Ytmfmoddaejoekaa.P
open Go.RowKit Go.Proofs.YtmfmoddaejoekaaW.PrintWords Go.Proofs.YtmfmoddaejoekaaW.PrintLast Go.Proofs.YtmfmoddaejoekaaW.PrintMore
set_option maxHeartbeats 32000000 in
set_option maxRecDepth 100000 in
theorem liverylaw17_JournalOwns.walk (A0 : Option Addr) (c0 : Nat) (l0 : List S33) (w : World) (w0 : l0.length ≤ maxLen ∧ l0.length * 64 ≤ 140737488351232 ∧ ∀ x ∈ l0, q33 x) (hr0 : Kd.C k33 w A0 l0.length l0) (hc0 : l0.length ≤ c0) :
    Calls Try.prog 3 #[.slice A0 l0.length c0] w fun e w' => e = .returned (.bool true) ∧ Below w.heap.size w w' := by
  obtain ⟨Fo, hF, hst⟩ := law_st hr0
  have HF := Aside0.mk hF
  have HST := Aside0.mk hst
  have hml := w0.2.1
  have HQ := Aside0.mk w0.2.2
  have hu1 := Try.underlying33
  obtain ⟨N, hN1, hN2, hN3⟩ : ∃ N, N ≤ l0.length ∧ N ≤ 15 ∧ (N = l0.length ∨ (N = 15 ∧ N < l0.length)) := by
    by_cases h : l0.length ≤ 15
    · exact ⟨l0.length, by omega, h, .inl rfl⟩
    · exact ⟨15, by omega, by omega, .inr ⟨rfl, by omega⟩⟩
  obtain ⟨T1, J1, ho1, hc1, hL1, hz1⟩ := calm_new
  have HO1 := Aside0.mk ho1
  have HC1 := Aside0.mk hc1
  have HL1 := Aside0.mk hL1
  clear hF hst w0 hr0 ho1 hc1 hL1 hz1
  go_enter Try.func3, Try.ntmps3
  go_wp2_with fail
  refine (newT_at HST.out).mono ?_
  rintro e v1 ⟨g, rfl, h1⟩
  have HST1 := Aside0.mk (show St w (fun _ => False) v1 [Res.agree w Fo, PTape g TM.new] from h1)
  clear h1
  go_wp2_with fail
  refine (open_at HST1.out 1 rfl (by decide) TM.new_ok (by decide) TM.By.new).mono ?_
  rw [HO1.out]
  rintro e w2 ⟨gj, rfl, h2⟩
  have HST2 := Aside0.mk (show St w (fun _ => False) w2 [Res.agree w Fo, PTJ g gj T1 J1, RowL (.slice none 0 0) J1.L] from by rw [HL1.out]; exact St.nil h2 _ _)
  clear h2
  go_wp2_with fail
  go_loopw [6, 7] (fun s6 s7 wr => ∃ (i : Nat) (T : TM) (J : JM), i ≤ N ∧ s7 = .int .i64 (i : Int) ∧ Aside0 (Calm i T J) ∧ Aside0 (St w (fun _ => False) wr [Res.agree w Fo, PTJ g gj T J, RowL s6 J.L])) (fun _ s7 _ => (16 - (intOf s7).toNat))
  case atStart => exact ⟨0, T1, J1, by omega, rfl, HC1, HST2⟩
  case round =>
    obtain ⟨i, T, J, hi, rfl, HC, HSR⟩ := hrel
    clear HST HST1 HST2 HO1 HC1 HL1
    by_cases hiN : i < N
    · have hlt : i < l0.length := by omega
      have b1 : decide ((i : Int) < (l0.length : Int)) = true := decide_eq_true (by omega)
      have b2 : decide ((i : Int) < 15) = true := decide_eq_true (by omega)
      obtain ⟨ad, A2, c2, A3, c3, x, eA, hx, hx0, hx1, hx2, hx3, l2, l3, g2, g3⟩ := deed_at HF.out i hlt
      subst eA
      have hqx : q33 x := by rw [hx, List.getD_eq_getElem?_getD, List.getElem?_eq_getElem hlt]; exact HQ.out _ (List.getElem_mem hlt)
      obtain ⟨k, kn, e0, e2⟩ : ∃ k kn, x.f0 = k ∧ x.f2 = kn := ⟨_, _, rfl, rfl⟩
      have hk := wf64 hqx.1
      rw [e0] at hx0 hk
      rw [e2] at hx2 l2 g2
      have HK := Aside0.mk (And.intro l2 g2)
      have HKB := Aside0.mk (show okB kn = true from wfB (by rw [← e2]; exact hqx.2.2.1.2.2))
      have HKR := Aside0.mk hk
      have HX := Aside0.mk (And.intro hx0 hx2)
      clear hx0 hx2
      have HSA := Aside0.mk (show St w (fun _ => False) wr [Res.agree w Fo, PTJ g gj T J, RowL u6 J.L, RowB (.slice none 0 0) []] from St.nil HSR.out _ _)
      clear hk hqx l2 g2 l3 g3 hx1 hx3 e0 e2 hx
      go_wp2_with (at_builtin; refine St.app_int (k := .u8) rfl (.tmp 39) (.tmp 42) 30 5 1 rfl Try.underlying30 hinfoB (by decide) (HSA.out.alloc _) 3 (.slice none 0 0) [] [(i : Int)] _ 1 1 rfl rfl rfl (by decide) (lit1_C (heap_alloc_new _ _)) (by simp) ?_)
      intro v3 w3 h3
      obtain ⟨Ao, co, ev3, hco, _⟩ := row_slice h3 3 rfl
      subst ev3
      have HS3 := Aside0.mk (show St w (fun _ => False) w3 [Res.agree w Fo, PTJ g gj T J, RowL u6 J.L, RowB (.slice Ao 1 co) [(i : Int)]] from h3)
      clear h3 HSA HSR hco
      have hx2 := pw_cell_below HS3.out.below HX.out.2
      have hkc := HK.out.1
      go_wp2_with fail
      refine (few17.calls A2 c2 kn 60 w3 hkc (by decide)).mono ?_
      rintro e w3' ⟨rfl, rfl⟩
      have HY := Aside0.mk (show (kn.take 60).length ≤ 60 from by rw [List.length_take]; omega)
      have HYB := Aside0.mk (okB_take HKB.out 60)
      have HYF := Aside0.mk (F_take HK.out.2 60)
      obtain ⟨y, ey⟩ : ∃ y, kn.take 60 = y := ⟨_, rfl⟩
      rw [ey] at HY HYB HYF ⊢
      clear ey hx2 hkc HK HKB
      go_wp2_with (at_builtin; refine St.app_int (k := .u8) rfl (.tmp 44) (.tmp 50) 30 5 1 rfl Try.underlying30 hinfoB (by decide) HS3.out 3 (.slice Ao 1 co) [(i : Int)] y A2 y.length c2 rfl rfl rfl (by decide) (HYF.out _ (agree_of HS3.out)) (by have := HY.out; simp; omega) ?_)
      intro v4 w4 h4
      have HR := Aside0.mk (show 1 ≤ ((i : Int) :: y).length ∧ ((i : Int) :: y).length ≤ 61 from by have := HY.out; simp; omega)
      have HRB := Aside0.mk (show okB ((i : Int) :: y) = true from okB_append (a := [(i : Int)]) (okB_of fun z hz => by rw [List.mem_singleton.1 hz]; exact (show (0 : Int) ≤ (i : Int) ∧ (i : Int) ≤ 255 by omega)) HYB.out)
      obtain ⟨r, er⟩ : ∃ r, (i : Int) :: y = r := ⟨_, rfl⟩
      rw [er] at HR HRB
      have h4 := (show St w (fun _ => False) w4 [Res.agree w Fo, PTJ g gj T J, RowL u6 J.L, RowB v4 r] from by rw [← er]; exact h4)
      obtain ⟨Ao, co, ev4, _, _⟩ := row_slice h4 3 rfl
      subst ev4
      have HS4 := Aside0.mk (show St w (fun _ => False) w4 [Res.agree w Fo, PTJ g gj T J, RowL u6 J.L, RowB (.slice Ao r.length co) r, RowB (.slice none 0 0) []] from St.nil h4 _ _)
      clear h4 HS3 HY HYB HYF er
      have HOC := Aside0.mk (row_C HS4.out 3 rfl).2.2
      go_wp2_with (at_builtin; refine St.app_int (k := .u8) rfl (.tmp 52) (.tmp 53) 30 5 1 rfl Try.underlying30 hinfoB (by decide) HS4.out 4 (.slice none 0 0) [] r Ao r.length co rfl rfl rfl (by decide) HOC.out (by have := HR.out; simp; omega) ?_)
      intro v5 w5 h5
      obtain ⟨Ak, ck, ev5, hck, _⟩ := row_slice h5 4 rfl
      subst ev5
      have HS5 := Aside0.mk (show St w (fun _ => False) w5 [Res.agree w Fo, PTJ g gj T J, RowL u6 J.L, RowB (.slice Ao r.length co) r, RowB (.slice Ak r.length ck) r] from h5)
      clear h5 HS4 HOC hck
      have hx0 := pw_cell_below HS5.out.below HX.out.1
      go_wp2_with fail
      refine (pick_at HS5.out k 3 (by decide)).mono ?_
      rintro e w6 ⟨rfl, h6⟩
      have HS6 := Aside0.mk h6
      clear h6 hx0 HS5
      have hco := (row_C HS6.out 3 rfl).2.1
      by_cases hp : pk k 3 = 1
      · have b3 : (pk k 3 == 1) = true := by simpa using hp
        have HS7 := Aside0.mk (lit_at HS6.out (.cells #[.slice Ao r.length co] 30))
        obtain ⟨T', J', hre, hC', hL'⟩ := calm_renew HC.out (l := [r]) (by simp) (fun x hx => by rw [List.mem_singleton.1 hx]; have := HR.out; omega) (fun x hx => by rw [List.mem_singleton.1 hx]; exact HRB.out) (by omega)
        have HRE := Aside0.mk hre
        have HC' := Aside0.mk hC'
        have HL' := Aside0.mk hL'
        clear hre hC' hL' hp
        go_wp2_with fail
        refine (renew_at (l := [r]) HS7.out 1 rfl (by decide) HC.out.ok (by omega) HC.out.good.sd (by have := HC.out.good.gen; omega) (by simp) (fun W' hW => ?_)).mono ?_
        · obtain ⟨ok3, hp3⟩ := hW 3 _ (by decide) rfl
          obtain ⟨ok5, hp5⟩ := hW 5 _ (by decide) rfl
          have h4 := Kd.R_reads' (show (Kd.int .u8).R 5 W' 0 ok3 (.slice Ao r.length co) r from hp3)
          exact rows1_C h4.2.1 h4.2.2 hp5.2
        rw [HRE.out]
        rintro e w8 ⟨rfl, h8⟩
        have HS8 := Aside0.mk (show St w (fun _ => False) w8 [Res.agree w Fo, PTJ g gj T' J', RowL (.slice none 0 0) [], RowB (.slice Ao r.length co) r, RowB (.slice Ak r.length ck) r] from
          St.turn (show St w (fun _ => False) w8 [Res.agree w Fo, PTJ g gj T' J', RowL u6 J.L, RowB (.slice Ao r.length co) r, RowB (.slice Ak r.length ck) r] from drops_at (Xs := [Res.blk w6.heap.size (.cells #[.slice Ao r.length co] 30)]) h8) 2 rfl (R' := RowL (.slice none 0 0) []) (fun ok hp => Kd.R_nil _ _ _ _ _))
        clear h8 HS7 HS6 HRE b3 hco
        go_wp2_with (at_builtin; refine St.app_row rfl (.tmp 69) (.tmp 71) 29 30 rfl Try.underlying29 hinfoR HS8.out 2 4 (.slice none 0 0) (.slice Ak r.length ck) [] r rfl rfl rfl rfl (by decide) (by decide) (by decide) (by simp) ?_)
        intro v9 w9 h9
        have HS9 := Aside0.mk (show St w (fun _ => False) w9 [Res.agree w Fo, PTJ g gj T' J', RowL v9 J'.L, RowB (.slice Ao r.length co) r] from by rw [HL'.out]; exact drops_at (Xs := [Res.any]) h9)
        clear h9 HS8
        obtain ⟨Aw, cw, ew, _, _⟩ := row_slice HS9.out 2 rfl
        subst ew
        obtain ⟨rn, ern⟩ : ∃ n, r.length = n := ⟨_, rfl⟩
        have HSP := Aside0.mk (show St w (fun _ => False) w9 [Res.agree w Fo, PTJ g gj T' J', RowL (.slice Aw J'.L.length cw) J'.L, Pad Ao rn] from by rw [← ern]; exact St.turn HS9.out 3 rfl (fun ok hp => pad_of_row hp))
        have hrn : rn ≤ 61 := by rw [← ern]; exact HR.out.2
        rw [ern]
        clear HS9 HR HRB ern
        obtain ⟨jn, ejn⟩ : ∃ n, J'.L.length = n := ⟨_, rfl⟩
        have hjn : jn ≤ 21 := by rw [← ejn]; have := HC'.out.L; omega
        rw [ejn] at HSP ⊢
        obtain ⟨wo, ewo⟩ : ∃ wo : World, wo = wr := ⟨_, rfl⟩
        subst ewo
        go_wp2_with fail
        go_loopw [10] (fun s10 wr => ∃ q : Nat, q ≤ rn ∧ s10 = .int .i64 (q : Int) ∧ Aside0 (St w (fun _ => False) wr [Res.agree w Fo, PTJ g gj T' J', RowL (.slice Aw jn cw) J'.L, Pad Ao rn])) (fun s10 _ => (rn + 1 - (intOf s10).toNat))
        case atStart => exact ⟨0, by omega, rfl, HSP⟩
        case round =>
          obtain ⟨q, hq, rfl, HSE⟩ := hrel
          clear HSP
          by_cases hqn : q < rn
          · obtain ⟨g17, v17, eA17, hg2, hg3, hset⟩ := pad_at HSE.out 3 rfl (by decide) q hqn
            have b6 : decide ((q : Int) < (rn : Int)) = true := decide_eq_true (by omega)
            have hq0 : (0 : Int) ≤ (q : Int) := by omega
            have hq1 : (q : Int) < (rn : Int) := by omega
            have HNEW := Aside0.mk (hset (.int .u8 7))
            rw [eA17] at HNEW ⊢
            clear hset
            go_wp2_with fail
            rw [← eA17] at HNEW ⊢
            go_roundw
            case rel => exact ⟨q + 1, by omega, by simp, HNEW⟩
            case measure => simp [intOf]; omega
          · have eq : q = rn := by omega
            subst eq
            have b6 : decide ((q : Int) < (q : Int)) = false := decide_eq_false (by omega)
            have HSF := Aside0.mk (show St w (fun _ => False) wr [Res.agree w Fo, PTJ g gj T' J', RowL (.slice Aw jn cw) J'.L] from drops_at (Xs := [Pad Ao q]) HSE.out)
            clear HSE
            go_wp2_with fail
            refine (records_at HSF.out 1 rfl (by omega) (fun r hr => by have := HC'.out.rcs r hr; omega)).mono ?_
            rintro e w10 ⟨A9, c9, rfl, _, _, _, h10⟩
            have h11 := St.turn h10 3 rfl (fun ok hp => hull_of_rows hp)
            have HLN := Aside0.mk (show ∀ p, (J'.L.getD p []).length ≤ 70 from fun p => by
              rw [List.getD_eq_getElem?_getD]
              by_cases hpl : p < J'.L.length
              · rw [List.getElem?_eq_getElem hpl]; exact (HC'.out.rcs _ (List.getElem_mem hpl)).2
              · rw [List.getElem?_eq_none (by omega)]; simp)
            obtain ⟨lens, eln⟩ : ∃ f : Nat → Nat, f = fun p => (J'.L.getD p []).length := ⟨_, rfl⟩
            have HLB := Aside0.mk (show ∀ p, lens p ≤ 70 from by rw [eln]; exact HLN.out)
            rw [← eln] at h11
            rw [ejn] at h11 ⊢
            have HSG := Aside0.mk (show St w (fun _ => False) w10 [Res.agree w Fo, PTJ g gj T' J', RowL (.slice Aw jn cw) J'.L, Hull A9 jn lens] from h11)
            clear h10 h11 HSF HLN eln hrn hq hqn
            go_wp2_with fail
            go_loopw [12] (fun s12 wr => ∃ p : Nat, p ≤ jn ∧ s12 = .int .i64 (p : Int) ∧ Aside0 (St w (fun _ => False) wr [Res.agree w Fo, PTJ g gj T' J', RowL (.slice Aw jn cw) J'.L, Hull A9 jn lens])) (fun s12 _ => (jn + 1 - (intOf s12).toNat))
            case atStart => exact ⟨0, by omega, rfl, HSG⟩
            case round =>
              obtain ⟨p, hpj, rfl, HSB⟩ := hrel
              clear HSG
              by_cases hpn : p < jn
              · have b5 : decide ((p : Int) < (jn : Int)) = true := decide_eq_true (by omega)
                have hp0 : (0 : Int) ≤ (p : Int) := by omega
                have hp1 : (p : Int) < (jn : Int) := by omega
                go_wp2_with fail
                obtain ⟨wo2, ewo2⟩ : ∃ wo2 : World, wo2 = wr := ⟨_, rfl⟩
                subst ewo2
                obtain ⟨ln, eln⟩ : ∃ ln, lens p = ln := ⟨_, rfl⟩
                have hln : ln ≤ 70 := by rw [← eln]; exact HLB.out p
                go_loopw [13] (fun s13 wr => ∃ q : Nat, q ≤ ln ∧ s13 = .int .i64 (q : Int) ∧ Aside0 (St w (fun _ => False) wr [Res.agree w Fo, PTJ g gj T' J', RowL (.slice Aw jn cw) J'.L, Hull A9 jn lens])) (fun s13 _ => (ln + 1 - (intOf s13).toNat))
                case atStart => exact ⟨0, by omega, rfl, HSB⟩
                case round =>
                  obtain ⟨q, hq, rfl, HSC⟩ := hrel
                  clear HSB
                  by_cases hqn : q < ln
                  · obtain ⟨g9, gi, cc, v9, eA9, hg1, hg2, hg3, hset⟩ := hull_at HSC.out 3 rfl (by decide) p q hpn (by rw [eln]; exact hqn)
                    have b6 : decide ((q : Int) < (ln : Int)) = true := decide_eq_true (by omega)
                    have hq0 : (0 : Int) ≤ (q : Int) := by omega
                    have hq1 : (q : Int) < (ln : Int) := by omega
                    have HNEW := Aside0.mk (hset (.int .u8 9))
                    rw [eln] at hg1
                    rw [eA9] at HNEW ⊢
                    clear hset
                    go_wp2_with fail
                    rw [← eA9] at HNEW ⊢
                    go_roundw
                    case rel => exact ⟨q + 1, by omega, by simp, HNEW⟩
                    case measure => simp [intOf]; omega
                  · obtain ⟨g9, B9, cc, eA9, hg1⟩ := hull_cell HSC.out 3 rfl p hpn
                    have eq : q = ln := by omega
                    rw [eln] at hg1
                    subst eq
                    have b6 : decide ((q : Int) < (q : Int)) = false := decide_eq_false (by omega)
                    rw [eA9]
                    go_wp2_with fail
                    rw [← eA9]
                    go_roundw
                    case rel => exact ⟨p + 1, by omega, by simp, HSC⟩
                    case measure => simp [intOf]; omega
              · have ej : jn = p := by omega
                subst ej
                have HDONE := Aside0.mk (show St w (fun _ => False) wr [Res.agree w Fo, PTJ g gj T' J', RowL (.slice Aw jn cw) J'.L] from drops_at (Xs := [Hull A9 jn lens]) HSB.out)
                have b5 : decide ((jn : Int) < (jn : Int)) = false := decide_eq_false (by omega)
                clear HSB
                go_wp2_with fail
                go_roundw
                case rel => exact ⟨i + 1, T', J', by omega, by simp, HC', HDONE⟩
                case measure => simp [intOf]; omega
      · have b3 : (pk k 3 == 1) = false := by simpa using hp
        obtain ⟨T', J', hre, hC', hL'⟩ := calm_append HC.out (r := r) (by have := HR.out; omega) HRB.out (by omega)
        have HRE := Aside0.mk hre
        have HC' := Aside0.mk hC'
        have HL' := Aside0.mk hL'
        clear hre hC' hL' hp
        go_wp2_with fail
        refine (append_at (r := r) HS6.out 1 rfl (by decide) HC.out.ok (by omega) hco (by have := HC.out.L; omega) (by have := HC.out.size (by omega); omega) (fun W' hW => ?_)).mono ?_
        · obtain ⟨ok3, hp3⟩ := hW 3 _ (by decide) rfl
          exact (Kd.R_reads' (show (Kd.int .u8).R 5 W' 0 ok3 (.slice Ao r.length co) r from hp3)).2.2
        rw [HRE.out]
        rintro e w8 ⟨rfl, h8⟩
        obtain ⟨Aw, cw, ew, _, _⟩ := row_slice h8 2 rfl
        subst ew
        have HS8 := Aside0.mk (show St w (fun _ => False) w8 [Res.agree w Fo, PTJ g gj T' J', RowL (.slice Aw J.L.length cw) J.L, RowB (.slice Ao r.length co) r, RowB (.slice Ak r.length ck) r] from h8)
        clear h8 HS6 HRE b3 hco
        go_wp2_with (at_builtin; refine St.app_row rfl (.tmp 69) (.tmp 71) 29 30 rfl Try.underlying29 hinfoR HS8.out 2 4 (.slice Aw J.L.length cw) (.slice Ak r.length ck) J.L r rfl rfl rfl rfl (by decide) (by decide) (by decide) (by have := HC.out.L; omega) ?_)
        intro v9 w9 h9
        have HS9 := Aside0.mk (show St w (fun _ => False) w9 [Res.agree w Fo, PTJ g gj T' J', RowL v9 J'.L, RowB (.slice Ao r.length co) r] from by rw [HL'.out]; exact drops_at (Xs := [Res.any]) h9)
        clear h9 HS8
        obtain ⟨Aw, cw, ew, _, _⟩ := row_slice HS9.out 2 rfl
        subst ew
        obtain ⟨rn, ern⟩ : ∃ n, r.length = n := ⟨_, rfl⟩
        have HSP := Aside0.mk (show St w (fun _ => False) w9 [Res.agree w Fo, PTJ g gj T' J', RowL (.slice Aw J'.L.length cw) J'.L, Pad Ao rn] from by rw [← ern]; exact St.turn HS9.out 3 rfl (fun ok hp => pad_of_row hp))
        have hrn : rn ≤ 61 := by rw [← ern]; exact HR.out.2
        rw [ern]
        clear HS9 HR HRB ern
        obtain ⟨jn, ejn⟩ : ∃ n, J'.L.length = n := ⟨_, rfl⟩
        have hjn : jn ≤ 21 := by rw [← ejn]; have := HC'.out.L; omega
        rw [ejn] at HSP ⊢
        obtain ⟨wo, ewo⟩ : ∃ wo : World, wo = wr := ⟨_, rfl⟩
        subst ewo
        go_wp2_with fail
        go_loopw [10] (fun s10 wr => ∃ q : Nat, q ≤ rn ∧ s10 = .int .i64 (q : Int) ∧ Aside0 (St w (fun _ => False) wr [Res.agree w Fo, PTJ g gj T' J', RowL (.slice Aw jn cw) J'.L, Pad Ao rn])) (fun s10 _ => (rn + 1 - (intOf s10).toNat))
        case atStart => exact ⟨0, by omega, rfl, HSP⟩
        case round =>
          obtain ⟨q, hq, rfl, HSE⟩ := hrel
          clear HSP
          by_cases hqn : q < rn
          · obtain ⟨g17, v17, eA17, hg2, hg3, hset⟩ := pad_at HSE.out 3 rfl (by decide) q hqn
            have b6 : decide ((q : Int) < (rn : Int)) = true := decide_eq_true (by omega)
            have hq0 : (0 : Int) ≤ (q : Int) := by omega
            have hq1 : (q : Int) < (rn : Int) := by omega
            have HNEW := Aside0.mk (hset (.int .u8 7))
            rw [eA17] at HNEW ⊢
            clear hset
            go_wp2_with fail
            rw [← eA17] at HNEW ⊢
            go_roundw
            case rel => exact ⟨q + 1, by omega, by simp, HNEW⟩
            case measure => simp [intOf]; omega
          · have eq : q = rn := by omega
            subst eq
            have b6 : decide ((q : Int) < (q : Int)) = false := decide_eq_false (by omega)
            have HSF := Aside0.mk (show St w (fun _ => False) wr [Res.agree w Fo, PTJ g gj T' J', RowL (.slice Aw jn cw) J'.L] from drops_at (Xs := [Pad Ao q]) HSE.out)
            clear HSE
            go_wp2_with fail
            refine (records_at HSF.out 1 rfl (by omega) (fun r hr => by have := HC'.out.rcs r hr; omega)).mono ?_
            rintro e w10 ⟨A9, c9, rfl, _, _, _, h10⟩
            have h11 := St.turn h10 3 rfl (fun ok hp => hull_of_rows hp)
            have HLN := Aside0.mk (show ∀ p, (J'.L.getD p []).length ≤ 70 from fun p => by
              rw [List.getD_eq_getElem?_getD]
              by_cases hpl : p < J'.L.length
              · rw [List.getElem?_eq_getElem hpl]; exact (HC'.out.rcs _ (List.getElem_mem hpl)).2
              · rw [List.getElem?_eq_none (by omega)]; simp)
            obtain ⟨lens, eln⟩ : ∃ f : Nat → Nat, f = fun p => (J'.L.getD p []).length := ⟨_, rfl⟩
            have HLB := Aside0.mk (show ∀ p, lens p ≤ 70 from by rw [eln]; exact HLN.out)
            rw [← eln] at h11
            rw [ejn] at h11 ⊢
            have HSG := Aside0.mk (show St w (fun _ => False) w10 [Res.agree w Fo, PTJ g gj T' J', RowL (.slice Aw jn cw) J'.L, Hull A9 jn lens] from h11)
            clear h10 h11 HSF HLN eln hrn hq hqn
            go_wp2_with fail
            go_loopw [12] (fun s12 wr => ∃ p : Nat, p ≤ jn ∧ s12 = .int .i64 (p : Int) ∧ Aside0 (St w (fun _ => False) wr [Res.agree w Fo, PTJ g gj T' J', RowL (.slice Aw jn cw) J'.L, Hull A9 jn lens])) (fun s12 _ => (jn + 1 - (intOf s12).toNat))
            case atStart => exact ⟨0, by omega, rfl, HSG⟩
            case round =>
              obtain ⟨p, hpj, rfl, HSB⟩ := hrel
              clear HSG
              by_cases hpn : p < jn
              · have b5 : decide ((p : Int) < (jn : Int)) = true := decide_eq_true (by omega)
                have hp0 : (0 : Int) ≤ (p : Int) := by omega
                have hp1 : (p : Int) < (jn : Int) := by omega
                go_wp2_with fail
                obtain ⟨wo2, ewo2⟩ : ∃ wo2 : World, wo2 = wr := ⟨_, rfl⟩
                subst ewo2
                obtain ⟨ln, eln⟩ : ∃ ln, lens p = ln := ⟨_, rfl⟩
                have hln : ln ≤ 70 := by rw [← eln]; exact HLB.out p
                go_loopw [13] (fun s13 wr => ∃ q : Nat, q ≤ ln ∧ s13 = .int .i64 (q : Int) ∧ Aside0 (St w (fun _ => False) wr [Res.agree w Fo, PTJ g gj T' J', RowL (.slice Aw jn cw) J'.L, Hull A9 jn lens])) (fun s13 _ => (ln + 1 - (intOf s13).toNat))
                case atStart => exact ⟨0, by omega, rfl, HSB⟩
                case round =>
                  obtain ⟨q, hq, rfl, HSC⟩ := hrel
                  clear HSB
                  by_cases hqn : q < ln
                  · obtain ⟨g9, gi, cc, v9, eA9, hg1, hg2, hg3, hset⟩ := hull_at HSC.out 3 rfl (by decide) p q hpn (by rw [eln]; exact hqn)
                    have b6 : decide ((q : Int) < (ln : Int)) = true := decide_eq_true (by omega)
                    have hq0 : (0 : Int) ≤ (q : Int) := by omega
                    have hq1 : (q : Int) < (ln : Int) := by omega
                    have HNEW := Aside0.mk (hset (.int .u8 9))
                    rw [eln] at hg1
                    rw [eA9] at HNEW ⊢
                    clear hset
                    go_wp2_with fail
                    rw [← eA9] at HNEW ⊢
                    go_roundw
                    case rel => exact ⟨q + 1, by omega, by simp, HNEW⟩
                    case measure => simp [intOf]; omega
                  · obtain ⟨g9, B9, cc, eA9, hg1⟩ := hull_cell HSC.out 3 rfl p hpn
                    have eq : q = ln := by omega
                    rw [eln] at hg1
                    subst eq
                    have b6 : decide ((q : Int) < (q : Int)) = false := decide_eq_false (by omega)
                    rw [eA9]
                    go_wp2_with fail
                    rw [← eA9]
                    go_roundw
                    case rel => exact ⟨p + 1, by omega, by simp, HSC⟩
                    case measure => simp [intOf]; omega
              · have ej : jn = p := by omega
                subst ej
                have HDONE := Aside0.mk (show St w (fun _ => False) wr [Res.agree w Fo, PTJ g gj T' J', RowL (.slice Aw jn cw) J'.L] from drops_at (Xs := [Hull A9 jn lens]) HSB.out)
                have b5 : decide ((jn : Int) < (jn : Int)) = false := decide_eq_false (by omega)
                clear HSB
                go_wp2_with fail
                go_roundw
                case rel => exact ⟨i + 1, T', J', by omega, by simp, HC', HDONE⟩
                case measure => simp [intOf]; omega
    · have eiN : N = i := by omega
      subst eiN
      clear hi hiN
      rcases hN3 with eN | ⟨eN, eN2⟩
      · have b1 : decide ((N : Int) < (l0.length : Int)) = false := decide_eq_false (by omega)
        obtain ⟨Aw, cw, ew, hcw, _⟩ := row_slice HSR.out 2 rfl
        subst ew
        go_wp2_with fail
        refine (records_at HSR.out 1 rfl (by have := HC.out.L; omega) (fun r hr => by have := HC.out.rcs r hr; omega)).mono ?_
        rintro e v3 ⟨A9, c9, rfl, hc9, hC9, _, h3⟩
        have HST3 := Aside0.mk (show St w (fun _ => False) v3 [Res.agree w Fo, PTJ g gj T J, RowL (.slice Aw J.L.length cw) J.L] from drops_at (Xs := [_]) h3)
        have HC9 := Aside0.mk (And.intro hc9 hC9)
        have HCW := Aside0.mk (row_C HST3.out 2 rfl).2
        clear h3 hc9 hC9 hcw
        go_wp2_with fail
        refine (same_at HST3.out HC9.out.2 HC9.out.1 HCW.out.2 HCW.out.1 (by have := HC.out.L; omega) (fun r hr => by have := HC.out.rcs r hr; omega)).mono ?_
        rw [decide_eq_true (rfl : J.L = J.L)]
        rintro e v4 ⟨rfl, h4⟩
        have HST4 := Aside0.mk h4
        clear h4
        go_wp2_with fail
        refine (lives_at HST4.out).mono ?_
        rintro e v5 ⟨rfl, h5⟩
        have HST5 := Aside0.mk h5
        clear h5
        go_wp2_with fail
        go_ret
        exact ⟨rfl, HST5.out.below⟩
      · have b1 : decide ((N : Int) < (l0.length : Int)) = true := decide_eq_true (by omega)
        have b2 : decide ((N : Int) < 15) = false := decide_eq_false (by omega)
        obtain ⟨Aw, cw, ew, hcw, _⟩ := row_slice HSR.out 2 rfl
        subst ew
        go_wp2_with fail
        refine (records_at HSR.out 1 rfl (by have := HC.out.L; omega) (fun r hr => by have := HC.out.rcs r hr; omega)).mono ?_
        rintro e v3 ⟨A9, c9, rfl, hc9, hC9, _, h3⟩
        have HST3 := Aside0.mk (show St w (fun _ => False) v3 [Res.agree w Fo, PTJ g gj T J, RowL (.slice Aw J.L.length cw) J.L] from drops_at (Xs := [_]) h3)
        have HC9 := Aside0.mk (And.intro hc9 hC9)
        have HCW := Aside0.mk (row_C HST3.out 2 rfl).2
        clear h3 hc9 hC9 hcw
        go_wp2_with fail
        refine (same_at HST3.out HC9.out.2 HC9.out.1 HCW.out.2 HCW.out.1 (by have := HC.out.L; omega) (fun r hr => by have := HC.out.rcs r hr; omega)).mono ?_
        rw [decide_eq_true (rfl : J.L = J.L)]
        rintro e v4 ⟨rfl, h4⟩
        have HST4 := Aside0.mk h4
        clear h4
        go_wp2_with fail
        refine (lives_at HST4.out).mono ?_
        rintro e v5 ⟨rfl, h5⟩
        have HST5 := Aside0.mk h5
        clear h5
        go_wp2_with fail
        go_ret
        exact ⟨rfl, HST5.out.below⟩
end Go.Proofs.Ytmfmoddaejoekaa.P
