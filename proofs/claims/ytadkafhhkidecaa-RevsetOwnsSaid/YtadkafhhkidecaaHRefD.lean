/- Contracts, typed by hand: the document's set: Delta. -/
import Derived.Test.YtadkafhhkidecaaHRefC
set_option linter.unusedVariables false
set_option linter.unusedSimpArgs false
namespace Go.Proofs.Ytadkafhhkidecaa.P
open Go.RowKit Go.Proofs.YtadkafhhkidecaaW.PrintWords Go.Proofs.YtadkafhhkidecaaW.PrintLast Go.Proofs.YtadkafhhkidecaaW.PrintMore
/-- What is told of a row's first j numbers. -/
def partTo (row : List Int) (kn j : Nat) : List Int := (row.take j).drop kn
theorem partTo_zero (row : List Int) (kn : Nat) : partTo row kn 0 = [] := by simp [partTo]
theorem partTo_all (row : List Int) (kn : Nat) : partTo row kn row.length = row.drop kn := by simp [partTo]
theorem partTo_len (row : List Int) (kn j : Nat) : (partTo row kn j).length ≤ row.length := by rw [partTo, List.length_drop, List.length_take]; omega
theorem partTo_take {row : List Int} {kn j : Nat} (hj : j < row.length) (h : kn ≤ j) : partTo row kn (j + 1) = partTo row kn j ++ [row[j]] := by
  rw [partTo, partTo, List.take_succ_eq_append_getElem hj, List.drop_append_of_le_length (by rw [List.length_take]; omega)]
theorem partTo_skip {row : List Int} {kn j : Nat} (hj : j < row.length) (h : j < kn) : partTo row kn (j + 1) = partTo row kn j := by
  rw [partTo, partTo, List.drop_eq_nil_of_le (by rw [List.length_take]; omega), List.drop_eq_nil_of_le (by rw [List.length_take]; omega)]
theorem hcutTS (A : Option Addr) (n c m : Nat) (hm : m ≤ n) (hc : n ≤ c) : ∀ W : World, (Instr.slice 31 (.slice A n c) none (some (.int .i64 (m : Int))) none).run Try.prog W = .ok (.slice A m c) W := by
  obtain ⟨i0, hi, _, _, _⟩ := info_parts hinfo30B
  have := cut_to (P := Try.prog) 31 30 .i64 Try.underlying31 hi A n c (m : Int) (by omega) (by omega) hc
  simpa using this
set_option maxHeartbeats 8000000 in
set_option maxRecDepth 100000 in
theorem ref_Delta.calls (g : Nat) (L : List (List Int)) (hL : Good L) (A1 : Option Addr) (c1 : Nat) (known : List Int) (W : World) (ok : Nat → Prop) (hP : (RSet g L).P ok W) (hK : Kd.C (Kd.int .i64) W A1 known.length known) (hc1 : known.length ≤ c1) :
    Calls Try.prog 17 #[.pointer (some ⟨g, 0, none⟩), .slice A1 known.length c1] W fun e W' => ∃ A c, e = .returned (.slice A (deltaS L known).length c) ∧ (deltaS L known).length ≤ c ∧ (Kd.slice 3 (Kd.int .i64)).C W' A (deltaS L known).length (deltaS L known) ∧ Below W.heap.size W W' := by
  have HP := Aside0.mk hP
  have HL := Aside0.mk hL
  have HK := Aside0.mk hK
  clear hP hL hK
  go_enter Try.func17, Try.ntmps17
  go_wp2_with fail
  go_loopw [5, 6, 7] (fun s5 s6 s7 wr => ∃ i : Nat, i ≤ 16 ∧ s7 = .int .i64 ((i : Int) + 1) ∧ s6 = .int .i64 ((lastNe L known i : Nat) : Int) ∧ Aside0 ((Kd.slice 3 (Kd.int .i64)).R 30 wr 0 (fun k => W.heap.size ≤ k) s5 (partsS L known i)) ∧ Aside0 (Below W.heap.size W wr)) (fun _ _ s7 _ => (17 - intOf s7).toNat)
  case atStart => exact ⟨0, by omega, rfl, rfl, ⟨Kd.R_nil _ _ _ _ _⟩, ⟨Below.refl _ _⟩⟩
  case round =>
    obtain ⟨i, hi, rfl, rfl, HR, HB⟩ := hrel
    have hln := lastNe_le L known i
    by_cases h16 : i < 16
    · obtain ⟨B, c, hcg, hbg, hc16, _, _, hRR⟩ := rset_open HP.out HL.out
      obtain ⟨A, c', hcB, hcap, hC⟩ := rset_row hRR HL.out i h16
      have hlen := HL.out.len i
      have HPS := Aside0.mk (show partS L known i = (L.getD i []).drop (getV known ((i : Int) + 1)).toNat from rfl)
      obtain ⟨row, erow⟩ : ∃ row, L.getD i [] = row := ⟨_, rfl⟩
      rw [erow] at hcB hcap hC hlen HPS
      have hgr := getV_range known ((i : Int) + 1)
      obtain ⟨kn, ek⟩ : ∃ kn : Nat, getV known ((i : Int) + 1) = (kn : Int) := ⟨(getV known ((i : Int) + 1)).toNat, by omega⟩
      rw [ek, Int.toNat_natCast] at HPS
      have HC := Aside0.mk hC
      have HCP := Aside0.mk hcap
      have HLN := Aside0.mk hlen
      have HEK := Aside0.mk ek
      have HHG := Aside0.mk hcg
      have HHB := Aside0.mk hcB
      have b1 : decide ((i : Int) + 1 ≤ 16) = true := decide_eq_true (by omega)
      have h0 : (0 : Int) ≤ (i : Int) := by omega
      have hi16 : (i : Int) < 16 := by omega
      clear hC hcap hlen hcg hcB erow hbg hRR ek
      go_wp2_with fail
      obtain ⟨wo, rfl⟩ : ∃ wo : World, wo = wr := ⟨_, rfl⟩
      have HRO := Aside0.mk (Kd.R_mono (Kd.R_bound HR.out) (ok' := fun k => W.heap.size ≤ k ∧ k < wo.heap.size) (fun k hk => ⟨hk.1, hk.2.2.1⟩))
      obtain ⟨uo, euo⟩ : ∃ uo, uo = u5 := ⟨_, rfl⟩
      rw [← euo] at HRO ⊢
      clear HR euo
      go_loopw [8, 9] (fun s8 s9 wr => ∃ j : Nat, j ≤ row.length ∧ s9 = .int .i64 (j : Int) ∧ Aside0 ((Kd.int .i64).R 3 wr 0 (fun k => wo.heap.size ≤ k) s8 (partTo row kn j)) ∧ Aside0 (Below wo.heap.size wo wr)) (fun _ s9 _ => (row.length - (intOf s9).toNat))
      case atStart => exact ⟨0, by omega, rfl, by rw [partTo_zero]; exact ⟨Kd.R_nil _ _ _ _ _⟩, ⟨Below.refl _ _⟩⟩
      case round =>
        obtain ⟨j, hj, rfl, HR8, HB8⟩ := hrel
        have HBW := Aside0.mk (below_step HB.out HB8.out)
        have hcg := pw_cell_below HBW.out HHG.out
        have hcB := pw_cell_below HBW.out HHB.out
        by_cases hlt : j < row.length
        · have b2 : decide ((j : Int) < (row.length : Int)) = true := decide_eq_true (by omega)
          have hjl : (j : Int) < (row.length : Int) := by omega
          have hj0 : (0 : Int) ≤ (j : Int) := by omega
          have hlen32 := HLN.out
          obtain ⟨ad, eA, hx⟩ := Kd.at_int (Kd.C_below HC.out HBW.out) (j : Int) (by omega) (by omega)
          subst eA
          have hrd : rd row (j : Int) = row[j] := rd_nat row j hlt
          rw [hrd, Int.toNat_natCast] at hx
          have HTK := Aside0.mk (fun h : kn ≤ j => partTo_take hlt h)
          have HSK := Aside0.mk (fun h : j < kn => partTo_skip hlt h)
          obtain ⟨x, ex⟩ : ∃ x, row[j] = x := ⟨_, rfl⟩
          rw [ex] at hx HTK
          clear hrd ex
          go_wp2_with fail
          refine (liveryref10_Get.calls 100 A1 c1 known ((i : Int) + 1) _ wr (Kd.C_below HK.out HBW.out) hc1 (ref_Get 100 known _ (by decide))).mono ?_
          rintro e w1 ⟨rfl, hd1⟩
          rw [HEK.out]
          have HR1 := Aside0.mk (Kd.R_below HR8.out hd1.below)
          have HB1 := Aside0.mk (below_step HB8.out hd1.below)
          replace hcg := pw_cell_below hd1.below hcg
          replace hcB := pw_cell_below hd1.below hcB
          replace hx := pw_cell_below hd1.below hx
          clear hd1 HBW
          by_cases hk : kn ≤ j
          · have hkb : decide ((kn : Int) ≤ (j : Int)) = true := decide_eq_true (by omega)
            have hkc : decide (kn ≤ j) = true := decide_eq_true hk
            have HT := Aside0.mk (HTK.out hk)
            have hpl := partTo_len row kn j
            clear hk
            go_wp2_with (at_builtin; refine app_int (k := .i64) rfl (.tmp 32) (.tmp 44) 30 3 8 rfl Try.underlying30 hinfo3 (by decide) u8 (partTo row kn j) [x] (some ⟨w1.heap.size, 0, none⟩) 1 1 (fun k => wo.heap.size ≤ k) rfl rfl ?cO ?cR ?cL ?_)
            case cO => exact Kd.R_alloc HR1.out _
            case cR => exact lit_C (k := .i64) w1 3 [x] _ rfl (by simp)
            case cL => have := HLN.out; omega
            intro v2 w2 hR2 hg2
            rw [← HT.out] at hR2
            have HB2 := Aside0.mk (pw_below_grown (below_alloc HB1.out (.cells #[.int .i64 x] 3)) _ (by have := HB1.out.size; simp; omega) hg2 (fun k hk => HR1.out.1 k hk))
            have HR2 := Aside0.mk (Kd.R_mono hR2 (ok' := fun k => wo.heap.size ≤ k) (fun k hk => by have := HB1.out.size; omega))
            clear hR2 hg2 hcg hcB hx HR1 HB1 HT
            go_wp2_with fail
            go_roundw
            case rel => exact ⟨j + 1, by omega, by simp, HR2, HB2⟩
            case measure => simp [intOf]; omega
          · have hkb : decide ((kn : Int) ≤ (j : Int)) = false := decide_eq_false (by omega)
            have hkc : decide (kn ≤ j) = false := decide_eq_false hk
            have HS := Aside0.mk (HSK.out (by omega))
            clear hk
            go_wp2_with fail
            go_roundw
            case rel => exact ⟨j + 1, by omega, by simp, by rw [HS.out]; exact HR1, HB1⟩
            case measure => simp [intOf]; omega
        · have ej : j = row.length := by omega
          subst ej
          have b2 : decide ((row.length : Int) < (row.length : Int)) = false := decide_eq_false (by omega)
          rw [partTo_all, ← HPS.out] at HR8
          obtain ⟨pt, ept⟩ : ∃ pt, partS L known i = pt := ⟨_, rfl⟩
          rw [ept] at HR8
          have HPT := Aside0.mk ept
          obtain ⟨A8, c8, ev8⟩ := Kd.R_slice HR8.out
          subst ev8
          have HPN := Aside0.mk (show partsS L known (i + 1) = partsS L known i ++ [pt] by rw [partsS_succ, ept])
          have HL1 := Aside0.mk (show lastNe L known (i + 1) = if pt = [] then lastNe L known i else i + 1 by rw [← ept]; rfl)
          have hplen : pt.length ≤ 32 := by rw [← ept, HPS.out, List.length_drop]; have := HLN.out; omega
          have HRO8 := Aside0.mk (Kd.R_step HRO.out (w1 := wr) (fun k hk hlt => HB8.out.block k hk.2))
          have hrol : (partsS L known i).length = i := partsS_length L known i
          clear ept hj hlt HRO
          by_cases hpe : pt = []
          · have hb1 : decide ((0 : Int) < (pt.length : Int)) = false := decide_eq_false (by rw [hpe]; decide)
            have hb2 : decide (0 < pt.length) = false := decide_eq_false (by rw [hpe]; decide)
            have HL2 := Aside0.mk (show lastNe L known (i + 1) = lastNe L known i by rw [HL1.out, if_pos hpe])
            clear hpe
            go_wp2_with (at_builtin; refine Kd.R_append (Kd.slice 3 (Kd.int .i64)) (w0 := wr) 0 rfl (.tmp 50) (.tmp 52) 31 30 (.slice none 0 0) 24 rfl Try.underlying31 hinfo30B rfl Nat.one_pos (by decide) uo (partsS L known i) pt [.slice A8 pt.length c8] (fun k => W.heap.size ≤ k) (fun k => wo.heap.size ≤ k) rfl rfl ⟨_, rfl, HR8.out⟩ (fun k hk => ⟨Nat.le_trans HB.out.size hk, fun he => by have h9 := (HRO8.out.1 k he.symm).2; omega⟩) (fun k hk => Nat.le_trans HBW.out.size hk) (Kd.R_mono HRO8.out (fun k hk => hk.1)) (Below.refl _ _) (Nat.zero_le _) ?cL ?_)
            case cL => rw [hrol]; omega
            intro v2 w2 hR2 _ hg2 _
            rw [← HPN.out] at hR2
            have HB2 := Aside0.mk (pw_below_grown HBW.out _ HBW.out.size hg2 (fun k hk => (HRO8.out.1 k hk).1))
            have HR2 := Aside0.mk hR2
            clear hR2 hg2 HR8 HB8 HBW hcg hcB HRO8 HPN
            go_wp2_with fail
            go_roundw
            case rel => exact ⟨i + 1, by omega, by simp, by rw [HL2.out], HR2, HB2⟩
            case measure => simp [intOf]; omega
          · have hpos : 0 < pt.length := List.length_pos_iff.2 hpe
            have hb1 : decide ((0 : Int) < (pt.length : Int)) = true := decide_eq_true (by omega)
            have hb2 : decide (0 < pt.length) = true := decide_eq_true hpos
            have HL2 := Aside0.mk (show lastNe L known (i + 1) = i + 1 by rw [HL1.out, if_neg hpe])
            clear hpe
            go_wp2_with (at_builtin; refine Kd.R_append (Kd.slice 3 (Kd.int .i64)) (w0 := wr) 0 rfl (.tmp 50) (.tmp 52) 31 30 (.slice none 0 0) 24 rfl Try.underlying31 hinfo30B rfl Nat.one_pos (by decide) uo (partsS L known i) pt [.slice A8 pt.length c8] (fun k => W.heap.size ≤ k) (fun k => wo.heap.size ≤ k) rfl rfl ⟨_, rfl, HR8.out⟩ (fun k hk => ⟨Nat.le_trans HB.out.size hk, fun he => by have h9 := (HRO8.out.1 k he.symm).2; omega⟩) (fun k hk => Nat.le_trans HBW.out.size hk) (Kd.R_mono HRO8.out (fun k hk => hk.1)) (Below.refl _ _) (Nat.zero_le _) ?cL ?_)
            case cL => rw [hrol]; omega
            intro v2 w2 hR2 _ hg2 _
            rw [← HPN.out] at hR2
            have HB2 := Aside0.mk (pw_below_grown HBW.out _ HBW.out.size hg2 (fun k hk => (HRO8.out.1 k hk).1))
            have HR2 := Aside0.mk hR2
            clear hR2 hg2 HR8 HB8 HBW hcg hcB HRO8 HPN
            go_wp2_with fail
            go_roundw
            case rel => exact ⟨i + 1, by omega, by simp, by rw [HL2.out]; simp, HR2, HB2⟩
            case measure => simp [intOf]; omega
    · have e16 : i = 16 := by omega
      subst e16
      obtain ⟨A5, c5, ev⟩ := Kd.R_slice HR.out
      rw [partsS_length] at ev
      subst ev
      have hr := Kd.R_reads' HR.out
      rw [partsS_length] at hr
      have hcut := hcutTS A5 16 c5 (lastNe L known 16) hln hr.2.1
      have hC := Kd.C_take (m := lastNe L known 16) (by rw [partsS_length]; exact hr.2.2) (by rw [partsS_length]; exact hln)
      have hdl : (deltaS L known).length = lastNe L known 16 := deltaTo_length L known 16
      have HF := Aside0.mk (show (deltaS L known).length ≤ c5 ∧ (Kd.slice 3 (Kd.int .i64)).C wr A5 (deltaS L known).length (deltaS L known) from ⟨by omega, hC⟩)
      rw [← hdl] at hcut
      have HDL := Aside0.mk hdl
      rw [← hdl]
      clear hr hC hdl h16 hi hln
      go_wp2_with fail
      go_ret
      exact ⟨_, _, rfl, HF.out.1, HF.out.2, HB.out⟩
end Go.Proofs.Ytadkafhhkidecaa.P
