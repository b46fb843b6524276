/- Contracts, typed by hand: the document's set: Merge, Delta. -/
import Derived.Test.YtadkafhhkidecaaHRefB
set_option linter.unusedVariables false
set_option linter.unusedSimpArgs false
namespace Go.Proofs.Ytadkafhhkidecaa.P
open Go.RowKit Go.Proofs.YtadkafhhkidecaaW.PrintWords Go.Proofs.YtadkafhhkidecaaW.PrintLast Go.Proofs.YtadkafhhkidecaaW.PrintMore
theorem begins_iff {row nx : List Int} (h : row.length < nx.length) : nx.take row.length = row ↔ (nx.take row.length = row ∨ row.take nx.length = nx) :=
  ⟨.inl, fun hh => hh.elim id (fun h2 => by have := congrArg List.length h2; rw [List.length_take] at this; omega)⟩
/-- Row i of the document's set is put, behind what only made memory. -/
theorem rset_put {g : Nat} {L : List (List Int)} {ok : Nat → Prop} {W W1 : World} (hP : (RSet g L).P ok W) (hL : Good L) (hB : Below W.heap.size W W1) (i : Nat) (hi : i < 16) {u : Value} {x : List Int} (hR : (Kd.int .i64).R 3 W1 0 (fun k => W.heap.size ≤ k) u x) :
    ∃ B c, W1.cell? ⟨g, 0, none⟩ = some (.slice (some ⟨B, 0, none⟩) 16 c) ∧ (∃ u0, W1.cell? ⟨B, i, none⟩ = some u0) ∧ W1.frozen? ⟨B, i, none⟩ = false ∧ 16 ≤ c ∧ Turned ok W (W1.setCell ⟨B, i, none⟩ u) (RSet g (L.set i x)) := by
  obtain ⟨B, c, hcg, hbg, hc16, hog, hBg, hRR⟩ := rset_open ((RSet g L).bound hP) hL
  have hglt := blk_lt hbg
  have hBlt := Kd.R_lt hRR B rfl
  have hBok := hRR.1 B rfl
  have hR6 := Kd.R_below hRR hB
  have hbg6 := (hB.block g hglt).trans hbg
  have hp := rows_put (Kd.R_mono hR6 (ok' := fun k => (ok k ∨ W.heap.size ≤ k) ∧ k ≠ g) (fun k hk => ⟨.inl hk.1.1, hk.2⟩)) i hi (okp := fun k => W.heap.size ≤ k) hR (fun k hk => ⟨⟨.inr hk, fun he => by omega⟩, fun he => by omega⟩)
  obtain ⟨hu, hf⟩ := rows_cell hR6 i hi
  refine ⟨B, c, pw_cell_below hB hcg, hu, hf, hc16, (Keeps.of_below hB ok).set (.inl hBok.1.1) _, ?_⟩
  exact ⟨_, .inl hog.1, blk_far hbg6 (p := ⟨B, i, none⟩) (fun he => hBg he.symm) _, hp.1⟩
set_option maxHeartbeats 8000000 in
set_option maxRecDepth 100000 in
theorem ref_Merge.calls (g : Nat) (L : List (List Int)) (hL : Good L) (A1 : Option Addr) (c1 : Nat) (known : List Int) (A2 : Option Addr) (c2 : Nat) (more : List (List Int)) (W : World) (ok : Nat → Prop) (hP : (RSet g L).P ok W)
    (hK : ∀ W', Keeps W W' ok → Kd.C (Kd.int .i64) W' A1 known.length known) (hc1 : known.length ≤ c1) (hM : ∀ W', Keeps W W' ok → Kd.C (Kd.slice 3 (Kd.int .i64)) W' A2 more.length more) (hc2 : more.length ≤ c2)
    (hm : more.length ≤ 1000000) (hm2 : ∀ r ∈ more, r.length ≤ 1000000) :
    Calls Try.prog 28 #[.pointer (some ⟨g, 0, none⟩), .slice A1 known.length c1, .slice A2 more.length c2] W fun e W' => e = .returned (.int .i64 (mergeN known more L)) ∧ Turned ok W W' (RSet g (mergeL known more L)) := by
  have HP := Aside0.mk (Turned.refl ((RSet g L).bound hP))
  have HL := Aside0.mk hL
  have HK := Aside0.mk hK
  have HM := Aside0.mk hM
  have HM2 := Aside0.mk hm2
  clear hP hL hK hM hm2
  go_enter Try.func28, Try.ntmps28
  go_wp2_with fail
  go_loopw [7, 8] (fun s7 s8 wr => ∃ i : Nat, i ≤ 16 ∧ i ≤ more.length ∧ s8 = .int .i64 ((i : Int) + 1) ∧ s7 = .int .i64 (mergeTo known more L i).2 ∧ Aside0 (Turned (fun k => ok k ∧ k < W.heap.size) W wr (RSet g (mergeTo known more L i).1))) (fun _ s8 _ => (17 - (intOf s8).toNat))
  case atStart => exact ⟨0, by omega, by omega, rfl, rfl, HP⟩
  case round =>
    obtain ⟨i, hi, him, rfl, rfl, HT⟩ := hrel
    have hbd := mergeTo_bound HL.out known more i
    by_cases h16 : i < 16
    · by_cases hlt : i < more.length
      · have b1 : decide ((i : Int) + 1 ≤ 16) = true := decide_eq_true (by omega)
        have b2 : decide ((i : Int) + 1 ≤ (more.length : Int)) = true := decide_eq_true (by omega)
        have h0 : (0 : Int) ≤ (i : Int) := by omega
        have hi16 : (i : Int) < 16 := by omega
        have him2 : (i : Int) < (more.length : Int) := by omega
        have HGD := Aside0.mk (HL.out.merge known more i)
        have HS := Aside0.mk (mergeTo_step known more L i)
        have HSK := Aside0.mk (mergeTo_skip known more L i)
        obtain ⟨ad, Bm, cm, rfl, hxm, hcm, hCm⟩ := at_slice (HM.out wr (HT.out.1.mono (fun k _ hk => hk.1))) i hlt
        have hrl := HM2.out (more.getD i []) (by rw [List.getD_eq_getElem?_getD, List.getElem?_eq_getElem hlt]; exact List.getElem_mem hlt)
        obtain ⟨mo, em⟩ : ∃ mo, more.getD i [] = mo := ⟨_, rfl⟩
        rw [em] at hxm hcm hCm hrl HS HSK
        obtain ⟨n0, en⟩ : ∃ n0, (mergeTo known more L i).2 = n0 := ⟨_, rfl⟩
        obtain ⟨L0, eL⟩ : ∃ L0, (mergeTo known more L i).1 = L0 := ⟨_, rfl⟩
        rw [en, eL] at HS
        rw [en] at hbd ⊢
        rw [eL] at HT HGD
        have HEN := Aside0.mk (And.intro en eL)
        obtain ⟨B, c, hcg, hbg, hc16, hog, hBg, hR⟩ := rset_open HT.out.2 HGD.out
        obtain ⟨A, c', hcB, hcap, hC⟩ := rset_row hR HGD.out i h16
        have hlen := HGD.out.len i
        have HRM := Aside0.mk (HGD.out.row i)
        obtain ⟨row, erow⟩ : ∃ row, L0.getD i [] = row := ⟨_, rfl⟩
        rw [erow] at hcB hcap hC hlen HS HRM
        have ER := Aside0.mk erow
        have HC := Aside0.mk hC
        have HCP := Aside0.mk hcap
        have HLN := Aside0.mk hlen
        have HCM := Aside0.mk (And.intro hCm (And.intro hcm hrl))
        clear hC hcap hlen hCm hcm hrl em en eL erow hc16 hog hBg hR hbg
        go_wp2_with fail
        refine (liveryref10_Get.calls 100 A1 c1 known ((i : Int) + 1) _ wr (HK.out wr (HT.out.1.mono (fun k _ hk => hk.1))) hc1 (ref_Get 100 known _ (by decide))).mono ?_
        rintro e w1 ⟨rfl, hd1⟩
        have HB1 := Aside0.mk hd1.below
        replace hcg := pw_cell_below HB1.out hcg
        replace hcB := pw_cell_below HB1.out hcB
        replace hxm := pw_cell_below HB1.out hxm
        have hgr := getV_range known ((i : Int) + 1)
        obtain ⟨kn, ek⟩ : ∃ kn : Nat, getV known ((i : Int) + 1) = (kn : Int) := ⟨(getV known ((i : Int) + 1)).toNat, by omega⟩
        rw [ek] at hgr HS ⊢
        have hk2 : (kn : Int) ≤ 1099511627776 := hgr.2
        have hk0 : (0 : Int) ≤ (kn : Int) := by omega
        have HT1 := Aside0.mk (HT.out.on HB1.out)
        have HSB := Aside0.mk (fun h : mergeRow row (kn : Int) mo = row => show (mergeTo known more L (i + 1)).1 = L0 ∧ (mergeTo known more L (i + 1)).2 = n0 by
          rw [HS.out, h]
          exact ⟨by rw [← ER.out, set_getD], by simp⟩)
        clear hd1 ek hgr
        by_cases he : mo = []
        · have HEQ := Aside0.mk (HSB.out (by rw [he, mergeRow_nil]))
          have hb : (mo.length == 0) = true := by rw [he]; rfl
          have hb2 : ((mo.length : Int) == 0) = true := by rw [he]; rfl
          clear he
          go_wp2_with fail
          go_roundw
          case rel => exact ⟨i + 1, by omega, by omega, by simp, by rw [HEQ.out.2], by rw [HEQ.out.1]; exact HT1⟩
          case measure => simp [intOf]; omega
        have hpos : 0 < mo.length := List.length_pos_iff.2 he
        have HE := Aside0.mk he
        have hb : (mo.length == 0) = false := by simp; exact he
        have hb2 : ((mo.length : Int) == 0) = false := by simp; exact he
        clear he
        by_cases hk : row.length < kn
        · have hkb : decide ((row.length : Int) < (kn : Int)) = true := decide_eq_true (by omega)
          have hkc : decide (row.length < kn) = true := decide_eq_true hk
          have HEQ := Aside0.mk (HSB.out (by rw [mergeRow, if_neg]; intro hh; have := (decide_eq_true_iff.1 hh).2.1; omega))
          clear hk hpos
          go_wp2_with fail
          go_roundw
          case rel => exact ⟨i + 1, by omega, by omega, by simp, by rw [HEQ.out.2], by rw [HEQ.out.1]; exact HT1⟩
          case measure => simp [intOf]; omega
        have hkb : decide ((row.length : Int) < (kn : Int)) = false := decide_eq_false (by omega)
        have hkc : decide (row.length < kn) = false := decide_eq_false hk
        by_cases h32 : 32 < mo.length
        · have h32b : decide ((32 : Int) < (mo.length : Int)) = true := decide_eq_true (by omega)
          have h32c : decide (32 < mo.length) = true := decide_eq_true h32
          have HEQ := Aside0.mk (HSB.out (by rw [mergeRow, if_neg]; intro hh; have := (decide_eq_true_iff.1 hh).2.2.1; omega))
          clear hk hpos h32
          go_wp2_with fail
          go_roundw
          case rel => exact ⟨i + 1, by omega, by omega, by simp, by rw [HEQ.out.2], by rw [HEQ.out.1]; exact HT1⟩
          case measure => simp [intOf]; omega
        have h32b : decide ((32 : Int) < (mo.length : Int)) = false := decide_eq_false (by omega)
        have h32c : decide (32 < mo.length) = false := decide_eq_false h32
        have hcut := hcutT A row.length c' kn (by omega) HCP.out
        have HTK := Aside0.mk (Kd.C_take (m := kn) (Kd.C_below HC.out HB1.out) (by omega))
        have htl : (row.take kn).length = kn := by rw [List.length_take]; omega
        have HNX0 := Aside0.mk (show nextS row (kn : Int) mo = row.take kn ++ mo by rw [nextS, Int.toNat_natCast])
        have HKK := Aside0.mk (show kn ≤ row.length ∧ mo.length ≤ 32 by omega)
        obtain ⟨t, et⟩ : ∃ t, t = row.take kn := ⟨_, rfl⟩
        rw [← et] at HTK htl HNX0
        have HTL := Aside0.mk htl
        replace hcut : ∀ W : World, (Instr.slice 30 (.slice A row.length c') none (some (.int .i64 (kn : Int))) none).run Try.prog W = .ok (.slice A t.length c') W := by rw [htl]; exact hcut
        clear hk h32 hpos et htl
        go_wp2_with (at_builtin; refine app_int (k := .i64) rfl (.tmp 58) (.tmp 61) 30 3 8 rfl Try.underlying30 hinfo3 (by decide) (.slice none 0 0) [] t A t.length c' (fun k => w1.heap.size ≤ k) rfl rfl (Kd.R_nil _ _ _ _ _) HTK.out (by have := HTL.out; have := HKK.out; have := HLN.out; simp only [List.length_nil]; omega) ?_)
        intro v2 w2 hR2 hg2
        have HB2 := Aside0.mk (pw_below_grown (Below.refl w1.heap.size w1) _ (Nat.le_refl _) hg2 (fun k hk => by cases hk))
        have HR2 := Aside0.mk (Kd.R_mono hR2 (ok' := fun k => w1.heap.size ≤ k) (fun k hk => by omega))
        replace hcg := pw_cell_below HB2.out hcg
        replace hcB := pw_cell_below HB2.out hcB
        replace hxm := pw_cell_below HB2.out hxm
        clear hR2 hg2
        go_wp2_with (at_builtin; refine app_int (k := .i64) rfl (.tmp 63) (.tmp 68) 30 3 8 rfl Try.underlying30 hinfo3 (by decide) v2 t mo Bm mo.length cm (fun k => w1.heap.size ≤ k) rfl rfl HR2.out (Kd.C_below HCM.out.1 (below_step HB1.out HB2.out)) (by have := HTL.out; have := HKK.out; have := HLN.out; omega) ?_)
        intro v3 w3 hR3 hg3
        have HB3 := Aside0.mk (pw_below_grown HB2.out _ HB2.out.size hg3 (fun k hk => HR2.out.1 k hk))
        rw [← HNX0.out] at hR3
        obtain ⟨nx, hnx⟩ : ∃ nx, nextS row (kn : Int) mo = nx := ⟨_, rfl⟩
        rw [hnx] at hR3
        have HNE := Aside0.mk hnx
        have HNL := Aside0.mk (show nx.length ≤ 64 by rw [← hnx, HNX0.out, List.length_append]; have := HTL.out; have := HKK.out; have := HLN.out; omega)
        obtain ⟨A3, c3, ev⟩ := Kd.R_slice hR3
        subst ev
        have HR3 := Aside0.mk (Kd.R_mono hR3 (ok' := fun k => w1.heap.size ≤ k) (fun k hk => by have := HB2.out.size; omega))
        have HC3 := Aside0.mk (Kd.R_reads' hR3)
        have HCW3 := Aside0.mk (Kd.C_below HC.out (below_step HB1.out HB3.out))
        clear hR3 hg3 hnx hcut HTK hcg hcB hxm HR2 HB2
        go_wp2_with fail
        refine (refMay.calls A3 c3 nx w3 HC3.out.2.2 HC3.out.2.1 (by have := HNL.out; omega)).mono ?_
        rintro e w4 ⟨rfl, hd4⟩
        have HB4 := Aside0.mk (below_step HB3.out hd4.below)
        have HC4 := Aside0.mk (Kd.C_below HC3.out.2.2 hd4.below)
        have HR4 := Aside0.mk (Kd.R_below HR3.out hd4.below)
        clear hd4
        go_wp2_with fail
        refine (Begins.calls A3 c3 nx A c' row w4 HC4.out HC3.out.2.1 (Kd.C_below HC.out (below_step HB1.out HB4.out)) HCP.out (by have := HNL.out; omega)).mono ?_
        rintro e w5 ⟨rfl, hd5⟩
        have HB5 := Aside0.mk (below_step HB4.out hd5.below)
        have HC5 := Aside0.mk (Kd.C_below HC4.out hd5.below)
        have HR5 := Aside0.mk (Kd.R_below HR4.out hd5.below)
        clear hd5
        go_wp2_with fail
        refine (Begins.calls A c' row A3 c3 nx w5 (Kd.C_below HC.out (below_step HB1.out HB5.out)) HCP.out HC5.out HC3.out.2.1 (by have := HLN.out; omega)).mono ?_
        rintro e w6 ⟨rfl, hd6⟩
        have HB6 := Aside0.mk (below_step HB5.out hd6.below)
        have HR6 := Aside0.mk (Kd.R_below HR5.out hd6.below)
        clear hd6 HR5 HR4 HC4 HC5 HCW3 HC3
        have HT6 := Aside0.mk (HT1.out.on HB6.out)
        by_cases hfin : mergeOk row (kn : Int) mo = true
        · obtain ⟨_, _, _, hm, hone, hlen2⟩ := decide_eq_true_iff.1 hfin
          rw [HNE.out] at hm hone hlen2
          have honeb : decide (nx.take row.length = row) = true := decide_eq_true hone
          have hl1 : decide ((row.length : Int) < (nx.length : Int)) = true := decide_eq_true (by omega)
          have hl2 : decide (row.length < nx.length) = true := decide_eq_true hlen2
          have HMR := Aside0.mk (show mergeRow row (kn : Int) mo = nx by rw [mergeRow, if_pos hfin, HNE.out])
          obtain ⟨B6, c6, hcg6, ⟨u6, hu6⟩, hf6, hc16, hput⟩ := rset_put HT1.out.2 HGD.out HB6.out i h16 HR6.out
          have HT7 := Aside0.mk (HT1.out.then_ hput.1 hput.2)
          have hnl := HNL.out
          have hrl2 := HLN.out
          have HSN := Aside0.mk (show (mergeTo known more L (i + 1)).1 = L0.set i nx ∧ (mergeTo known more L (i + 1)).2 = n0 + ((nx.length : Int) - (row.length : Int)) by rw [HS.out, HMR.out]; exact ⟨rfl, rfl⟩)
          clear hone hlen2 hfin hput
          go_wp2_with fail
          go_roundw
          case rel => exact ⟨i + 1, by omega, by omega, by simp, by rw [HSN.out.2]; congr 1; omega, by rw [HSN.out.1]; exact HT7⟩
          case measure => simp [intOf]; omega
        · have HEQ := Aside0.mk (HSB.out (by rw [mergeRow, if_neg hfin]))
          have hnot : ¬ (mayS nx = true ∧ nx.take row.length = row ∧ row.length < nx.length) := fun hh => hfin (decide_eq_true ⟨HE.out, by have := HKK.out; omega, HKK.out.2, by rw [HNE.out]; exact hh.1, by rw [HNE.out]; exact hh.2.1, by rw [HNE.out]; exact hh.2.2⟩)
          clear hfin
          by_cases hm : mayS nx = false
          · clear hnot
            go_wp2_with fail
            go_roundw
            case rel => exact ⟨i + 1, by omega, by omega, by simp, by rw [HEQ.out.2], by rw [HEQ.out.1]; exact HT6⟩
            case measure => simp [intOf]; omega
          have hm : mayS nx = true := by simpa using hm
          by_cases hlen2 : row.length < nx.length
          · have h1f : decide (nx.take row.length = row) = false := decide_eq_false fun hh => hnot ⟨hm, hh, hlen2⟩
            have h2f : decide (row.take nx.length = nx) = false := decide_eq_false fun hh => by
              have := congrArg List.length hh
              rw [List.length_take] at this
              omega
            clear hnot hlen2
            go_wp2_with fail
            go_roundw
            case rel => exact ⟨i + 1, by omega, by omega, by simp, by rw [HEQ.out.2], by rw [HEQ.out.1]; exact HT6⟩
            case measure => simp [intOf]; omega
          · have hl1 : decide ((row.length : Int) < (nx.length : Int)) = false := decide_eq_false (by omega)
            have hl2 : decide (row.length < nx.length) = false := decide_eq_false hlen2
            obtain ⟨x1, e1⟩ : ∃ x1, decide (nx.take row.length = row) = x1 := ⟨_, rfl⟩
            obtain ⟨x2, e2⟩ : ∃ x2, decide (row.take nx.length = nx) = x2 := ⟨_, rfl⟩
            rw [e1, e2]
            clear e1 e2 hnot hlen2
            cases x1
            · cases x2
              · skip
                go_wp2_with fail
                go_roundw
                case rel => exact ⟨i + 1, by omega, by omega, by simp, by rw [HEQ.out.2], by rw [HEQ.out.1]; exact HT6⟩
                case measure => simp [intOf]; omega
              · skip
                go_wp2_with fail
                go_roundw
                case rel => exact ⟨i + 1, by omega, by omega, by simp, by rw [HEQ.out.2], by rw [HEQ.out.1]; exact HT6⟩
                case measure => simp [intOf]; omega
            · skip
              go_wp2_with fail
              go_roundw
              case rel => exact ⟨i + 1, by omega, by omega, by simp, by rw [HEQ.out.2], by rw [HEQ.out.1]; exact HT6⟩
              case measure => simp [intOf]; omega
      · have b1 : decide ((i : Int) + 1 ≤ 16) = true := decide_eq_true (by omega)
        have b2 : decide ((i : Int) + 1 ≤ (more.length : Int)) = false := decide_eq_false (by omega)
        have HA := Aside0.mk (mergeTo_stop known more L i (by omega) 16 hi)
        clear hlt
        go_wp2_with fail
        go_ret
        exact ⟨by rw [mergeN, HA.out]; rfl, by rw [mergeL, HA.out]; exact ⟨HT.out.1.mono (fun k _ hk => hk.1), (RSet g _).mono (fun k hk => hk.elim (fun h => .inl h.1) .inr) HT.out.2⟩⟩
    · have e16 : i = 16 := by omega
      subst e16
      clear h16
      go_wp2_with fail
      go_ret
      exact ⟨rfl, HT.out.1.mono (fun k _ hk => hk.1), (RSet g _).mono (fun k hk => hk.elim (fun h => .inl h.1) .inr) HT.out.2⟩
end Go.Proofs.Ytadkafhhkidecaa.P
