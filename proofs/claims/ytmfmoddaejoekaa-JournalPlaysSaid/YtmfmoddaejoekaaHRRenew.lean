/- Contracts, typed by hand: the document's journal: Renew. -/
import Derived.Test.YtmfmoddaejoekaaHRJourD
import Derived.Test.YtmfmoddaejoekaaHJourR
set_option linter.unusedVariables false
set_option linter.unusedSimpArgs false
namespace Go.Proofs.Ytmfmoddaejoekaa.P
open Go.RowKit Go.Proofs.YtmfmoddaejoekaaW.PrintWords Go.Proofs.YtmfmoddaejoekaaW.PrintLast Go.Proofs.YtmfmoddaejoekaaW.PrintMore
section
variable {A B C : Res} {ok : Nat → Prop} {W : World} {g : Nat} {t : TypeId} {cs : List Value} {Rs : List Res}
/-- A cell of an object in the middle is written. -/
theorem mid_set (h : (Res.sep (Res.sep A (Res.obj g t cs Rs)) B).P ok W) (j : Nat) (u : Value) : Turned ok W (W.setCell ⟨g, j, none⟩ u) (Res.sep (Res.sep A (Res.obj g t (cs.set j u) Rs)) B) := by
 obtain ⟨ok1, h1, _, hb1⟩ := sep_left h
 obtain ⟨ok2, h2, _, hb2⟩ := sep_right h1
 have h3 := obj_set h2 j u
 exact hb1 (hb2 ⟨h3.2, Res.mono _ (fun k hk => .inl hk) h3.1⟩)
theorem mid_blk (h : (Res.sep (Res.sep A (Res.obj g t cs Rs)) B).P ok W) : W.heap[g]? = some (.cells cs.toArray t (0, 0)) := by
 obtain ⟨ok1, h1, _⟩ := sep_fst h
 obtain ⟨ok2, h2, _⟩ := sep_snd h1
 exact obj_blk h2
end
theorem mid_less {A B R R' : Res} {ok : Nat → Prop} {W : World} (h : (Res.sep (Res.sep A R) B).P ok W) (hl : ∀ ok, R.P ok W → R'.P ok W) : (Res.sep (Res.sep A R') B).P ok W := by
 obtain ⟨f, ⟨f2, ha, hb⟩, hc⟩ := h
 exact ⟨f, ⟨f2, ha, hl _ hb⟩, hc⟩
theorem mid_rjour {A B : Res} {w : World} {Fo : Nat → Prop} {gx gt : Nat} {J : JM} {ok : Nat → Prop} {W : World} (h : (Res.sep (Res.sep A (RJour w Fo gx gt J)) B).P ok W) : ∃ Ax cx, (Res.sep (Res.sep A (RJourC w Fo gx gt Ax cx J.side J.g J.size J.L J.broken)) B).P ok W := by
 obtain ⟨p, hp⟩ := sep_exr2 h
 exact ⟨p.1, p.2, mid_less hp (fun ok h => h.2)⟩
theorem sep_rless {A R R' : Res} {ok : Nat → Prop} {W : World} (h : (Res.sep A R).P ok W) (hl : ∀ ok, R.P ok W → R'.P ok W) : (Res.sep A R').P ok W := by
 obtain ⟨f, ha, hb⟩ := h
 exact ⟨f, ha, hl _ hb⟩
theorem trim0_vals {T : TM} {i : Int} (hi : i = 0 ∨ i = 1) : T.trimE i 0 = 0 ∨ T.trimE i 0 = 40 := by
 unfold TM.trimE
 rcases TM.ready_val T hi with h | h
 ·rw [if_neg (by rw [h]; decide), if_neg (by omega)]
  exact .inl rfl
 ·rw [if_pos (by rw [h]; decide), h]
  exact .inr rfl
theorem trim0_write {T : TM} {i : Int} (hi : i = 0 ∨ i = 1) (h0 : T.trimE i 0 = 0) {d : List Int} (hd : d.length ≤ 65536) : (T.trim i 0).writeE i d = 0 ∨ (T.trim i 0).writeE i d = 40 := by
 have h1 : ((T.trim i 0).now i).length = 0 := by rw [TM.trim_same h0 (by decide)]; simp
 unfold TM.writeE
 rcases TM.ready_val (T.trim i 0) hi with h | h
 ·rw [if_neg (by rw [h]; decide), if_neg (by omega)]
  exact .inl rfl
 ·rw [if_pos (by rw [h]; decide), h]
  exact .inr rfl
set_option maxHeartbeats 8000000 in
set_option maxRecDepth 100000 in
theorem rjour_Renew.calls (w : World) (Fo : Nat → Prop) (gx gr : Nat) (T : TM) (N : Nat) (hT : T.Ok N) (hN : N + 70000 ≤ 1000000000) (J : JM) (hsd : J.side = 0 ∨ J.side = 1) (hg : 0 ≤ J.g ∧ J.g ≤ 1099511627776) (A : Option Addr) (c : Nat) (l : List (List Int)) (W : World) (ok : Nat → Prop)
  (hP : (Res.sep (Res.sep (RTape gr T) (RJour w Fo gx gr J)) (Res.seen w Fo (RowsQ A l))).P ok W) (hAg : ∀ W', Keeps W W' ok → Agree w Fo W') (hc : l.length ≤ c) (hb : ∀ r ∈ l, okB r = true ∧ r.length ≤ 100000) (hl : l.length ≤ 1000) :
  Calls Try.prog 30 #[.pointer (some ⟨gx, 0, none⟩), .slice A l.length c] W fun e W' => e = .returned (.int .i64 (renewM T J l).1) ∧ Turned ok W W' (Res.sep (RTape gr (renewM T J l).2.1) (RJour w Fo gx gr (renewM T J l).2.2)) := by
 have HPB := Aside0.mk (Res.bound _ hP)
 have HP := Aside0.mk hP
 have HDR := Aside0.mk (sep_drop hP)
 obtain ⟨ok1, hTJ, _⟩ := sep_fst hP
 obtain ⟨okj, hJ, _⟩ := sep_snd hTJ
 obtain ⟨oks, hS, _⟩ := sep_snd hP
 have HROW := Aside0.mk (show ∀ W', Below W.heap.size W W' → RowsQ A l W' from fun W' hbl => hS W' (hAg W' (Keeps.of_below hbl _)) (fun k _ hlt => hbl.block k hlt))
 obtain ⟨Ax, cx, hcx, hC⟩ := rjour_open hJ
 obtain ⟨x0, x1, x2, x3, x4, x5, _⟩ := blk_all6 (rjour_blk hC)
 have HXC := Aside0.mk (And.intro x0 (And.intro x1 x2))
 have HT := Aside0.mk hT
 have HNN := Aside0.mk hN
 have HSD := Aside0.mk hsd
 have HOB := Aside0.mk hb
 have HAG := Aside0.mk hAg
 have HCC := Aside0.mk hc
 have hg0 := hg.1
 have hg1 := hg.2
 clear hP hTJ hJ hS hC hcx hT hN hb hAg hg hsd
 obtain ⟨n, en⟩ : ∃ n, l.length = n := ⟨_, rfl⟩
 have HEN := Aside0.mk en
 rw [en] at hc hl ⊢
 clear en
 obtain ⟨br, ebr⟩ : ∃ b, J.broken = b := ⟨_, rfl⟩
 rw [ebr] at x5
 cases br with
 | true =>
  have HM := Aside0.mk (show renewM T J l = (40, T, J) from by unfold renewM; rw [if_pos ebr])
  clear ebr
  go_enter Try.func30, Try.ntmps30
  go_wp2_with fail
  go_ret
  rw [HM.out]
  exact ⟨rfl, Turned.refl HDR.out⟩
 | false =>
  have HBR := Aside0.mk ebr
  have b1 : decide ((n : Int) > 4000) = false := decide_eq_false (by omega)
  have b1' : decide (4000 < (n : Int)) = false := decide_eq_false (by omega)
  have b1'' : decide (4000 < n) = false := decide_eq_false (by omega)
  by_cases hgm : J.g = 1099511627776
  ·have b2 : (J.g == 1099511627776) = true := by simp [hgm]
   have HM := Aside0.mk (show renewM T J l = (1, T, J) from by unfold renewM; rw [if_neg (by rw [ebr]; decide), if_pos (.inr (.inl (by omega)))])
   clear ebr
   go_enter Try.func30, Try.ntmps30
   go_wp2_with fail
   go_ret
   rw [HM.out]
   exact ⟨rfl, Turned.refl HDR.out⟩
  have b2 : (J.g == 1099511627776) = false := by simp [hgm]
  have hg2 : J.g < 1099511627776 := by omega
  have HHD := Aside0.mk (head15 (J.g + 1) (n : Int) (by omega) (by omega) 100 (by decide))
  have HHL := Aside0.mk (headR_len (J.g + 1) (n : Int) (by omega) (by omega))
  have HHB := Aside0.mk (okB_head (J.g + 1) (n : Int) (by omega) (by omega))
  have HGM := Aside0.mk hgm
  clear ebr hgm
  go_enter Try.func30, Try.ntmps30
  go_wp2_with fail
  refine (liveryref17_Head.calls 100 (J.g + 1) (n : Int) (headR (J.g + 1) (n : Int)) W HHD.out).mono ?_
  rintro e w1 ⟨v1, rfl, hR1, hB1⟩
  obtain ⟨A1, c1, ev1⟩ := Kd.R_slice hR1
  subst ev1
  obtain ⟨hr, ehr⟩ : ∃ x, headR (J.g + 1) (n : Int) = x := ⟨_, rfl⟩
  have HEH := Aside0.mk ehr
  rw [ehr] at hR1 HHL HHB ⊢
  have HR1 := Aside0.mk (Kd.R_reads' hR1).2
  have HB1 := Aside0.mk hB1
  clear hR1 hB1 ehr HHD
  go_wp2_with fail
  refine (liveryref17_Frame.calls 1000 none 0 [] A1 c1 hr ([] ++ frameM hr) w1 (Kd.R_reads' (Kd.R_nil (Kd.int .u8) 5 w1 0 (fun _ => True))).2.2 (Nat.le_refl _) HR1.out.2 HR1.out.1 (frame15 [] hr HHB.out (by decide) (by have := HHL.out; omega) 1000 (by have := HHL.out; omega))).mono ?_
  rintro e w2 ⟨v2, rfl, hR2, hB2⟩
  obtain ⟨f, ef⟩ : ∃ f, frameM hr = f := ⟨_, rfl⟩
  rw [List.nil_append, ef] at hR2
  obtain ⟨A2, cb2, ev2⟩ := Kd.R_slice hR2
  subst ev2
  have HFL := Aside0.mk (show f.length ≤ 40 from by rw [← ef, frameM_len]; have := HHL.out; omega)
  have HBD := Aside0.mk (show bodyM (J.g + 1) l = f ++ framesM l from by unfold bodyM; rw [HEN.out, HEH.out, ef])
  have HR2 := Aside0.mk (show ∃ base, W.heap.size ≤ base ∧ (Kd.int .u8).R 5 w2 base (fun _ => True) (.slice A2 f.length cb2) f from ⟨_, HB1.out.size, hR2⟩)
  have HB2 := Aside0.mk (below_step HB1.out hB2)
  clear hR2 hB2 ef HB1 HR1 HHL HHB HEH x0 x1 x2 x3 x4 x5
  have hfl := HFL.out
  go_wp2_with fail
  go_loopw [6, 7] (fun s6 s7 wr => ∃ i : Nat, i ≤ n ∧ s7 = .int .i64 (i : Int) ∧ s6 = .int .i64 ((f ++ framesM (l.take i)).length : Int) ∧ Aside0 (wr = w2) ∧ Aside0 (∀ r ∈ l.take i, isRec r = true)) (fun s6 s7 _ => (n + 1 - (intOf s7).toNat))
  case atStart => exact ⟨0, by omega, rfl, by simp [framesM], ⟨rfl⟩, ⟨fun r hr => by simp at hr⟩⟩
  case round =>
   obtain ⟨i, hi, rfl, rfl, HWE, HRI⟩ := hrel
   have hwe := HWE.out
   subst hwe
   clear HWE
   have HSZ := Aside0.mk (show (f ++ framesM (l.take i)).length ≤ 40 + i * 8196 from by
    have h1 := framesM_len_le (l.take i) 8192 (fun r hr => by have := HRI.out r hr; unfold isRec at this; have := of_decide_eq_true this; omega)
    rw [List.length_take, Nat.min_eq_left (by rw [HEN.out]; exact hi)] at h1
    rw [List.length_append]
    omega)
   obtain ⟨z, ez⟩ : ∃ z, (f ++ framesM (l.take i)).length = z := ⟨_, rfl⟩
   rw [ez] at HSZ ⊢
   have hz : z ≤ 40 + i * 8196 := HSZ.out
   have HEZ := Aside0.mk ez
   clear ez
   by_cases hin : i < n
   ·have d1 : decide ((i : Int) < (n : Int)) = true := decide_eq_true (by omega)
    have hlt : i < l.length := by rw [HEN.out]; exact hin
    obtain ⟨ad, A0, c0, eA, hc0, hl0, hCr⟩ := at_L2 (HROW.out _ HB2.out) (i : Int) (by omega) (by omega)
    subst eA
    rw [Int.toNat_natCast] at hc0
    have HMB := Aside0.mk (show rd_L2 l (i : Int) ∈ l from by unfold rd_L2; rw [Int.toNat_natCast, List.getD_eq_getElem?_getD, List.getElem?_eq_getElem hlt]; exact List.getElem_mem hlt)
    have HTK := Aside0.mk (framesM_take l i hlt)
    have HTX := Aside0.mk (show ∀ r ∈ l.take (i + 1), r ∈ l.take i ∨ r = rd_L2 l (i : Int) from fun r hr => by
     rw [List.take_add_one, List.getElem?_eq_getElem hlt] at hr
     rcases List.mem_append.1 hr with h | h
     ·exact .inl h
     ·refine .inr ?_
      simp at h
      rw [h]
      unfold rd_L2
      rw [Int.toNat_natCast, List.getD_eq_getElem?_getD, List.getElem?_eq_getElem hlt]
      rfl)
    obtain ⟨x, ex⟩ : ∃ x, rd_L2 l (i : Int) = x := ⟨_, rfl⟩
    rw [ex] at hc0 hl0 HMB HTK HTX
    have HXL := Aside0.mk (HOB.out x HMB.out).2
    obtain ⟨m, em⟩ : ∃ m, x.length = m := ⟨_, rfl⟩
    have HEM := Aside0.mk em
    rw [em] at hc0 hl0 HXL
    have hm1 := HXL.out
    clear hCr ex em hlt
    by_cases h1 : m < 1
    ·have e1 : decide ((m : Int) < 1) = true := decide_eq_true (by omega)
     have HM := Aside0.mk (show renewM T J l = (1, T, J) from by
      unfold renewM
      rw [if_neg (by rw [HBR.out]; decide), if_pos (.inr (.inr (fun h => by have := of_decide_eq_true (h x HMB.out); rw [HEM.out] at this; omega)))])
     clear h1
     go_wp2_with fail
     go_ret
     rw [HM.out]
     exact ⟨rfl, (Turned.refl HDR.out).on HB2.out⟩
    have e1 : decide ((m : Int) < 1) = false := decide_eq_false (by omega)
    by_cases h2 : 8192 < m
    ·have e2 : decide ((m : Int) > 8192) = true := decide_eq_true (by omega)
     have e3 : decide (8192 < (m : Int)) = true := decide_eq_true (by omega)
     have HM := Aside0.mk (show renewM T J l = (1, T, J) from by
      unfold renewM
      rw [if_neg (by rw [HBR.out]; decide), if_pos (.inr (.inr (fun h => by have := of_decide_eq_true (h x HMB.out); rw [HEM.out] at this; omega)))])
     clear h1 h2
     go_wp2_with fail
     go_ret
     rw [HM.out]
     exact ⟨rfl, (Turned.refl HDR.out).on HB2.out⟩
    have e2 : decide ((m : Int) > 8192) = false := decide_eq_false (by omega)
    have e3 : decide (8192 < (m : Int)) = false := decide_eq_false (by omega)
    have HRX := Aside0.mk (show isRec x = true from decide_eq_true (by rw [HEM.out]; omega))
    clear h1 h2
    go_wp2_with fail
    go_roundw
    case rel => exact ⟨i + 1, by omega, by simp, by rw [HTK.out, ← List.append_assoc, List.length_append, HEZ.out, frameM_len, HEM.out]; simp; omega, ⟨by first | rfl | trivial⟩, ⟨fun r hr => (HTX.out r hr).elim (HRI.out r) (fun e => e ▸ HRX.out)⟩⟩
    case measure => simp [intOf]; omega
   ·have ei : i = n := by omega
    subst ei
    have htk : l.take i = l := List.take_of_length_le (by rw [HEN.out]; exact Nat.le_refl _)
    rw [htk] at HRI HEZ
    have HBZ := Aside0.mk (show (bodyM (J.g + 1) l).length = z from by rw [HBD.out]; exact HEZ.out)
    have HM0 := Aside0.mk (show renewM T J l = _ from by unfold renewM; rw [if_neg (by rw [HBR.out]; decide), if_neg (show ¬ (4000 < l.length ∨ 1099511627776 ≤ J.g ∨ ¬ ∀ r ∈ l, isRec r = true) from fun h => h.elim (fun h => by rw [HEN.out] at h; omega) (fun h => h.elim (fun h => by omega) (fun h => h HRI.out)))])
    have d1 : decide ((i : Int) < (i : Int)) = false := decide_eq_false (by omega)
    by_cases hz2 : 65536 < z
    ·have e1 : decide ((z : Int) > 65536) = true := decide_eq_true (by omega)
     have e2 : decide (65536 < (z : Int)) = true := decide_eq_true (by omega)
     have e3 : decide (65536 < z) = true := decide_eq_true (by omega)
     have HM1 := Aside0.mk (HM0.out.trans (if_pos (by rw [HBZ.out]; exact hz2)))
     clear hz2
     go_wp2_with fail
     go_ret
     rw [HM1.out]
     exact ⟨rfl, (Turned.refl HDR.out).on HB2.out⟩
    have e1 : decide ((z : Int) > 65536) = false := decide_eq_false (by omega)
    have e2 : decide (65536 < (z : Int)) = false := decide_eq_false (by omega)
    have e3 : decide (65536 < z) = false := decide_eq_false (by omega)
    have HM1 := Aside0.mk (HM0.out.trans (if_neg (by rw [HBZ.out]; exact hz2)))
    have HZ2 := Aside0.mk hz2
    clear hz2 HM0
    go_wp2_with fail
    go_loopw [5, 8] (fun s5 s8 wq => ∃ (j : Nat) (A5 : Option Addr) (c5 : Nat), j ≤ i ∧ s8 = .int .i64 (j : Int) ∧ s5 = .slice A5 (f ++ framesM (l.take j)).length c5 ∧ Aside0 (∃ base, W.heap.size ≤ base ∧ (Kd.int .u8).R 5 wq base (fun _ => True) (.slice A5 (f ++ framesM (l.take j)).length c5) (f ++ framesM (l.take j))) ∧ Aside0 (Below W.heap.size W wq)) (fun s5 s8 _ => (i + 1 - (intOf s8).toNat))
    case atStart =>
     have e0 : f ++ framesM (l.take 0) = f := by simp [framesM]
     exact ⟨0, A2, cb2, by omega, rfl, by rw [e0], by rw [e0]; exact HR2, HB2⟩
    case round =>
     obtain ⟨j, A5, c5, hj, rfl, rfl, HR5, HB5⟩ := hrel
     have HBL := Aside0.mk (show (f ++ framesM (l.take j)).length ≤ 65536 from by
      have h1 := framesM_le l j
      have h2 := HEZ.out
      have h3 := HZ2.out
      rw [List.length_append] at h2 ⊢
      omega)
     obtain ⟨bs, ebs⟩ : ∃ bs, f ++ framesM (l.take j) = bs := ⟨_, rfl⟩
     rw [ebs] at HR5 HBL ⊢
     have HEB := Aside0.mk ebs
     clear ebs
     by_cases hjn : j < i
     ·have d2 : decide ((j : Int) < (i : Int)) = true := decide_eq_true (by omega)
      have hlt : j < l.length := by rw [HEN.out]; exact hjn
      obtain ⟨ad, A0, c0, eA, hc0, hl0, hCr⟩ := at_L2 (HROW.out _ HB5.out) (j : Int) (by omega) (by omega)
      subst eA
      rw [Int.toNat_natCast] at hc0
      have HMB := Aside0.mk (show rd_L2 l (j : Int) ∈ l from by unfold rd_L2; rw [Int.toNat_natCast, List.getD_eq_getElem?_getD, List.getElem?_eq_getElem hlt]; exact List.getElem_mem hlt)
      have HTK := Aside0.mk (framesM_take l j hlt)
      obtain ⟨x, ex⟩ : ∃ x, rd_L2 l (j : Int) = x := ⟨_, rfl⟩
      rw [ex] at hc0 hl0 HMB HTK hCr
      have HX := Aside0.mk (And.intro hl0 hCr)
      clear ex hlt hl0 hCr
      go_wp2_with fail
      refine (liveryref17_Frame.calls 1000010 A5 c5 bs A0 c0 x (bs ++ frameM x) wr (by obtain ⟨b, _, h⟩ := HR5.out; exact (Kd.R_reads' h).2.2) (by obtain ⟨b, _, h⟩ := HR5.out; exact (Kd.R_reads' h).2.1) HX.out.2 HX.out.1 (frame15 bs x (HOB.out x HMB.out).1 (by have := HBL.out; omega) (HOB.out x HMB.out).2 1000010 (by
       have := HRI.out x HMB.out
       unfold isRec at this
       have := of_decide_eq_true this
       omega))).mono ?_
      rintro e w6 ⟨v6, rfl, hR6, hB6⟩
      obtain ⟨A6, c6, ev6⟩ := Kd.R_slice hR6
      subst ev6
      have HR6 := Aside0.mk hR6
      have HB6 := Aside0.mk hB6
      clear hR6 hB6
      go_wp2_with fail
      go_roundw
      case rel =>
       have e0 : f ++ framesM (l.take (j + 1)) = bs ++ frameM x := by rw [HTK.out, ← List.append_assoc, HEB.out]
       exact ⟨j + 1, A6, c6, by omega, by simp, by rw [e0, List.length_append], by rw [e0]; exact ⟨⟨_, HB5.out.size, HR6.out⟩⟩, ⟨below_step HB5.out HB6.out⟩⟩
      case measure => simp [intOf]; omega
     ·have ej : j = i := by omega
      subst ej
      rw [htk] at HEB
      have HBS := Aside0.mk (show bodyM (J.g + 1) l = bs from by rw [HBD.out]; exact HEB.out)
      have HLZ := Aside0.mk (show bs.length = z from by rw [← HBS.out]; exact HBZ.out)
      rw [HBS.out] at HM1
      have HH := Aside0.mk (Res.on _ HPB.out HB5.out)
      have x0 := pw_cell_below HB5.out HXC.out.1
      have x1 := pw_cell_below HB5.out HXC.out.2.1
      obtain ⟨sd, esd⟩ : ∃ sd, J.side = sd := ⟨_, rfl⟩
      have HSS := HSD
      rw [esd] at x1 HSS HM1
      have HESD := Aside0.mk esd
      obtain ⟨od, eod⟩ : ∃ od, 1 - sd = od := ⟨_, rfl⟩
      have HOD := Aside0.mk (show od = 0 ∨ od = 1 from by have := HSS.out; omega)
      rw [eod] at HM1
      have HEOD := Aside0.mk eod
      have wsd : wrap64 (1 - sd) = od := by rw [← eod]; exact w64' (by have := HSS.out; omega) (by have := HSS.out; omega)
      have hsd0 : 0 ≤ sd := by have := HSS.out; omega
      have hsd1 : sd ≤ 1 := by have := HSS.out; omega
      have d2 : decide ((j : Int) < (j : Int)) = false := decide_eq_false (by omega)
      obtain ⟨oka, okb, hA, _, _, hs, hback⟩ := sep_deep HH.out
      have HA := Aside0.mk hA
      have HBK := Aside0.mk @hback
      clear esd eod hA hback htk
      go_wp2_with fail
      rw [HEOD.out]
      refine (rtape_Trim.calls gr T N HT.out (by have := HNN.out; omega) od 0 wr oka HA.out).mono ?_
      rintro e w4 ⟨rfl, ht4⟩
      have HT4 := Aside0.mk (HBK.out ht4)
      have HTO1 := Aside0.mk (TM.trim_ok HT.out od 0)
      have HTV := Aside0.mk (trim0_vals (T := T) HOD.out)
      have HWV := Aside0.mk (fun h0 => trim0_write (T := T) HOD.out h0 (d := bs) (by rw [HLZ.out]; have := HZ2.out; omega))
      obtain ⟨T1, eT⟩ : ∃ x, T.trim od 0 = x := ⟨_, rfl⟩
      obtain ⟨e1, ee⟩ : ∃ x, T.trimE od 0 = x := ⟨_, rfl⟩
      rw [eT] at HT4 HM1 HTO1 HWV
      rw [ee] at HM1 HTV HWV ⊢
      clear ht4 eT ee x0 x1 HA HBK
      obtain ⟨Aq, cq, hmr⟩ := mid_rjour HT4.out.2
      obtain ⟨x0, x1, _⟩ := blk_all6 (mid_blk hmr)
      clear hmr
      rcases HTV.out with rfl | rfl
      case inr =>
       have c1 : ((40 : Int) != 0) = true := rfl
       have c2 : ((40 : Int) == 0) = false := rfl
       have HME := Aside0.mk (HM1.out.trans (if_pos (by decide)))
       obtain ⟨Aq, cq, hmr⟩ := mid_rjour HT4.out.2
       obtain ⟨z0, z1, z2, z3, z4, z5, g0, g1, g2, g3, g4, g5⟩ := blk_all6 (mid_blk hmr)
       clear hmr x0 x1
       go_wp2_with fail
       go_ret
       rw [HME.out, brk40]
       obtain ⟨okq, hq, _, hbq⟩ := sep_right (sep_drop HT4.out.2)
       have hfin := hbq (rjour_broke hq)
       have esd := HESD.out
       subst esd
       have eod := HEOD.out
       subst eod
       exact ⟨rfl, Turned.from HB5.out (Turned.then_ ⟨HT4.out.1, sep_drop HT4.out.2⟩ hfin.1 hfin.2)⟩
      have HM2 := Aside0.mk (HM1.out.trans (if_neg (by decide)))
      obtain ⟨oka4, okb4, hA, _, _, hs4, hback⟩ := sep_deep HT4.out.2
      have HA := Aside0.mk hA
      have HBK := Aside0.mk @hback
      clear hA hback
      go_wp2_with fail
      refine (rtape_Write.calls gr T1 (N + 1) HTO1.out (by have := HNN.out; omega) od A5 c5 bs w4 oka4 HA.out (fun W' hk => by obtain ⟨b, h1, h2⟩ := HR5.out; exact row_stays (W := W) (okW := fun k => ok k ∧ k < W.heap.size) (fun k hk => hk.2) h1 h2 HT4.out.1 W' (hk.mono (fun k _ hk => (hs4 k hk).1))) (by have := HBL.out; omega)).mono ?_
      rintro e w6 ⟨rfl, ht6⟩
      have HT6 := Aside0.mk (HT4.out.then_ (HBK.out ht6).1 (HBK.out ht6).2)
      have HTO2 := Aside0.mk ((TM.write_ok HTO1.out od bs).mono (show _ ≤ N + 65540 from by have := HBL.out; omega))
      have HWV2 := Aside0.mk (HWV.out (by first | rfl | trivial))
      obtain ⟨T2, eT⟩ : ∃ x, T1.write od bs = x := ⟨_, rfl⟩
      obtain ⟨e1, ee⟩ : ∃ x, T1.writeE od bs = x := ⟨_, rfl⟩
      rw [eT] at HT6 HM2 HTO2
      rw [ee] at HM2 HWV2 ⊢
      clear ht6 eT ee x0 x1 HA HBK
      obtain ⟨Aq, cq, hmr⟩ := mid_rjour HT6.out.2
      obtain ⟨x0, x1, _⟩ := blk_all6 (mid_blk hmr)
      clear hmr
      rcases HWV2.out with rfl | rfl
      case inr =>
       have c1 : ((40 : Int) != 0) = true := rfl
       have c2 : ((40 : Int) == 0) = false := rfl
       have HME := Aside0.mk (HM2.out.trans (if_pos (by decide)))
       obtain ⟨Aq, cq, hmr⟩ := mid_rjour HT6.out.2
       obtain ⟨z0, z1, z2, z3, z4, z5, g0, g1, g2, g3, g4, g5⟩ := blk_all6 (mid_blk hmr)
       clear hmr x0 x1
       go_wp2_with fail
       go_ret
       rw [HME.out, brk40]
       obtain ⟨okq, hq, _, hbq⟩ := sep_right (sep_drop HT6.out.2)
       have hfin := hbq (rjour_broke hq)
       have esd := HESD.out
       subst esd
       have eod := HEOD.out
       subst eod
       exact ⟨rfl, Turned.from HB5.out (Turned.then_ ⟨HT6.out.1, sep_drop HT6.out.2⟩ hfin.1 hfin.2)⟩
      have HM3 := Aside0.mk (HM2.out.trans (if_neg (by decide)))
      obtain ⟨oka6, okb6, hA, _, _, hs6, hback⟩ := sep_deep HT6.out.2
      have HA := Aside0.mk hA
      have HBK := Aside0.mk @hback
      clear hA hback
      go_wp2_with fail
      refine (rtape_Sync.calls gr T2 (N + 65540) HTO2.out (by have := HNN.out; omega) w6 oka6 HA.out).mono ?_
      rintro e w8 ⟨rfl, ht8⟩
      have HT8 := Aside0.mk (HT6.out.then_ (HBK.out ht8).1 (HBK.out ht8).2)
      have HSV := Aside0.mk (TM.ready_val T2 (i := 0) (.inl rfl))
      obtain ⟨T3, eT⟩ : ∃ x, T2.sync = x := ⟨_, rfl⟩
      obtain ⟨e1, ee⟩ : ∃ x, T2.ready 0 = x := ⟨_, rfl⟩
      rw [eT] at HT8 HM3
      rw [ee] at HM3 HSV ⊢
      clear ht8 eT ee x0 x1 HA HBK
      obtain ⟨Aq, cq, hmr⟩ := mid_rjour HT8.out.2
      obtain ⟨x0, x1, _⟩ := blk_all6 (mid_blk hmr)
      clear hmr
      rcases HSV.out with rfl | rfl
      case inr =>
       have c1 : ((40 : Int) != 0) = true := rfl
       have c2 : ((40 : Int) == 0) = false := rfl
       have HME := Aside0.mk (HM3.out.trans (if_pos (by decide)))
       obtain ⟨Aq, cq, hmr⟩ := mid_rjour HT8.out.2
       obtain ⟨z0, z1, z2, z3, z4, z5, g0, g1, g2, g3, g4, g5⟩ := blk_all6 (mid_blk hmr)
       clear hmr x0 x1
       go_wp2_with fail
       go_ret
       rw [HME.out, brk40]
       obtain ⟨okq, hq, _, hbq⟩ := sep_right (sep_drop HT8.out.2)
       have hfin := hbq (rjour_broke hq)
       have esd := HESD.out
       subst esd
       have eod := HEOD.out
       subst eod
       exact ⟨rfl, Turned.from HB5.out (Turned.then_ ⟨HT8.out.1, sep_drop HT8.out.2⟩ hfin.1 hfin.2)⟩
      have HM4 := Aside0.mk (HM3.out.trans (if_neg (by decide)))
      obtain ⟨Aq, cq, hmr⟩ := mid_rjour HT8.out.2
      have HMR := Aside0.mk hmr
      obtain ⟨z0, z1, z2, z3, z4, z5, g0, g1, g2, g3, g4, g5⟩ := blk_all6 (mid_blk hmr)
      clear hmr x0 x1
      go_wp2_with fail
      go_ret
      rw [HM4.out, HLZ.out]
      have m1 := HT8.out.trans_ (mid_set HMR.out 1 (.int .i64 od))
      have m2 := m1.trans_ (mid_set m1.2 2 (.int .i64 (J.g + 1)))
      have m3 := m2.trans_ (mid_set m2.2 3 (.slice A j c))
      have m4 := m3.trans_ (mid_set m3.2 4 (.int .i64 (z : Int)))
      have hfin := sep_give m4.2 0
      have hJ' := sep_rless (R' := RJour w Fo gx gr ⟨od, J.g + 1, l, (z : Int), false⟩) hfin (fun ok2 h => rjour_mk (J := ⟨od, J.g + 1, l, (z : Int), false⟩) (A := A) (c := c) HCC.out (by
       show (Res.obj gx 91 [.pointer (some ⟨gr, 0, none⟩), .int .i64 od, .int .i64 (J.g + 1), .slice A l.length c, .int .i64 (z : Int), .bool false] [Res.seen w Fo (RowsQ A l)]).P ok2 _
       rw [HEN.out, ← HBR.out]
       exact h))
      exact ⟨rfl, Turned.from HB5.out ⟨m4.1, hJ'⟩⟩
end Go.Proofs.Ytmfmoddaejoekaa.P
