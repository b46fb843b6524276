/- Contracts, typed by hand and by a program: the document's journal: Append. -/
import Derived.Test.YtmfmoddaejoekaaHRHead
import Derived.Test.YtmfmoddaejoekaaHLaws17
set_option linter.unusedVariables false
set_option linter.unusedSimpArgs false
namespace Go.Proofs.Ytmfmoddaejoekaa.P
open Go.RowKit Go.Proofs.YtmfmoddaejoekaaW.PrintWords Go.Proofs.YtmfmoddaejoekaaW.PrintLast Go.Proofs.YtmfmoddaejoekaaW.PrintMore
/-- One cell of the document's journal is written. -/
theorem rjour_broke {w : World} {Fo : Nat → Prop} {gx gt : Nat} {J : JM} {ok : Nat → Prop} {W : World} (h : (RJour w Fo gx gt J).P ok W) : Turned ok W (W.setCell ⟨gx, 5, none⟩ (.bool true)) (RJour w Fo gx gt { J with broken := true }) := by
 obtain ⟨A, c, hc, hC⟩ := rjour_open h
 have h1 := obj_set hC 5 (.bool true)
 exact ⟨h1.2, (RJour w Fo gx gt _).mono (fun k hk => .inl hk) (rjour_mk (J := { J with broken := true }) hc h1.1)⟩
set_option maxHeartbeats 8000000 in
set_option maxRecDepth 100000 in
theorem rjour_Append.part (w : World) (Fo : Nat → Prop) (gx gr : Nat) (T : TM) (N : Nat) (hT : T.Ok N) (hN : N + 9000 ≤ 1000000000) (J : JM) (A : Option Addr) (c : Nat) (r : List Int) (W : World) (ok : Nat → Prop) (hP : (Res.sep (RTape gr T) (RJour w Fo gx gr J)).P ok W) (hF : Kd.C (Kd.int .u8) W A r.length r) (hc : r.length ≤ c) (hb : okB r = true) (hrl : r.length ≤ 140737488351232) (hbad : J.broken = true ∨ isRec r = false) :
  Calls Try.prog 29 #[.pointer (some ⟨gx, 0, none⟩), .slice A r.length c] W fun e W' => e = .returned (.int .i64 (appendM T J r).1) ∧ Turned ok W W' (Res.sep (RTape gr (appendM T J r).2.1) (RJour w Fo gx gr (appendM T J r).2.2)) := by
 obtain ⟨okj, hJ, _⟩ := sep_snd hP
 obtain ⟨Ax, cx, hcx, hC⟩ := rjour_open hJ
 obtain ⟨x0, x1, x2, x3, x4, x5, _⟩ := blk_all6 (rjour_blk hC)
 obtain ⟨br, ebr⟩ : ∃ b, J.broken = b := ⟨_, rfl⟩
 rw [ebr] at x5
 have HP := Aside0.mk hP
 clear hP hJ hC hF
 cases br with
 | true =>
  have HM := Aside0.mk (show appendM T J r = (40, T, J) from append_broken ebr r)
  clear hbad ebr
  go_enter Try.func29, Try.ntmps29
  go_wp2_with fail
  go_ret
  rw [HM.out]
  exact ⟨rfl, Turned.refl HP.out⟩
 | false =>
  have hir : isRec r = false := hbad.resolve_left (by rw [ebr]; decide)
  have HM := Aside0.mk (show appendM T J r = (1, T, J) from by unfold appendM; rw [if_neg (by rw [ebr]; decide), if_pos hir])
  have hlen : ¬ (1 ≤ r.length ∧ r.length ≤ 8192) := of_decide_eq_false hir
  clear hbad ebr hir
  obtain ⟨n, en⟩ : ∃ n, r.length = n := ⟨_, rfl⟩
  rw [en] at hlen hc hrl ⊢
  clear en
  by_cases h1 : n < 1
  ·have b1 : decide ((n : Int) < 1) = true := decide_eq_true (by omega)
   go_enter Try.func29, Try.ntmps29
   go_wp2_with fail
   go_ret
   rw [HM.out]
   exact ⟨rfl, Turned.refl HP.out⟩
  ·have b1 : decide ((n : Int) < 1) = false := decide_eq_false (by omega)
   have b2 : decide ((n : Int) > 8192) = true := decide_eq_true (by omega)
   have b3 : decide ((8192 : Int) < (n : Int)) = true := decide_eq_true (by omega)
   go_enter Try.func29, Try.ntmps29
   go_wp2_with fail
   go_ret
   rw [HM.out]
   exact ⟨rfl, Turned.refl HP.out⟩
theorem JM.not_broken' {J : JM} (h : J.broken = false) : ({ J with broken := brk 42 } : JM) = J := by
 obtain ⟨a, b, c, d, e⟩ := J
 have h' : e = false := h
 rw [h']
 rfl
theorem write_vals {T : TM} {sd : Int} {f : List Int} (hsd : sd = 0 ∨ sd = 1) : T.writeE sd f = 0 ∨ T.writeE sd f = 40 ∨ T.writeE sd f = 42 := by
 unfold TM.writeE
 rcases TM.ready_val T hsd with h | h
 ·rw [if_neg (by rw [h]; decide)]
  split
  ·exact .inr (.inr rfl)
  ·exact .inl rfl
 ·rw [if_pos (by rw [h]; decide), h]
  exact .inr (.inl rfl)
set_option maxHeartbeats 16000000 in
set_option maxRecDepth 100000 in
theorem rjour_Append.go (w : World) (Fo : Nat → Prop) (gx gr : Nat) (T : TM) (N : Nat) (hT : T.Ok N) (hN : N + 9000 ≤ 1000000000) (J : JM) (hsd : J.side = 0 ∨ J.side = 1) (A : Option Addr) (c : Nat) (r : List Int) (W : World) (ok : Nat → Prop) (hP : (Res.sep (RTape gr T) (RJour w Fo gx gr J)).P ok W) (hF : Kd.F (Kd.int .u8) w Fo A r.length r) (hAg : ∀ W', Keeps W W' ok → Agree w Fo W') (hc : r.length ≤ c) (hb : okB r = true) (hir : isRec r = true) (hbr : J.broken = false) (hL : J.L.length ≤ 100000) (hS : 0 ≤ J.size ∧ J.size ≤ 1000000000)
  (hgood : T.writeE J.side (frameM r) ≠ 0 ∨ (T.write J.side (frameM r)).ready 0 ≠ 0) :
  Calls Try.prog 29 #[.pointer (some ⟨gx, 0, none⟩), .slice A r.length c] W fun e W' => e = .returned (.int .i64 (appendM T J r).1) ∧ Turned ok W W' (Res.sep (RTape gr (appendM T J r).2.1) (RJour w Fo gx gr (appendM T J r).2.2)) := by
 have hrl : 1 ≤ r.length ∧ r.length ≤ 8192 := of_decide_eq_true hir
 have HC0 := Aside0.mk (hF W (hAg W (Keeps.refl _ _)))
 have HPB := Aside0.mk (Res.bound _ hP)
 obtain ⟨okj0, hJ0, _⟩ := sep_snd hP
 obtain ⟨Ax0, cx0, _, hC0⟩ := rjour_open hJ0
 obtain ⟨x0, x1, x2, x3, x4, x5, _⟩ := blk_all6 (rjour_blk hC0)
 rw [hbr] at x5
 have HM0 := Aside0.mk (show appendM T J r = _ from by unfold appendM; rw [if_neg (by rw [hbr]; decide), if_neg (by rw [hir]; decide)])
 have HFR := Aside0.mk (frame15 [] r hb (by decide) (by omega) 100000 (by omega))
 have HFL := Aside0.mk (show (frameM r).length ≤ 8200 from by rw [frameM_len]; omega)
 have HWV := Aside0.mk (write_vals (T := T) (f := frameM r) hsd)
 have HBR := Aside0.mk hbr
 have HT := Aside0.mk hT
 have HNN := Aside0.mk hN
 have HGD := Aside0.mk hgood
 obtain ⟨n, en⟩ : ∃ n, r.length = n := ⟨_, rfl⟩
 have b1 : decide ((n : Int) < 1) = false := decide_eq_false (by omega)
 have b2 : decide ((n : Int) > 8192) = false := decide_eq_false (by omega)
 have b3 : decide ((8192 : Int) < (n : Int)) = false := decide_eq_false (by omega)
 have HCC := Aside0.mk hc
 rw [en] at hc
 have HEN := Aside0.mk en
 rw [en]
 clear hP hF hAg hb hir hbr hJ0 hC0 hT hN hrl hgood en
 go_enter Try.func29, Try.ntmps29
 go_wp2_with fail
 rw [← HEN.out]
 refine (liveryref17_Frame.calls 100000 none 0 [] A c r ([] ++ frameM r) W (Kd.R_reads' (Kd.R_nil (Kd.int .u8) 5 W 0 (fun _ => True))).2.2 (Nat.le_refl _) HC0.out HCC.out HFR.out).mono ?_
 rintro e w2 ⟨v2, rfl, hR2, hB2⟩
 obtain ⟨f, ef⟩ : ∃ f, frameM r = f := ⟨_, rfl⟩
 rw [List.nil_append, ef] at hR2
 rw [ef] at HFL HM0 HWV HGD
 obtain ⟨A2, c2, ev2⟩ := Kd.R_slice hR2
 subst ev2
 obtain ⟨w3, e3⟩ : ∃ w3 : World, w3 = w2.drew := ⟨_, rfl⟩
 have HD3 := Aside0.mk (show Below w2.heap.size w2 w3 from by rw [e3]; exact below_drew1 (Below.refl _ _))
 have HB3 := Aside0.mk (below_step hB2 HD3.out)
 have HR3 := Aside0.mk (Kd.R_below hR2 HD3.out)
 obtain ⟨oka, okj, htp, hJ3, hap, hts, htb⟩ := sep_left2 (Res.on _ HPB.out HB3.out)
 have HTP := Aside0.mk htp
 have HBA := Aside0.mk @htb
 obtain ⟨Ax, cx, _, hC3⟩ := rjour_open hJ3
 have HNJ := Aside0.mk (show ¬ oka gx from fun hk => hap gx hk (obj_ok hC3))
 have HFQ := Aside0.mk (show ∀ W', Keeps w3 W' oka → Kd.C (Kd.int .u8) W' A2 f.length f from fun W' hk => row_stays (W := W) (okW := oka) (fun k hk => (hts k hk).1.2) (Nat.le_refl _) HR3.out (Keeps.refl w3 oka) W' (hk.mono (fun k _ hk => .inl hk)))
 obtain ⟨sd, esd⟩ : ∃ sd, J.side = sd := ⟨_, rfl⟩
 rw [esd] at x1 HM0 HWV HGD
 have HESD := Aside0.mk esd
 have hj0 := pw_cell_below HB3.out x0
 have hj1 := pw_cell_below HB3.out x1
 clear hR2 hB2 htp htb hJ3 hap hts hC3 x0 x1 x2 x3 x4 x5 ef esd HR3 b1 b2 b3
 go_wp2_with fail
 refine start_ (n := 11) (S := fun w' => w'.cell? ⟨gx, 0, none⟩ = some (.pointer (some ⟨gr, 0, none⟩)) ∧ w'.cell? ⟨gx, 1, none⟩ = some (.int .i64 sd)) (ds := []) #[false, false, false, false, false, false, false, false, false, false, false] (by kernel_rfl) rfl rfl ⟨(by rw [← e3]; exact hj0), (by rw [← e3]; exact hj1)⟩ (fun hHeld => ?_)
 rw [← e3] at hHeld ⊢
 clear e3
 refine pure_ (i := 0) (N := some 22) (v := ?_) (a' := ?_) #[true, false, false, false, false, false, false, false, false, false, false] rfl rfl (by kernel_rfl) (fun _ _ _ h => h) (Or.inl ⟨by rfl, ?_⟩) ?_ ?_
 rotate_left
 ·intro w'
  go_simp
  with_reducible rfl
 rotate_left
 ·simp only [Act.put, List.setIfInBounds_toArray, List.set_cons_zero, List.set_cons_succ, i64_w, i32_w]
  rfl
 refine pure_ (i := 1) (N := some 23) (v := ?_) (a' := ?_) #[true, true, false, false, false, false, false, false, false, false, false] rfl rfl (by kernel_rfl) (fun _ _ _ h => h) (Or.inl ⟨by rfl, ?_⟩) ?_ ?_
 rotate_left
 ·intro w'
  go_simp
  with_reducible rfl
 rotate_left
 ·simp only [Act.put, List.setIfInBounds_toArray, List.set_cons_zero, List.set_cons_succ, i64_w, i32_w]
  rfl
 refine pure_ (i := 2) (N := some 24) (v := ?_) (a' := ?_) #[true, true, true, false, false, false, false, false, false, false, false] rfl rfl (by kernel_rfl) (fun _ _ _ h => h) (Or.inl ⟨by rfl, ?_⟩) ?_ ?_
 rotate_left
 ·intro w'
  go_simp
  with_reducible rfl
 rotate_left
 ·simp only [Act.put, List.setIfInBounds_toArray, List.set_cons_zero, List.set_cons_succ, i64_w, i32_w]
  rfl
 refine pure_ (i := 4) (N := some 26) (v := ?_) (a' := ?_) #[true, true, true, false, true, false, false, false, false, false, false] rfl rfl (by kernel_rfl) (fun _ _ _ h => h) (Or.inl ⟨by rfl, ?_⟩) ?_ ?_
 rotate_left
 ·intro w'
  go_simp
  with_reducible rfl
 rotate_left
 ·simp only [Act.put, List.setIfInBounds_toArray, List.set_cons_zero, List.set_cons_succ, i64_w, i32_w]
  rfl
 refine pure_ (i := 5) (N := some 27) (v := ?_) (a' := ?_) #[true, true, true, false, true, true, false, false, false, false, false] rfl rfl (by kernel_rfl) (fun _ _ _ h => h) (Or.inl ⟨by rfl, ?_⟩) ?_ ?_
 rotate_left
 ·intro w'
  go_simp
  with_reducible rfl
 rotate_left
 ·simp only [Act.put, List.setIfInBounds_toArray, List.set_cons_zero, List.set_cons_succ, i64_w, i32_w]
  rfl
 refine pure_ (i := 6) (N := some 28) (v := ?_) (a' := ?_) #[true, true, true, false, true, true, true, false, false, false, false] rfl rfl (by kernel_rfl) (fun _ _ _ h => h) (Or.inl ⟨by rfl, ?_⟩) ?_ ?_
 rotate_left
 ·intro w'
  go_simp
  with_reducible rfl
 rotate_left
 ·simp only [Act.put, List.setIfInBounds_toArray, List.set_cons_zero, List.set_cons_succ, i64_w, i32_w]
  rfl
 refine pure_ (i := 8) (N := some 30) (v := ?_) (a' := ?_) #[true, true, true, false, true, true, true, false, true, false, false] rfl rfl (by kernel_rfl) (fun _ _ _ h => h) (Or.inl ⟨by rfl, ?_⟩) ?_ ?_
 rotate_left
 ·intro w'
  go_simp
  with_reducible rfl
 rotate_left
 ·simp only [Act.put, List.setIfInBounds_toArray, List.set_cons_zero, List.set_cons_succ, i64_w, i32_w]
  rfl
 refine take_ (i := 3) (N := some 25) (v := ?_) (a' := ?_) #[true, true, true, true, true, true, true, false, true, false, false] rfl rfl (by kernel_rfl) (fun _ _ _ h => h) (Or.inl ⟨by rfl, ?_⟩) hHeld ?_ ?_
 rotate_left
 ·rintro w' ⟨s0, s1⟩
  go_simp
  with_reducible rfl
 rotate_left
 ·simp only [Act.put, List.setIfInBounds_toArray, List.set_cons_zero, List.set_cons_succ, i64_w, i32_w]
  rfl
 refine take_ (i := 7) (N := some 29) (v := ?_) (a' := ?_) #[true, true, true, true, true, true, true, true, true, false, false] rfl rfl (by kernel_rfl) (fun _ _ _ h => h) (Or.inl ⟨by rfl, ?_⟩) hHeld ?_ ?_
 rotate_left
 ·rintro w' ⟨s0, s1⟩
  go_simp
  with_reducible rfl
 rotate_left
 ·simp only [Act.put, List.setIfInBounds_toArray, List.set_cons_zero, List.set_cons_succ, i64_w, i32_w]
  rfl
 refine one_ (i := 9) (N := some 31) #[true, true, true, true, true, true, true, true, true, true, false] rfl rfl (by kernel_rfl) (by decide) (fun K hK => ?_)
 refine goes_ Try.func21 (by kernel_rfl) rfl #[.pointer (some ⟨gr, 0, none⟩), .int .i64 sd, .slice A2 f.length c2] (by rfl) rfl rfl (by simp only [List.map_toArray, List.map_cons, List.map_nil]; rfl) ?_
 with_reducible refine ((rtape_Write.calls gr T N HT.out (by have := HNN.out; omega) sd A2 c2 f w3 _ HTP.out HFQ.out (by have := HFL.out; omega))).mono ?_
 rintro e w4 ⟨rfl, ht4⟩
 have HT4 := Aside0.mk (HBA.out ht4)
 have HK4 := Aside0.mk ht4.1
 clear ht4
 refine ⟨_, rfl, ?_⟩
 refine hK.out _ _ ⟨(pw_keeps HK4.out HNJ.out hj0), (pw_keeps HK4.out HNJ.out hj1)⟩ (fun hHeld => ?_)
 clear hK K
 refine norm_ (a' := ?_) ?_ ?_
 rotate_left
 ·show Act.put _ (some 31) _ = _
  simp only [Act.put, List.setIfInBounds_toArray, List.set_cons_zero, List.set_cons_succ, i64_w, i32_w]
  rfl
 refine pure_ (i := 10) (N := some 6) (v := ?_) (a' := ?_) #[true, true, true, true, true, true, true, true, true, true, true] rfl rfl (by kernel_rfl) (fun _ _ _ h => h) (Or.inl ⟨by rfl, ?_⟩) ?_ ?_
 rotate_left
 ·intro w'
  go_simp
  with_reducible rfl
 rotate_left
 ·simp only [Act.put, List.setIfInBounds_toArray, List.set_cons_zero, List.set_cons_succ, i64_w, i32_w]
  rfl
 refine done_ (by kernel_rfl) ?_
 have HTO1 := Aside0.mk (TM.write_ok HT.out sd f)
 obtain ⟨T1, eT⟩ : ∃ x, T.write sd f = x := ⟨_, rfl⟩
 obtain ⟨e1, ee⟩ : ∃ x, T.writeE sd f = x := ⟨_, rfl⟩
 rw [eT] at HT4 HM0 HGD HTO1
 rw [ee] at HM0 HGD HWV ⊢
 have HT5 := Aside0.mk (show Turned ok W w4 (Res.sep (RTape gr T1) (RJour w Fo gx gr J)) from Turned.from HB3.out HT4.out)
 clear eT ee hj0 hj1 HTP HBA HNJ HFQ HPB
 obtain ⟨okq, hq, _⟩ := sep_snd HT5.out.2
 obtain ⟨Aq, cq, _, hCq⟩ := rjour_open hq
 obtain ⟨z0, z1, z2, z3, z4, z5, g0, g1, g2, g3, g4, g5⟩ := blk_all6 (rjour_blk hCq)
 clear hq hCq
 rcases HWV.out with h0 | h0 | h0
 ·subst h0
  have HGD1 := Aside0.mk (show T1.ready 0 ≠ 0 from HGD.out.resolve_left (by simp))
  have HM1 := Aside0.mk (HM0.out.trans (if_neg (by simp)))
  obtain ⟨oka5, htp5, _, hb5⟩ := sep_left HT5.out.2
  have HTP5 := Aside0.mk htp5
  have HB5 := Aside0.mk @hb5
  clear htp5 hb5
  go_wp2_with fail
  refine (rtape_Sync.calls gr T1 (N + f.length) HTO1.out (by have := HNN.out; have := HFL.out; omega) w4 _ HTP5.out).mono ?_
  rintro e w6 ⟨rfl, ht6⟩
  have HT6 := Aside0.mk (HT5.out.then_ (HB5.out ht6).1 (HB5.out ht6).2)
  obtain ⟨e2, ee2⟩ : ∃ x, T1.ready 0 = x := ⟨_, rfl⟩
  rw [ee2] at HM1 HGD1 ⊢
  have h2 : e2 ≠ 0 := HGD1.out
  have h2b : e2 = 40 := by rw [← ee2]; exact not0_40 (.inl rfl) (by rw [ee2]; exact h2)
  subst h2b
  obtain ⟨okq, hq, _⟩ := sep_right HT6.out.2
  have HME := Aside0.mk (HM1.out.trans (if_pos (by decide)))
  obtain ⟨Aq, cq, _, hCq⟩ := rjour_open hq
  clear z0 z1 z2 z3 z4 z5 g0 g1 g2 g3 g4 g5
  obtain ⟨z0, z1, z2, z3, z4, z5, g0, g1, g2, g3, g4, g5⟩ := blk_all6 (rjour_blk hCq)
  clear hq hCq ht6 ee2 h2
  go_wp2_with fail
  go_ret
  have esd := HESD.out
  subst esd
  rw [HME.out, brk40]
  obtain ⟨okq, hq, _, hbq⟩ := sep_right HT6.out.2
  have hfin := hbq (rjour_broke hq)
  exact ⟨rfl, HT6.out.then_ hfin.1 hfin.2⟩
 ·subst h0
  have HME := Aside0.mk (HM0.out.trans (if_pos (by decide)))
  go_wp2_with fail
  go_ret
  have esd := HESD.out
  subst esd
  rw [HME.out, brk40]
  obtain ⟨okq, hq, _, hbq⟩ := sep_right HT5.out.2
  have hfin := hbq (rjour_broke hq)
  exact ⟨rfl, HT5.out.then_ hfin.1 hfin.2⟩
 ·subst h0
  have HME := Aside0.mk (HM0.out.trans (if_pos (by decide)))
  go_wp2_with fail
  go_ret
  have esd := HESD.out
  subst esd
  rw [HME.out]
  have e5 : ({ J with broken := brk 42 } : JM) = J := JM.not_broken' HBR.out
  refine ⟨rfl, ?_⟩
  show Turned ok W w4 (Res.sep (RTape gr T1) (RJour w Fo gx gr { J with broken := brk 42 }))
  rw [e5]
  exact HT5.out
end Go.Proofs.Ytmfmoddaejoekaa.P
