/- Contracts, typed by hand and by a program: the document's journal: Append goes through. -/
import Derived.Test.YtmfmoddaejoekaaHRJourC
set_option linter.unusedVariables false
set_option linter.unusedSimpArgs false
namespace Go.Proofs.Ytmfmoddaejoekaa.P
open Go.RowKit Go.Proofs.YtmfmoddaejoekaaW.PrintWords Go.Proofs.YtmfmoddaejoekaaW.PrintLast Go.Proofs.YtmfmoddaejoekaaW.PrintMore
/-- The blocks that a seen part and the frozen world have. -/
abbrev FoS (w : World) (Fo okq : Nat → Prop) : Nat → Prop := fun k => okq k ∨ (Fo k ∧ k < w.heap.size)
theorem agree_FoS {w W W' : World} {Fo okq : Nat → Prop} (hag : Agree w Fo W) (hW : ∀ k, FoS w Fo okq k → k < W.heap.size → W'.heap[k]? = W.heap[k]?) : Agree w Fo W' := fun k hf hlt => (hW k (.inr ⟨hf, hlt⟩) (heap_lt (hag k hf hlt) hlt)).trans (hag k hf hlt)
theorem seen_F {w W : World} {Fo okq : Nat → Prop} {A : Option Addr} {L : List (List Int)} (hag : Agree w Fo W) (h : (Res.seen w Fo (RowsQ A L)).P okq W) : Kd.F (Kd.slice 5 (Kd.int .u8)) W (FoS w Fo okq) A L.length L :=
 fun W' hW => h W' (agree_FoS hag (fun k hk hlt => hW k hk hlt)) (fun k hk hlt => hW k (.inl hk) hlt)
theorem frozen_F {w W : World} {Fo okq : Nat → Prop} {A : Option Addr} {r : List Int} (hag : Agree w Fo W) (h : Kd.F (Kd.int .u8) w Fo A r.length r) : Kd.F (Kd.int .u8) W (FoS w Fo okq) A r.length r :=
 fun W' hW => h W' (agree_FoS hag (fun k hk hlt => hW k hk hlt))
/-- A new outer row of told rows is a seen part. -/
theorem seen_new {w W wx : World} {Fo okq : Nat → Prop} {A : Option Addr} {c : Nat} {L : List (List Int)} (hag : Agree w Fo W) (hb : Below W.heap.size W wx) (h : (told (Kd.int .u8) 5 W (FoS w Fo okq)).R 30 wx 0 (fun k => W.heap.size ≤ k) (.slice A L.length c) L) :
  Turned okq W wx (Res.seen w Fo (RowsQ A L)) := by
 refine ⟨Keeps.of_below hb _, fun W' ha hk => ?_⟩
 have h1 := Kd.R_step (Kd.R_bound h) (w1 := W') (fun k hk2 hlt => hk k (.inr hk2.1) hlt)
 refine told_C (Kd.R_reads' h1).2.2 (fun k hf hlt => ?_)
 rcases hf with hf | hf
 ·have e1 := hb.block k hlt
  exact (hk k (.inl hf) (heap_lt e1 hlt)).trans e1
 ·exact (ha k hf.1 hf.2).trans (hag k hf.1 hf.2).symm
set_option maxHeartbeats 16000000 in
set_option maxRecDepth 100000 in
theorem rjour_Append.yes (w : World) (Fo : Nat → Prop) (gx gr : Nat) (T : TM) (N : Nat) (hT : T.Ok N) (hN : N + 9000 ≤ 1000000000) (J : JM) (hsd : J.side = 0 ∨ J.side = 1) (A : Option Addr) (c : Nat) (r : List Int) (W : World) (ok : Nat → Prop) (hP : (Res.sep (RTape gr T) (RJour w Fo gx gr J)).P ok W) (hF : Kd.F (Kd.int .u8) w Fo A r.length r) (hAg : ∀ W', Keeps W W' ok → Agree w Fo W') (hc : r.length ≤ c) (hb : okB r = true) (hir : isRec r = true) (hbr : J.broken = false) (hL : J.L.length ≤ 100000) (hS : 0 ≤ J.size ∧ J.size ≤ 1000000000)
  (hgood : T.writeE J.side (frameM r) = 0 ∧ (T.write J.side (frameM r)).ready 0 = 0) :
  Calls Try.prog 29 #[.pointer (some ⟨gx, 0, none⟩), .slice A r.length c] W fun e W' => e = .returned (.int .i64 (appendM T J r).1) ∧ Turned ok W W' (Res.sep (RTape gr (appendM T J r).2.1) (RJour w Fo gx gr (appendM T J r).2.2)) := by
 have hrl : 1 ≤ r.length ∧ r.length ≤ 8192 := of_decide_eq_true hir
 have HC0 := Aside0.mk (hF W (hAg W (Keeps.refl _ _)))
 have HPB := Aside0.mk (Res.bound _ hP)
 obtain ⟨okj0, hJ0, _⟩ := sep_snd hP
 obtain ⟨Ax0, cx0, _, hC0⟩ := rjour_open hJ0
 obtain ⟨x0, x1, x2, x3, x4, x5, _⟩ := blk_all6 (rjour_blk hC0)
 rw [hbr] at x5
 have HM0 := Aside0.mk (show appendM T J r = _ from by unfold appendM; rw [if_neg (by rw [hbr]; decide), if_neg (by rw [hir]; decide)])
 have HFR := Aside0.mk (frame15 [] r hb (by decide) (by omega) 100000 (by omega))
 have HFL := Aside0.mk (show (frameM r).length ≤ 8200 from by rw [frameM_len]; omega)
 have HWV := Aside0.mk (write_vals (T := T) (f := frameM r) hsd)
 have HBR := Aside0.mk hbr
 have HT := Aside0.mk hT
 have HNN := Aside0.mk hN
 have HGD := Aside0.mk hgood
 have HFR2 := Aside0.mk hF
 have HAG := Aside0.mk hAg
 obtain ⟨n, en⟩ : ∃ n, r.length = n := ⟨_, rfl⟩
 have b1 : decide ((n : Int) < 1) = false := decide_eq_false (by omega)
 have b2 : decide ((n : Int) > 8192) = false := decide_eq_false (by omega)
 have b3 : decide ((8192 : Int) < (n : Int)) = false := decide_eq_false (by omega)
 have HCC := Aside0.mk hc
 rw [en] at hc
 have HEN := Aside0.mk en
 rw [en]
 clear hP hF hAg hb hir hbr hJ0 hC0 hT hN hrl hgood en
 go_enter Try.func29, Try.ntmps29
 go_wp2_with fail
 rw [← HEN.out]
 refine (liveryref17_Frame.calls 100000 none 0 [] A c r ([] ++ frameM r) W (Kd.R_reads' (Kd.R_nil (Kd.int .u8) 5 W 0 (fun _ => True))).2.2 (Nat.le_refl _) HC0.out HCC.out HFR.out).mono ?_
 rintro e w2 ⟨v2, rfl, hR2, hB2⟩
 obtain ⟨f, ef⟩ : ∃ f, frameM r = f := ⟨_, rfl⟩
 rw [List.nil_append, ef] at hR2
 rw [ef] at HFL HM0 HWV HGD
 obtain ⟨A2, c2, ev2⟩ := Kd.R_slice hR2
 subst ev2
 obtain ⟨w3, e3⟩ : ∃ w3 : World, w3 = w2.drew := ⟨_, rfl⟩
 have HD3 := Aside0.mk (show Below w2.heap.size w2 w3 from by rw [e3]; exact below_drew1 (Below.refl _ _))
 have HB3 := Aside0.mk (below_step hB2 HD3.out)
 have HR3 := Aside0.mk (Kd.R_below hR2 HD3.out)
 obtain ⟨oka, okj, htp, hJ3, hap, hts, htb⟩ := sep_left2 (Res.on _ HPB.out HB3.out)
 have HTP := Aside0.mk htp
 have HBA := Aside0.mk @htb
 obtain ⟨Ax, cx, _, hC3⟩ := rjour_open hJ3
 have HNJ := Aside0.mk (show ¬ oka gx from fun hk => hap gx hk (obj_ok hC3))
 have HFQ := Aside0.mk (show ∀ W', Keeps w3 W' oka → Kd.C (Kd.int .u8) W' A2 f.length f from fun W' hk => row_stays (W := W) (okW := oka) (fun k hk => (hts k hk).1.2) (Nat.le_refl _) HR3.out (Keeps.refl w3 oka) W' (hk.mono (fun k _ hk => .inl hk)))
 obtain ⟨sd, esd⟩ : ∃ sd, J.side = sd := ⟨_, rfl⟩
 rw [esd] at x1 HM0 HWV HGD
 have HESD := Aside0.mk esd
 have hj0 := pw_cell_below HB3.out x0
 have hj1 := pw_cell_below HB3.out x1
 clear hR2 hB2 htp htb hJ3 hap hts hC3 x0 x1 x2 x3 x4 x5 ef esd HR3 b1 b2 b3
 go_wp2_with fail
 refine start_ (n := 11) (S := fun w' => w'.cell? ⟨gx, 0, none⟩ = some (.pointer (some ⟨gr, 0, none⟩)) ∧ w'.cell? ⟨gx, 1, none⟩ = some (.int .i64 sd)) (ds := []) #[false, false, false, false, false, false, false, false, false, false, false] (by kernel_rfl) rfl rfl ⟨(by rw [← e3]; exact hj0), (by rw [← e3]; exact hj1)⟩ (fun hHeld => ?_)
 rw [← e3] at hHeld ⊢
 clear e3
 refine pure_ (i := 0) (N := some 22) (v := ?_) (a' := ?_) #[true, false, false, false, false, false, false, false, false, false, false] rfl rfl (by kernel_rfl) (fun _ _ _ h => h) (Or.inl ⟨by rfl, ?_⟩) ?_ ?_
 rotate_left
 ·intro w'
  go_simp
  with_reducible rfl
 rotate_left
 ·simp only [Act.put, List.setIfInBounds_toArray, List.set_cons_zero, List.set_cons_succ, i64_w, i32_w]
  rfl
 refine pure_ (i := 1) (N := some 23) (v := ?_) (a' := ?_) #[true, true, false, false, false, false, false, false, false, false, false] rfl rfl (by kernel_rfl) (fun _ _ _ h => h) (Or.inl ⟨by rfl, ?_⟩) ?_ ?_
 rotate_left
 ·intro w'
  go_simp
  with_reducible rfl
 rotate_left
 ·simp only [Act.put, List.setIfInBounds_toArray, List.set_cons_zero, List.set_cons_succ, i64_w, i32_w]
  rfl
 refine pure_ (i := 2) (N := some 24) (v := ?_) (a' := ?_) #[true, true, true, false, false, false, false, false, false, false, false] rfl rfl (by kernel_rfl) (fun _ _ _ h => h) (Or.inl ⟨by rfl, ?_⟩) ?_ ?_
 rotate_left
 ·intro w'
  go_simp
  with_reducible rfl
 rotate_left
 ·simp only [Act.put, List.setIfInBounds_toArray, List.set_cons_zero, List.set_cons_succ, i64_w, i32_w]
  rfl
 refine pure_ (i := 4) (N := some 26) (v := ?_) (a' := ?_) #[true, true, true, false, true, false, false, false, false, false, false] rfl rfl (by kernel_rfl) (fun _ _ _ h => h) (Or.inl ⟨by rfl, ?_⟩) ?_ ?_
 rotate_left
 ·intro w'
  go_simp
  with_reducible rfl
 rotate_left
 ·simp only [Act.put, List.setIfInBounds_toArray, List.set_cons_zero, List.set_cons_succ, i64_w, i32_w]
  rfl
 refine pure_ (i := 5) (N := some 27) (v := ?_) (a' := ?_) #[true, true, true, false, true, true, false, false, false, false, false] rfl rfl (by kernel_rfl) (fun _ _ _ h => h) (Or.inl ⟨by rfl, ?_⟩) ?_ ?_
 rotate_left
 ·intro w'
  go_simp
  with_reducible rfl
 rotate_left
 ·simp only [Act.put, List.setIfInBounds_toArray, List.set_cons_zero, List.set_cons_succ, i64_w, i32_w]
  rfl
 refine pure_ (i := 6) (N := some 28) (v := ?_) (a' := ?_) #[true, true, true, false, true, true, true, false, false, false, false] rfl rfl (by kernel_rfl) (fun _ _ _ h => h) (Or.inl ⟨by rfl, ?_⟩) ?_ ?_
 rotate_left
 ·intro w'
  go_simp
  with_reducible rfl
 rotate_left
 ·simp only [Act.put, List.setIfInBounds_toArray, List.set_cons_zero, List.set_cons_succ, i64_w, i32_w]
  rfl
 refine pure_ (i := 8) (N := some 30) (v := ?_) (a' := ?_) #[true, true, true, false, true, true, true, false, true, false, false] rfl rfl (by kernel_rfl) (fun _ _ _ h => h) (Or.inl ⟨by rfl, ?_⟩) ?_ ?_
 rotate_left
 ·intro w'
  go_simp
  with_reducible rfl
 rotate_left
 ·simp only [Act.put, List.setIfInBounds_toArray, List.set_cons_zero, List.set_cons_succ, i64_w, i32_w]
  rfl
 refine take_ (i := 3) (N := some 25) (v := ?_) (a' := ?_) #[true, true, true, true, true, true, true, false, true, false, false] rfl rfl (by kernel_rfl) (fun _ _ _ h => h) (Or.inl ⟨by rfl, ?_⟩) hHeld ?_ ?_
 rotate_left
 ·rintro w' ⟨s0, s1⟩
  go_simp
  with_reducible rfl
 rotate_left
 ·simp only [Act.put, List.setIfInBounds_toArray, List.set_cons_zero, List.set_cons_succ, i64_w, i32_w]
  rfl
 refine take_ (i := 7) (N := some 29) (v := ?_) (a' := ?_) #[true, true, true, true, true, true, true, true, true, false, false] rfl rfl (by kernel_rfl) (fun _ _ _ h => h) (Or.inl ⟨by rfl, ?_⟩) hHeld ?_ ?_
 rotate_left
 ·rintro w' ⟨s0, s1⟩
  go_simp
  with_reducible rfl
 rotate_left
 ·simp only [Act.put, List.setIfInBounds_toArray, List.set_cons_zero, List.set_cons_succ, i64_w, i32_w]
  rfl
 refine one_ (i := 9) (N := some 31) #[true, true, true, true, true, true, true, true, true, true, false] rfl rfl (by kernel_rfl) (by decide) (fun K hK => ?_)
 refine goes_ Try.func21 (by kernel_rfl) rfl #[.pointer (some ⟨gr, 0, none⟩), .int .i64 sd, .slice A2 f.length c2] (by rfl) rfl rfl (by simp only [List.map_toArray, List.map_cons, List.map_nil]; rfl) ?_
 with_reducible refine ((rtape_Write.calls gr T N HT.out (by have := HNN.out; omega) sd A2 c2 f w3 _ HTP.out HFQ.out (by have := HFL.out; omega))).mono ?_
 rintro e w4 ⟨rfl, ht4⟩
 have HT4 := Aside0.mk (HBA.out ht4)
 have HK4 := Aside0.mk ht4.1
 clear ht4
 refine ⟨_, rfl, ?_⟩
 refine hK.out _ _ ⟨(pw_keeps HK4.out HNJ.out hj0), (pw_keeps HK4.out HNJ.out hj1)⟩ (fun hHeld => ?_)
 clear hK K
 refine norm_ (a' := ?_) ?_ ?_
 rotate_left
 ·show Act.put _ (some 31) _ = _
  simp only [Act.put, List.setIfInBounds_toArray, List.set_cons_zero, List.set_cons_succ, i64_w, i32_w]
  rfl
 refine pure_ (i := 10) (N := some 6) (v := ?_) (a' := ?_) #[true, true, true, true, true, true, true, true, true, true, true] rfl rfl (by kernel_rfl) (fun _ _ _ h => h) (Or.inl ⟨by rfl, ?_⟩) ?_ ?_
 rotate_left
 ·intro w'
  go_simp
  with_reducible rfl
 rotate_left
 ·simp only [Act.put, List.setIfInBounds_toArray, List.set_cons_zero, List.set_cons_succ, i64_w, i32_w]
  rfl
 refine done_ (by kernel_rfl) ?_
 have HTO1 := Aside0.mk (TM.write_ok HT.out sd f)
 obtain ⟨T1, eT⟩ : ∃ x, T.write sd f = x := ⟨_, rfl⟩
 obtain ⟨e1, ee⟩ : ∃ x, T.writeE sd f = x := ⟨_, rfl⟩
 rw [eT] at HT4 HM0 HGD HTO1
 rw [ee] at HM0 HGD HWV ⊢
 have HT5 := Aside0.mk (show Turned ok W w4 (Res.sep (RTape gr T1) (RJour w Fo gx gr J)) from Turned.from HB3.out HT4.out)
 clear eT ee hj0 hj1 HTP HBA HNJ HFQ HPB
 obtain ⟨okq, hq, _⟩ := sep_snd HT5.out.2
 obtain ⟨Aq, cq, _, hCq⟩ := rjour_open hq
 obtain ⟨z0, z1, z2, z3, z4, z5, g0, g1, g2, g3, g4, g5⟩ := blk_all6 (rjour_blk hCq)
 clear hq hCq
 have h0 : e1 = 0 := HGD.out.1
 subst h0
 have HM1 := Aside0.mk ((HM0.out.trans (if_neg (by simp))).trans (if_neg (by rw [HGD.out.2]; decide)))
 obtain ⟨oka5, htp5, _, hb5⟩ := sep_left HT5.out.2
 have HTP5 := Aside0.mk htp5
 have HB5 := Aside0.mk @hb5
 clear htp5 hb5
 go_wp2_with fail
 refine (rtape_Sync.calls gr T1 (N + f.length) HTO1.out (by have := HNN.out; have := HFL.out; omega) w4 _ HTP5.out).mono ?_
 rw [HGD.out.2]
 rintro e w6 ⟨rfl, ht6⟩
 have HT6 := Aside0.mk (HT5.out.then_ (HB5.out ht6).1 (HB5.out ht6).2)
 obtain ⟨okq, hq, hqs, hbq⟩ := sep_right HT6.out.2
 obtain ⟨Aq, cq, hcq, hCq⟩ := rjour_open hq
 clear z0 z1 z2 z3 z4 z5 g0 g1 g2 g3 g4 g5
 have HBLK := Aside0.mk (rjour_blk hCq)
 obtain ⟨z0, z1, z2, z3, z4, z5, g0, g1, g2, g3, g4, g5⟩ := blk_all6 HBLK.out
 obtain ⟨oks, hseen, hss, hbs⟩ := obj_turn hCq 0 rfl
 have HA6 := Aside0.mk (HAG.out w6 HT6.out.1)
 have HFS := Aside0.mk (seen_F HA6.out hseen)
 have HFR6 := Aside0.mk (frozen_F (okq := oks) HA6.out HFR2.out)
 have HBS := Aside0.mk @hbs
 have HBQ := Aside0.mk @hbq
 have HST := Aside0.mk (St.nil (St.mk0 w6 (fun _ => False) (Q := fun _ => True) (fun _ _ => trivial)) (told (Kd.int .u8) 5 w6 (FoS w Fo oks)) 30)
 clear hq hCq hseen hss hbs hbq hqs ht6
 go_wp2_with (at_builtin; refine St.app_told rfl (.tmp 48) (.tmp 52) 29 30 rfl Try.underlying29 hinfoR HST.out 1 (.slice none 0 0) [] J.L Aq J.L.length cq rfl rfl rfl (by decide) (told_of HFS.out (Agree.refl _ _)) (by simp; omega) ?_)
 intro v7 w7 h7
 have HS7 := Aside0.mk (show St w6 (fun _ => False) w7 [Res.view (fun _ => True), Res.row (told (Kd.int .u8) 5 w6 (FoS w Fo oks)) 30 v7 J.L] from h7)
 clear h7 HST
 have hc' := HCC.out
 go_wp2_with (at_builtin; refine St.app_told1 rfl (.tmp 54) (.tmp 56) 29 30 rfl Try.underlying29 hinfoR HS7.out 1 v7 A c J.L r rfl rfl rfl (by decide) hc' HFR6.out (by omega) ?_)
 intro v8 w8 h8
 obtain ⟨nx, enx⟩ : ∃ nx, J.L ++ [r] = nx := ⟨_, rfl⟩
 have h8 := (show St w6 (fun _ => False) w8 [Res.view (fun _ => True), Res.row (told (Kd.int .u8) 5 w6 (FoS w Fo oks)) 30 v8 nx] from by rw [← enx]; exact h8)
 obtain ⟨A8, c8, ev8, hc8, _⟩ := row_slice h8 1 rfl
 subst ev8
 obtain ⟨ok8, hr8, hs8⟩ := St.see h8 1 (by decide) rfl
 have hB8 := h8.below
 have HSN := Aside0.mk (HBS.out (seen_new HA6.out hB8 (Kd.R_mono (show (told (Kd.int .u8) 5 w6 (FoS w Fo oks)).R 30 w8 0 ok8 (.slice A8 nx.length c8) nx from hr8) (fun k hk => (hs8 k hk).resolve_left (fun h => h)))))
 have HENX := Aside0.mk enx
 have HC8 := Aside0.mk hc8
 clear z0 z1 z2 z3 z4 z5 g0 g1 g2 g3 g4 g5
 obtain ⟨z0, z1, z2, z3, z4, z5, g0, g1, g2, g3, g4, g5⟩ := blk_all6 (blk_below HBLK.out hB8)
 have hfl := HFL.out
 have hs1 := hS.1
 have hs2 := hS.2
 clear h8 HS7 hr8 hs8 hB8 enx hc8
 go_wp2_with fail
 go_ret
 have esd := HESD.out
 subst esd
 rw [HM1.out]
 have h1 := obj_set HSN.out.2 3 (.slice A8 nx.length c8)
 have h2 := obj_set h1.1 4 (.int .i64 (J.size + (f.length : Int)))
 have h3 := HSN.out.then_ h1.2 (Res.mono _ (fun k hk => .inl hk) h1.1)
 have h4 := h3.then_ h2.2 (Res.mono _ (fun k hk => .inl hk) h2.1)
 have enx := HENX.out
 subst enx
 have hfin := HBQ.out (show Turned okq w6 _ (RJour w Fo gx gr { J with L := J.L ++ [r], size := J.size + (f.length : Int) }) from ⟨h4.1, rjour_mk (J := { J with L := J.L ++ [r], size := J.size + (f.length : Int) }) HC8.out h4.2⟩)
 exact ⟨rfl, HT6.out.then_ hfin.1 hfin.2⟩
theorem rjour_Append.calls (w : World) (Fo : Nat → Prop) (gx gr : Nat) (T : TM) (N : Nat) (hT : T.Ok N) (hN : N + 9000 ≤ 1000000000) (J : JM) (hsd : J.side = 0 ∨ J.side = 1) (A : Option Addr) (c : Nat) (r : List Int) (W : World) (ok : Nat → Prop) (hP : (Res.sep (RTape gr T) (RJour w Fo gx gr J)).P ok W) (hF : Kd.F (Kd.int .u8) w Fo A r.length r) (hAg : ∀ W', Keeps W W' ok → Agree w Fo W') (hc : r.length ≤ c) (hb : okB r = true) (hrl : r.length ≤ 140737488351232) (hL : J.L.length ≤ 100000) (hS : 0 ≤ J.size ∧ J.size ≤ 1000000000) :
  Calls Try.prog 29 #[.pointer (some ⟨gx, 0, none⟩), .slice A r.length c] W fun e W' => e = .returned (.int .i64 (appendM T J r).1) ∧ Turned ok W W' (Res.sep (RTape gr (appendM T J r).2.1) (RJour w Fo gx gr (appendM T J r).2.2)) := by
 by_cases hbad : J.broken = true ∨ isRec r = false
 ·exact rjour_Append.part w Fo gx gr T N hT hN J A c r W ok hP (hF W (hAg W (Keeps.refl _ _))) hc hb hrl hbad
 ·have hbr : J.broken = false := by
   cases h : J.broken with
   | false => rfl
   | true => exact absurd (.inl h) hbad
  have hir : isRec r = true := by
   cases h : isRec r with
   | true => rfl
   | false => exact absurd (.inr h) hbad
  by_cases hg : T.writeE J.side (frameM r) = 0 ∧ (T.write J.side (frameM r)).ready 0 = 0
  ·exact rjour_Append.yes w Fo gx gr T N hT hN J hsd A c r W ok hP hF hAg hc hb hir hbr hL hS hg
  ·refine rjour_Append.go w Fo gx gr T N hT hN J hsd A c r W ok hP hF hAg hc hb hir hbr hL hS ?_
   by_cases h1 : T.writeE J.side (frameM r) = 0
   ·exact .inr (fun h2 => hg ⟨h1, h2⟩)
   ·exact .inl h1
end Go.Proofs.Ytmfmoddaejoekaa.P
