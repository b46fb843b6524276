/- Contracts, typed by hand and by a program: a journal on an empty tape is made. -/
import Derived.Test.YtmfmoddaejoekaaHJourR
set_option linter.unusedVariables false
set_option linter.unusedSimpArgs false
namespace Go.Proofs.Ytmfmoddaejoekaa.P
open Go.RowKit Go.Proofs.YtmfmoddaejoekaaW.PrintWords Go.Proofs.YtmfmoddaejoekaaW.PrintLast Go.Proofs.YtmfmoddaejoekaaW.PrintMore
/-- What an opening tells. -/
def OpenPost (g : Nat) (ok : Nat → Prop) (W : World) (M : Int × TM × Option JM) (e : Ending) (W' : World) : Prop :=
 match M.2.2 with
 | none => e = .returned (.tuple #[.pointer none, .int .i64 M.1]) ∧ Turned ok W W' (PTape g M.2.1)
 | some J => ∃ gj, e = .returned (.tuple #[.pointer (some ⟨gj, 0, none⟩), .int .i64 M.1]) ∧ Turned ok W W' (Res.sep (PTape g M.2.1) (PJour gj g J))
theorem head10 : headR 1 0 = [1, 1, 0] := by decide +kernel
set_option maxHeartbeats 16000000 in
set_option maxRecDepth 100000 in
theorem journal_made.calls (g : Nat) (T : TM) (N : Nat) (hT : T.Ok N) (hN : N + 9000 ≤ 1000000000) (W : World) (ok : Nat → Prop) (hP : (PTape g T).P ok W) :
  Calls Try.prog 35 #[.pointer (some ⟨g, 0, none⟩)] W (OpenPost g ok W (madeM T)) := by
 have HM1 := Aside0.mk (show madeM T = _ by unfold madeM; rfl)
 have HT := Aside0.mk hT
 have HNN := Aside0.mk hN
 have HPB := Aside0.mk (Res.bound _ hP)
 have HHD := Aside0.mk (head_eq 1 0 (by decide) (by decide))
 clear hP hT hN
 go_enter Try.func35, Try.ntmps35
 go_wp2_with fail
 obtain ⟨w0_, e0⟩ : ∃ w0_, w0_ = W.alloc (.cells #[.pointer (some ⟨g, 0, none⟩), .int .i64 1, .int .i64 0, .slice none 0 0, .int .i64 0, .bool false] 71) := ⟨_, rfl⟩
 rw [← e0]
 have HG0 := Aside0.mk (show w0_.heap[W.heap.size]? = some (.cells #[.pointer (some ⟨g, 0, none⟩), .int .i64 1, .int .i64 0, .slice none 0 0, .int .i64 0, .bool false] 71 (0, 0)) by rw [e0]; exact heap_alloc_new W _)
 have HB0 := Aside0.mk (show Below W.heap.size W w0_ by rw [e0]; exact below_alloc (Below.refl _ _) _)
 obtain ⟨okY, hX, hYD, hYG, hYN⟩ : ∃ okY : Nat → Prop, (PTape g T).P okY w0_ ∧ (∀ k, okY k → (ok k ∧ k < W.heap.size) ∨ W.heap.size ≤ k) ∧ (¬ okY W.heap.size) ∧ (∀ k, w0_.heap.size ≤ k → okY k) := by
  refine ⟨fun k => (ok k ∧ k < W.heap.size) ∨ w0_.heap.size ≤ k, Res.mono _ (fun k hk => .inl hk) (Res.on _ HPB.out HB0.out), fun k hk => hk.imp id (Nat.le_trans HB0.out.size), fun hh => ?_, fun k hk => .inr hk⟩
  rcases hh with h | h
  ·exact Nat.lt_irrefl _ h.2
  ·have := blk_lt HG0.out
   omega
 have HYD := Aside0.mk hYD
 have HYG := Aside0.mk hYG
 have HYN := Aside0.mk hYN
 have HX0 := Aside0.mk hX
 have HK0 := Aside0.mk (Keeps.of_below HB0.out (fun k => ok k ∧ k < W.heap.size))
 have HS0 := Aside0.mk (Nat.le_refl w0_.heap.size)
 clear hX hYD hYG hYN e0
 refine (tape_Clear.calls g T N HT.out (by have := HNN.out; omega) 0 w0_ okY HX0.out).mono ?_
 rintro e w1_ ⟨rfl, ht⟩
 have HG1 := Aside0.mk (show w1_.heap[W.heap.size]? = some _ from (ht.1.block _ (blk_lt HG0.out) HYG.out).trans HG0.out)
 have HS1 := Aside0.mk (show w0_.heap.size ≤ w1_.heap.size from Nat.le_trans HS0.out ht.1.size)
 have HX1 := Aside0.mk (Res.mono (PTape g _) (ok' := okY) (fun k hk => hk.elim id (fun h => HYN.out k (Nat.le_trans HS0.out h))) ht.2)
 have HK1 := Aside0.mk (HK0.out.then_ ht.1 (fun k hk => HYD.out k hk))
 obtain ⟨T1, eT⟩ : ∃ x, T.trim 0 0 = x := ⟨_, rfl⟩
 have HTO1 := Aside0.mk (show T1.Ok (N + 1) from eT ▸ TM.trim_ok HT.out 0 0)
 rw [eT] at HX1 HM1
 obtain ⟨e1, ee⟩ : ∃ x, T.trimE 0 0 = x := ⟨_, rfl⟩
 rw [ee] at HM1 ⊢
 clear ht eT ee
 by_cases h1 : e1 ≠ 0
 ·have c1 : (e1 != 0) = true := by simp [h1]
  have c2 : (e1 == 0) = false := by simp [h1]
  have HME := Aside0.mk (HM1.out.trans (if_pos h1))
  clear h1
  go_wp2_with fail
  go_ret2
  rw [HME.out]
  exact ⟨rfl, HK1.out.mono (fun k _ hk => hk.1), Res.mono _ (fun k hk => (HYD.out k hk).imp (·.1) id) HX1.out⟩
 have c1 : (e1 != 0) = false := by simpa using h1
 have c2 : (e1 == 0) = true := by simpa using h1
 have HM2 := Aside0.mk (HM1.out.trans (if_neg h1))
 have he0 : e1 = 0 := by omega
 subst he0
 clear h1 HM1 c1 c2
 go_wp2_with fail
 refine (tape_Clear.calls g T1 (N + 1) HTO1.out (by have := HNN.out; omega) 1 w1_ okY HX1.out).mono ?_
 rintro e w2_ ⟨rfl, ht⟩
 have HG2 := Aside0.mk (show w2_.heap[W.heap.size]? = some _ from (ht.1.block _ (blk_lt HG1.out) HYG.out).trans HG1.out)
 have HS2 := Aside0.mk (show w0_.heap.size ≤ w2_.heap.size from Nat.le_trans HS1.out ht.1.size)
 have HX2 := Aside0.mk (Res.mono (PTape g _) (ok' := okY) (fun k hk => hk.elim id (fun h => HYN.out k (Nat.le_trans HS1.out h))) ht.2)
 have HK2 := Aside0.mk (HK1.out.then_ ht.1 (fun k hk => HYD.out k hk))
 obtain ⟨T2, eT⟩ : ∃ x, T1.trim 1 0 = x := ⟨_, rfl⟩
 have HTO2 := Aside0.mk (show T2.Ok (N + 1 + 1) from eT ▸ TM.trim_ok HTO1.out 1 0)
 rw [eT] at HX2 HM2
 obtain ⟨e2, ee⟩ : ∃ x, T1.trimE 1 0 = x := ⟨_, rfl⟩
 rw [ee] at HM2 ⊢
 clear ht eT ee
 by_cases h1 : e2 ≠ 0
 ·have c1 : (e2 != 0) = true := by simp [h1]
  have c2 : (e2 == 0) = false := by simp [h1]
  have HME := Aside0.mk (HM2.out.trans (if_pos h1))
  clear h1
  go_wp2_with fail
  go_ret2
  rw [HME.out]
  exact ⟨rfl, HK2.out.mono (fun k _ hk => hk.1), Res.mono _ (fun k hk => (HYD.out k hk).imp (·.1) id) HX2.out⟩
 have c1 : (e2 != 0) = false := by simpa using h1
 have c2 : (e2 == 0) = true := by simpa using h1
 have HM3 := Aside0.mk (HM2.out.trans (if_neg h1))
 have he0 : e2 = 0 := by omega
 subst he0
 clear h1 HM2 c1 c2
 go_wp2_with fail
 refine (journal_head.calls 1 0 (headR 1 0) w2_ HHD.out).mono ?_
 rintro e w3_ ⟨v3, rfl, hR3, hB3⟩
 obtain ⟨A3, c3, ev3⟩ := Kd.R_slice hR3
 subst ev3
 have HR3 := Aside0.mk (Kd.R_lower (Kd.R_mono (Kd.R_bound hR3) (ok' := fun k => w2_.heap.size ≤ k ∧ k < w3_.heap.size) (fun k hk => ⟨hk.2.1, hk.2.2.1⟩)) (Nat.zero_le _))
 have HB3 := Aside0.mk hB3
 obtain ⟨hr, ehr⟩ : ∃ x, headR 1 0 = x := ⟨_, rfl⟩
 have HRL := Aside0.mk (show hr.length = 3 by rw [← ehr, head10]; rfl)
 rw [ehr] at HM3 HR3
 rw [ehr]
 clear hR3 hB3 HHD ehr
 go_wp2_with fail
 refine (journal_frame.calls (.slice none 0 0) [] A3 c3 hr w3_ (fun _ => False) (Kd.R_nil _ _ _ _ _) (fun W' hk => (Kd.R_reads' (Kd.R_step HR3.out (fun k hk2 hlt => hk.block k hlt (fun h => h)))).2.2) (by have := HRL.out; omega) (by decide)).mono ?_
 rintro e w4_ ⟨v4, rfl, ht4⟩
 rw [List.nil_append] at ht4
 obtain ⟨b, eb⟩ : ∃ x, frameM hr = x := ⟨_, rfl⟩
 rw [eb] at ht4 HM3
 have HBL := Aside0.mk (show b.length = 7 by rw [← eb, frameM_len]; have := HRL.out; omega)
 obtain ⟨Af, cf, ev4⟩ := Kd.R_slice (show (Kd.int .u8).R 5 w4_ 0 _ v4 b from ht4.2)
 subst ev4
 have HB4 := Aside0.mk (below_step HB3.out ht4.1.belowF)
 have HF4 := Aside0.mk (show (Kd.int .u8).R 5 w4_ 0 (fun k => w3_.heap.size ≤ k ∧ k < w4_.heap.size) (.slice Af b.length cf) b from Kd.R_mono (Res.bound (Res.row (Kd.int .u8) 5 _ _) ht4.2) (fun k hk => ⟨hk.1.elim False.elim id, hk.2⟩))
 have HG2b := Aside0.mk ((HB4.out.block _ (blk_lt HG2.out)).trans HG2.out)
 have HX2b := Aside0.mk (Res.on _ (Res.bound _ HX2.out) HB4.out)
 have HK2b := Aside0.mk (HK2.out.step HB4.out)
 have HS2b := Aside0.mk (Nat.le_trans HS2.out HB4.out.size)
 have HSZ := Aside0.mk HB3.out.size
 clear HG2 HX2 HK2 HS2 ht4 eb HR3
 have HG2 := HG2b
 have HX2 := HX2b
 have HK2 := HK2b
 have HS2 := HS2b
 clear HG2b HX2b HK2b HS2b
 go_wp2_with fail
 refine (tape_Write.calls g T2 (N + 1 + 1) HTO2.out (by have := HNN.out; omega) 0 Af cf b w4_ (fun k => okY k ∧ k < w2_.heap.size) HX2.out (fun W' hk => (Kd.R_reads' (Kd.R_step HF4.out (fun k hk2 hlt => hk.block k hlt (fun hh => by have := hh.2; have := hk2.1; have := HSZ.out; omega)))).2.2) (by have := HBL.out; omega)).mono ?_
 rintro e w5_ ⟨rfl, ht⟩
 have HG3 := Aside0.mk (show w5_.heap[W.heap.size]? = some _ from (ht.1.block _ (blk_lt HG2.out) (fun hh => HYG.out hh.1)).trans HG2.out)
 have HS3 := Aside0.mk (show w0_.heap.size ≤ w5_.heap.size from Nat.le_trans HS2.out ht.1.size)
 have HX3 := Aside0.mk (Res.mono (PTape g _) (ok' := okY) (fun k hk => hk.elim (·.1) (fun h => HYN.out k (Nat.le_trans HS2.out h))) ht.2)
 have HK3 := Aside0.mk (HK2.out.then_ ht.1 (fun k hk => HYD.out k hk.1))
 obtain ⟨T3, eT⟩ : ∃ x, T2.write 0 b = x := ⟨_, rfl⟩
 have HTO3 := Aside0.mk (show T3.Ok (N + 1 + 1 + b.length) from eT ▸ TM.write_ok HTO2.out 0 b)
 rw [eT] at HX3 HM3
 obtain ⟨e3, ee⟩ : ∃ x, T2.writeE 0 b = x := ⟨_, rfl⟩
 rw [ee] at HM3 ⊢
 clear ht eT ee
 by_cases h1 : e3 ≠ 0
 ·have c1 : (e3 != 0) = true := by simp [h1]
  have c2 : (e3 == 0) = false := by simp [h1]
  have HME := Aside0.mk (HM3.out.trans (if_pos h1))
  clear h1
  go_wp2_with fail
  go_ret2
  rw [HME.out]
  exact ⟨rfl, HK3.out.mono (fun k _ hk => hk.1), Res.mono _ (fun k hk => (HYD.out k hk).imp (·.1) id) HX3.out⟩
 have c1 : (e3 != 0) = false := by simpa using h1
 have c2 : (e3 == 0) = true := by simpa using h1
 have HM4 := Aside0.mk (HM3.out.trans (if_neg h1))
 have he0 : e3 = 0 := by omega
 subst he0
 clear h1 HM3 c1 c2
 go_wp2_with fail
 refine (tape_Sync.calls g T3 (N + 1 + 1 + b.length) HTO3.out w5_ okY HX3.out).mono ?_
 rintro e w6_ ⟨rfl, ht⟩
 have HG4 := Aside0.mk (show w6_.heap[W.heap.size]? = some _ from (ht.1.block _ (blk_lt HG3.out) HYG.out).trans HG3.out)
 have HS4 := Aside0.mk (show w0_.heap.size ≤ w6_.heap.size from Nat.le_trans HS3.out ht.1.size)
 have HX4 := Aside0.mk (Res.mono (PTape g _) (ok' := okY) (fun k hk => hk.elim id (fun h => HYN.out k (Nat.le_trans HS3.out h))) ht.2)
 have HK4 := Aside0.mk (HK3.out.then_ ht.1 (fun k hk => HYD.out k hk))
 obtain ⟨T4, eT⟩ : ∃ x, T3.sync = x := ⟨_, rfl⟩
 have HTO4 := Aside0.mk (show T4.Ok (N + 1 + 1 + b.length) from eT ▸ TM.sync_ok HTO3.out)
 rw [eT] at HX4 HM4
 obtain ⟨e4, ee⟩ : ∃ x, T3.ready 0 = x := ⟨_, rfl⟩
 rw [ee] at HM4 ⊢
 clear ht eT ee
 by_cases h1 : e4 ≠ 0
 ·have c1 : (e4 != 0) = true := by simp [h1]
  have c2 : (e4 == 0) = false := by simp [h1]
  have HME := Aside0.mk (HM4.out.trans (if_pos h1))
  clear h1
  go_wp2_with fail
  go_ret2
  rw [HME.out]
  exact ⟨rfl, HK4.out.mono (fun k _ hk => hk.1), Res.mono _ (fun k hk => (HYD.out k hk).imp (·.1) id) HX4.out⟩
 have c1 : (e4 != 0) = false := by simpa using h1
 have c2 : (e4 == 0) = true := by simpa using h1
 have HM5 := Aside0.mk (HM4.out.trans (if_neg h1))
 have he0 : e4 = 0 := by omega
 subst he0
 clear h1 HM4 c1 c2
 obtain ⟨z0, z1, z2, z3, z4, z5, p0, p1, p2, p3, p4, p5⟩ := blk_all6 HG4.out
 go_wp2_with fail
 go_ret2
 rw [HM5.out]
 have g1 := blk_put HG4.out 1 (.int .i64 0) rfl
 have g2 := blk_put g1 2 (.int .i64 1) rfl
 have g3 := blk_put g2 4 (.int .i64 (b.length : Int)) rfl
 have k1 := Keeps.set HK4.out (p := ⟨W.heap.size, 1, none⟩) (.inr (Nat.le_refl _)) (.int .i64 0)
 have k2 := Keeps.set k1 (p := ⟨W.heap.size, 2, none⟩) (.inr (Nat.le_refl _)) (.int .i64 1)
 have k3 := Keeps.set k2 (p := ⟨W.heap.size, 4, none⟩) (.inr (Nat.le_refl _)) (.int .i64 (b.length : Int))
 have hne : ∀ k, okY k → k ≠ W.heap.size := fun k hk he => HYG.out (he ▸ hk)
 have x1 := (PTape g T4).step HX4.out (fun k hk _ => Below.heap_setCell w6_ ⟨W.heap.size, 1, none⟩ (.int .i64 0) k (hne k hk))
 have x2 := (PTape g T4).step x1 (fun k hk _ => Below.heap_setCell _ ⟨W.heap.size, 2, none⟩ (.int .i64 1) k (hne k hk))
 have x3 := (PTape g T4).step x2 (fun k hk _ => Below.heap_setCell _ ⟨W.heap.size, 4, none⟩ (.int .i64 (b.length : Int)) k (hne k hk))
 refine ⟨W.heap.size, rfl, k3.mono (fun k _ hk => hk.1), Res.mono _ (fun k hk => hk.elim (fun h => (HYD.out k h).imp (·.1) id) (fun h => .inr (by rw [h]; exact Nat.le_refl _))) (sep_mk x3 (jour_mk (J := ⟨0, 1, [], (b.length : Int), false⟩) (v := .slice none 0 0) (ok := fun k => k = W.heap.size) ⟨rfl, g3, fun _ => 0, fun i R hi => ?_⟩) hne)⟩
 match i, hi with
 | 0, hi => cases hi; exact Kd.Q_nil _ _ _ _ _
end Go.Proofs.Ytmfmoddaejoekaa.P
