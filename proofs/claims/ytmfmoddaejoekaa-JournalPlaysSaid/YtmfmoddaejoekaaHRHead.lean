/- Texts of this claim, laid into one. -/
import Derived.Test.YtmfmoddaejoekaaHRJourA
import Derived.Test.YtmfmoddaejoekaaROpn
section
/- Contracts, typed by hand: the document's journal on an empty tape is made. -/
set_option linter.unusedVariables false
set_option linter.unusedSimpArgs false
namespace Go.Proofs.Ytmfmoddaejoekaa.P
open Go.RowKit Go.Proofs.YtmfmoddaejoekaaW.PrintWords Go.Proofs.YtmfmoddaejoekaaW.PrintLast Go.Proofs.YtmfmoddaejoekaaW.PrintMore
/-- What an opening tells, of the document's. -/
def ROpenPost (w : World) (Fo : Nat → Prop) (g : Nat) (ok : Nat → Prop) (W : World) (M : Int × TM × Option JM) (e : Ending) (W' : World) : Prop :=
 match M.2.2 with
 | none => e = .returned (.tuple #[.pointer none, .int .i64 M.1]) ∧ Turned ok W W' (RTape g M.2.1)
 | some J => ∃ gj, e = .returned (.tuple #[.pointer (some ⟨gj, 0, none⟩), .int .i64 M.1]) ∧ Turned ok W W' (Res.sep (RTape g M.2.1) (RJour w Fo gj g J))
/-- A row that is new stays, whatever the tape's part does behind it. -/
theorem row_stays {W w2 : World} {okW : Nat → Prop} {base : Nat} {B : Option Addr} {d : Nat} {l : List Int} (hok : ∀ k, okW k → k < W.heap.size) (hbs : W.heap.size ≤ base) (h : (Kd.int .u8).R 5 w2 base (fun _ => True) (.slice B l.length d) l) {w4 : World} (h4 : Keeps w2 w4 okW) : ∀ W', Keeps w4 W' (fun k => okW k ∨ w2.heap.size ≤ k) → Kd.C (Kd.int .u8) W' B l.length l := by
 intro W' hk
 have hb := Kd.R_bound h
 refine (Kd.R_reads' (Kd.R_step hb (fun k hk2 hlt => ?_))).2.2
 have h1 : w4.heap[k]? = w2.heap[k]? := h4.block k hlt (fun hh => by have := hok k hh; have := hk2.2.1; omega)
 exact (hk.block k (heap_lt h1 hlt) (fun hh => by
  rcases hh with hh | hh
  ·have := hok k hh; have := hk2.2.1; omega
  ·omega)).trans h1
set_option maxHeartbeats 8000000 in
set_option maxRecDepth 100000 in
theorem rmade.calls (w : World) (Fo : Nat → Prop) (g : Nat) (T : TM) (N : Nat) (hT : T.Ok N) (hN : N + 9000 ≤ 1000000000) (W : World) (ok : Nat → Prop) (hP : (RTape g T).P ok W) :
  Calls Try.prog 56 #[.pointer (some ⟨g, 0, none⟩)] W (ROpenPost w Fo g ok W (madeM T)) := by
 have HT := Aside0.mk hT
 have HNN := Aside0.mk hN
 have HPB := Aside0.mk ((RTape g T).bound hP)
 have HM := Aside0.mk (show madeM T = _ by unfold madeM; rfl)
 clear hT hN hP
 go_enter Try.func56, Try.ntmps56
 go_wp2_with fail
 refine (liveryref17_Head.calls 100 1 0 (headR 1 0) W (head15 1 0 (by decide) (by decide) 100 (by decide))).mono ?_
 rintro e w1 ⟨v1, rfl, hR1, hB1⟩
 obtain ⟨A1, c1, ev1⟩ := Kd.R_slice hR1
 subst ev1
 have HR1 := Aside0.mk (Kd.R_reads' hR1).2
 have HB1 := Aside0.mk hB1
 clear hR1 hB1
 go_wp2_with fail
 refine (liveryref17_Frame.calls 1000 none 0 [] A1 c1 (headR 1 0) ([] ++ frameM (headR 1 0)) w1 (Kd.R_reads' (Kd.R_nil (Kd.int .u8) 5 w1 0 (fun _ => True))).2.2 (Nat.le_refl _) HR1.out.2 HR1.out.1 (frame15 [] (headR 1 0) (by decide +kernel) (by decide) (by decide +kernel) 1000 (by decide +kernel))).mono ?_
 rintro e w2 ⟨v2, rfl, hR2, hB2⟩
 obtain ⟨f, ef⟩ : ∃ f, frameM (headR 1 0) = f := ⟨_, rfl⟩
 rw [List.nil_append, ef] at hR2
 obtain ⟨A2, cb2, ev2⟩ := Kd.R_slice hR2
 subst ev2
 have HR2 := Aside0.mk hR2
 have HB2 := Aside0.mk (below_step HB1.out hB2)
 have HX0 := Aside0.mk (show (RTape g T).P (fun k => ok k ∧ k < W.heap.size) w2 from (RTape g T).on HPB.out HB2.out)
 have HFL := Aside0.mk (show f.length = 7 from by rw [← ef, frameM_len, head10]; rfl)
 rw [ef] at HM
 have HS1 := Aside0.mk (show W.heap.size ≤ w1.heap.size from HB1.out.size)
 clear hR2 hB2 ef HB1 HR1
 go_wp2_with fail
 refine (rtape_Trim.calls g T N HT.out (by have := HNN.out; omega) 0 0 w2 _ HX0.out).mono ?_
 rintro e w3 ⟨rfl, ht⟩
 have HX1 := Aside0.mk ht
 have HTO1 := Aside0.mk (TM.trim_ok HT.out 0 0)
 have HM1 := HM
 obtain ⟨T1, eT⟩ : ∃ x, T.trim 0 0 = x := ⟨_, rfl⟩
 obtain ⟨e1, ee⟩ : ∃ x, T.trimE 0 0 = x := ⟨_, rfl⟩
 rw [eT] at HX1 HTO1 HM1
 rw [ee] at HM1 ⊢
 clear ht eT ee HM
 by_cases h1 : e1 ≠ 0
 ·have c1 : (e1 != 0) = true := by simp [h1]
  have c2 : (e1 == 0) = false := by simp [h1]
  have HME := Aside0.mk (HM1.out.trans (if_pos h1))
  clear h1
  go_wp2_with fail
  go_ret2
  rw [HME.out]
  exact ⟨rfl, Turned.from HB2.out HX1.out⟩
 have c1 : (e1 != 0) = false := by simpa using h1
 have c2 : (e1 == 0) = true := by simpa using h1
 have HM2 := Aside0.mk (HM1.out.trans (if_neg h1))
 have he0 : e1 = 0 := by omega
 subst he0
 clear h1 HM1
 go_wp2_with fail
 refine (rtape_Trim.calls g T1 (N + 1) HTO1.out (by have := HNN.out; omega) 1 0 w3 _ HX1.out.2).mono ?_
 rintro e w4 ⟨rfl, ht⟩
 have HX2 := Aside0.mk (HX1.out.then_ ht.1 ht.2)
 have HTO2 := Aside0.mk (TM.trim_ok HTO1.out 1 0)
 obtain ⟨T2, eT⟩ : ∃ x, T1.trim 1 0 = x := ⟨_, rfl⟩
 obtain ⟨e2, ee⟩ : ∃ x, T1.trimE 1 0 = x := ⟨_, rfl⟩
 rw [eT] at HX2 HTO2 HM2
 rw [ee] at HM2 ⊢
 clear ht eT ee HX1 c1 c2
 by_cases h2 : e2 ≠ 0
 ·have c1 : (e2 != 0) = true := by simp [h2]
  have c2 : (e2 == 0) = false := by simp [h2]
  have HME := Aside0.mk (HM2.out.trans (if_pos h2))
  clear h2
  go_wp2_with fail
  go_ret2
  rw [HME.out]
  exact ⟨rfl, Turned.from HB2.out HX2.out⟩
 have c1 : (e2 != 0) = false := by simpa using h2
 have c2 : (e2 == 0) = true := by simpa using h2
 have HM3 := Aside0.mk (HM2.out.trans (if_neg h2))
 have he0 : e2 = 0 := by omega
 subst he0
 clear h2 HM2
 go_wp2_with fail
 refine (rtape_Write.calls g T2 (N + 1 + 1) HTO2.out (by have := HNN.out; omega) 0 A2 cb2 f w4 _ HX2.out.2 (row_stays (fun k hk => hk.2) HS1.out HR2.out HX2.out.1) (by have := HFL.out; omega)).mono ?_
 rintro e w5 ⟨rfl, ht⟩
 have HX3 := Aside0.mk (HX2.out.then_ ht.1 ht.2)
 have HTO3 := Aside0.mk (TM.write_ok HTO2.out 0 f)
 obtain ⟨T3, eT⟩ : ∃ x, T2.write 0 f = x := ⟨_, rfl⟩
 obtain ⟨e3, ee⟩ : ∃ x, T2.writeE 0 f = x := ⟨_, rfl⟩
 rw [eT] at HX3 HTO3 HM3
 rw [ee] at HM3 ⊢
 clear ht eT ee HX2 c1 c2
 by_cases h3 : e3 ≠ 0
 ·have c1 : (e3 != 0) = true := by simp [h3]
  have c2 : (e3 == 0) = false := by simp [h3]
  have HME := Aside0.mk (HM3.out.trans (if_pos h3))
  clear h3
  go_wp2_with fail
  go_ret2
  rw [HME.out]
  exact ⟨rfl, Turned.from HB2.out HX3.out⟩
 have c1 : (e3 != 0) = false := by simpa using h3
 have c2 : (e3 == 0) = true := by simpa using h3
 have HM4 := Aside0.mk (HM3.out.trans (if_neg h3))
 have he0 : e3 = 0 := by omega
 subst he0
 clear h3 HM3
 go_wp2_with fail
 refine (rtape_Sync.calls g T3 (N + 1 + 1 + f.length) HTO3.out (by have := HNN.out; have := HFL.out; omega) w5 _ HX3.out.2).mono ?_
 rintro e w6 ⟨rfl, ht⟩
 have HX4 := Aside0.mk (HX3.out.then_ ht.1 ht.2)
 obtain ⟨T4, eT⟩ : ∃ x, T3.sync = x := ⟨_, rfl⟩
 obtain ⟨e4, ee⟩ : ∃ x, T3.ready 0 = x := ⟨_, rfl⟩
 rw [eT] at HX4 HM4
 rw [ee] at HM4 ⊢
 clear ht eT ee HX3 c1 c2
 by_cases h4 : e4 ≠ 0
 ·have c1 : (e4 != 0) = true := by simp [h4]
  have c2 : (e4 == 0) = false := by simp [h4]
  have HME := Aside0.mk (HM4.out.trans (if_pos h4))
  clear h4
  go_wp2_with fail
  go_ret2
  rw [HME.out]
  exact ⟨rfl, Turned.from HB2.out HX4.out⟩
 have c1 : (e4 != 0) = false := by simpa using h4
 have c2 : (e4 == 0) = true := by simpa using h4
 have HM5 := Aside0.mk (HM4.out.trans (if_neg h4))
 have he0 : e4 = 0 := by omega
 subst he0
 clear h4 HM4
 go_wp2_with fail
 go_ret2
 rw [HM5.out]
 have hbx : Below w6.heap.size w6 (w6.alloc (.cells #[.pointer (some ⟨g, 0, none⟩), .int .i64 0, .int .i64 1, .slice none 0 0, .int .i64 (f.length : Int), .bool false] 91)) := below_alloc (Below.refl _ _) _
 have hsep := sep_new HX4.out.2 hbx (B := RJour w Fo w6.heap.size g ⟨0, 1, [], (f.length : Int), false⟩) (rjour_mk (A := none) (c := 0) (Nat.le_refl _) ⟨Nat.le_refl _, heap_alloc_new w6 _, fun _ => 0, fun i R hi => by
  match i, hi with
  | 0, hi => cases hi; exact fun W' _ _ => (Kd.R_reads' (Kd.R_nil (Kd.slice 5 (Kd.int .u8)) 30 W' 0 (fun _ => True))).2.2⟩)
 exact ⟨_, rfl, Turned.from HB2.out (HX4.out.then_ hsep.1 hsep.2)⟩
end Go.Proofs.Ytmfmoddaejoekaa.P
end
section
/- Contracts, typed by hand: the document's head of a side. -/
set_option linter.unusedVariables false
set_option linter.unusedSimpArgs false
namespace Go.Proofs.Ytmfmoddaejoekaa.P
open Go.RowKit Go.Proofs.YtmfmoddaejoekaaW.PrintWords Go.Proofs.YtmfmoddaejoekaaW.PrintLast Go.Proofs.YtmfmoddaejoekaaW.PrintMore
theorem end15 (r : List Int) (p e : Int) : liveryref03_Cursor_End.f r p e = some (endAt r p e, p, e) := by
 unfold liveryref03_Cursor_End.f endAt
 split
 ·rename_i h
  subst h
  split <;> simp_all
 ·simp_all
set_option maxHeartbeats 4000000 in
set_option maxRecDepth 100000 in
theorem rside_head.calls (A : Option Addr) (c : Nat) (r : List Int) (L' : List (List Int)) (s en : Int) (W : World) (hC : Kd.C (Kd.slice 5 (Kd.int .u8)) W A (r :: L').length (r :: L')) (hr : okB r = true) (hrl : r.length ≤ 8192) :
  Calls Try.prog 55 #[.agg #[.slice A (r :: L').length c, .int .i64 s, .int .i64 en]] W fun e W' => e = .returned (.tuple #[.int .i64 (headM r).1, .int .i64 (headM r).2.1, .bool ((headM r).2.2 == 0)]) ∧ Below W.heap.size W W' := by
 obtain ⟨ad, A0, c0, eA, hc0, hl0, hCr⟩ := at_L2 hC 0 (by omega) (by simp only [List.length_cons]; omega)
 have er : rd_L2 (r :: L') 0 = r := rfl
 rw [er] at hc0 hl0 hCr
 rw [show ad.add (0 : Int).toNat = ad by simp [Addr.add]] at hc0
 subst eA
 obtain ⟨n, en_⟩ : ∃ n, (r :: L').length = n := ⟨_, rfl⟩
 have n0 : (0 : Int) < (n : Int) := by rw [← en_, List.length_cons]; omega
 have n1 : decide ((0 : Int) < (n : Int)) = true := decide_eq_true n0
 have n2 : 0 < n := by omega
 have HRL := Aside0.mk hrl
 have HL0 := Aside0.mk hl0
 have HCR := Aside0.mk hCr
 rw [en_]
 have hp1 := numAt_place r 0 0 1 1099511627776 hr (by omega) (by omega) (by omega)
 obtain ⟨t1, et1⟩ : ∃ t, numAt r 0 0 1 1099511627776 = t := ⟨_, rfl⟩
 rw [et1] at hp1
 have hp2 := numAt_place r t1.2.1 t1.2.2 0 4000 hr hp1.1 hp1.2 (by omega)
 obtain ⟨t2, et2⟩ : ∃ t, numAt r t1.2.1 t1.2.2 0 4000 = t := ⟨_, rfl⟩
 rw [et2] at hp2
 have HF1 := Aside0.mk (show liveryref03_Cursor_Number.f r 0 0 1 1099511627776 = some (t1.1, t1.2.1, t1.2.2) by unfold liveryref03_Cursor_Number.f; rw [if_pos hr, if_pos (by omega), if_pos (by omega), et1])
 have HF2 := Aside0.mk (show liveryref03_Cursor_Number.f r t1.2.1 t1.2.2 0 4000 = some (t2.1, t2.2.1, t2.2.2) by unfold liveryref03_Cursor_Number.f; rw [if_pos hr, if_pos hp1.1, if_pos hp1.2, et2])
 have HF3 := Aside0.mk (end15 r t2.2.1 t2.2.2)
 have HH := Aside0.mk (show headM r = (t1.1, t2.1, endAt r t2.2.1 t2.2.2) by unfold headM; rw [et1, et2])
 obtain ⟨gn, egn⟩ : ∃ x, t1.1 = x := ⟨_, rfl⟩
 obtain ⟨m, em⟩ : ∃ x, t2.1 = x := ⟨_, rfl⟩
 obtain ⟨q, eq_⟩ : ∃ x, endAt r t2.2.1 t2.2.2 = x := ⟨_, rfl⟩
 rw [egn] at HF1 HH
 rw [em] at HF2 HH
 rw [eq_] at HF3 HH
 clear hC hr hrl hCr er hp1 hp2 et1 et2 egn em eq_ en_
 obtain ⟨W1, e1⟩ : ∃ W1, W1 = W.alloc (.cells #[.slice (some ad) n c, .int .i64 s, .int .i64 en] 94) := ⟨_, rfl⟩
 have HB1 := Aside0.mk (show Below W.heap.size W W1 from by rw [e1]; exact below_alloc (Below.refl _ _) _)
 have hc1 := pw_cell_below HB1.out hc0
 rw [e1] at hc1
 have HX := Aside0.mk (show ∀ d, d = W1.heap.size → CurR (W1.alloc (.cells #[.slice A0 r.length c0, .int .i64 0, .int .i64 0] 104)) d r 0 0 from fun d ed => by rw [ed]; exact CurR.new W1 A0 c0 r 0 0 (Kd.C_below HCR.out HB1.out) HL0.out)
 have HB2 := Aside0.mk (below_alloc HB1.out (.cells #[.slice A0 r.length c0, .int .i64 0, .int .i64 0] 104))
 have HGE := Aside0.mk HB1.out.size
 have HL1 := Aside0.mk (show ∀ o, (W.alloc o).heap.size = W.heap.size + 1 from fun o => heap_size_alloc2 W o)
 clear hc0 HCR HL0
 go_enter Try.func55, Try.ntmps55
 go_wp2_with fail
 rw [← e1]
 refine (CurR_Number (HX.out (W.heap.size + 1) (by rw [e1]; exact (heap_size_alloc2 W _).symm)) _ _ _ _ _ HF1.out).mono ?_
 rintro e w2 ⟨rfl, hp, hk, hb⟩
 have HP2 := Aside0.mk hp
 have HBB2 := Aside0.mk (below_keep HB2.out hb (Nat.le_succ _))
 clear hp hb hk
 go_wp2_with fail
 refine (CurR_Number HP2.out _ _ _ _ _ HF2.out).mono ?_
 rintro e w3 ⟨rfl, hp, hk, hb⟩
 have HP3 := Aside0.mk hp
 have HB3 := Aside0.mk (below_keep HBB2.out hb (Nat.le_succ _))
 clear hp hb hk HP2
 go_wp2_with fail
 refine (CurR_End HP3.out _ _ _ HF3.out).mono ?_
 rintro e w4 ⟨rfl, hp, hk, hb⟩
 have HB4 := Aside0.mk (below_keep HB3.out hb (Nat.le_succ _))
 clear hp hb hk HP3
 obtain ⟨bq, ebq⟩ : ∃ b, (q == 0) = b := ⟨_, rfl⟩
 go_wp2_with fail
 go_ret3
 refine ⟨?_, HB4.out⟩
 rw [HH.out]
 show _ = Ending.returned (.tuple #[.int .i64 gn, .int .i64 m, .bool (q == 0)])
 rw [ebq]
 rfl
end Go.Proofs.Ytmfmoddaejoekaa.P
end
