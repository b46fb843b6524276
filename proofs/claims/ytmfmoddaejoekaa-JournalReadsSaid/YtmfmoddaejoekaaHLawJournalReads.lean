/- A law: whatever both sides have, a tape is opened as the document says, or refused, and left as it says. -/
import Derived.Test.YtmfmoddaejoekaaHRLaw17
import Derived.Test.YtmfmoddaejoekaaRPlay
import Derived.Test.YtmfmoddaejoekaaHLive17
set_option linter.unusedVariables false
set_option linter.unusedSimpArgs false
namespace Go.Proofs.Ytmfmoddaejoekaa.P
open Go.RowKit Go.Proofs.YtmfmoddaejoekaaW.PrintWords Go.Proofs.YtmfmoddaejoekaaW.PrintLast Go.Proofs.YtmfmoddaejoekaaW.PrintMore
set_option maxHeartbeats 16000000 in
set_option maxRecDepth 100000 in
theorem liverylaw17_JournalReads.walk (A0 : Option Addr) (c0 : Nat) (l0 : List Int) (A1 : Option Addr) (c1 : Nat) (l1 : List Int) (w : World) (w0 : l0.length ≤ maxLen ∧ l0.length * 1 ≤ 140737488351232 ∧ ∀ x ∈ l0, (Lit.int .u8 x).wf = true) (hr0 : Kd.C (Kd.int .u8) w A0 l0.length l0) (hc0 : l0.length ≤ c0) (w1 : l1.length ≤ maxLen ∧ l1.length * 1 ≤ 140737488351232 ∧ ∀ x ∈ l1, (Lit.int .u8 x).wf = true) (hr1 : Kd.C (Kd.int .u8) w A1 l1.length l1) (hc1 : l1.length ≤ c1) :
    Calls Try.prog 5 #[.slice A0 l0.length c0, .slice A1 l1.length c1] w fun e w' => e = .returned (.bool true) ∧ Below w.heap.size w w' := by
  have f1 := Kd.C_F (Kd.heap_int .u8) hr0
  have f2 := Kd.C_F (Kd.heap_int .u8) hr1
  obtain ⟨Fo, hF, hst⟩ := law_stQ (w := w) (Q := fun W => Kd.C (Kd.int .u8) W A0 l0.length l0 ∧ Kd.C (Kd.int .u8) W A1 l1.length l1) (fun W' hW => ⟨f1 W' hW, f2 W' hW⟩)
  have HF0 := Aside0.mk (F_take (Foot.imp hF (fun _ h => h.1) : Kd.F (Kd.int .u8) w Fo A0 l0.length l0) 500)
  have HF1 := Aside0.mk (F_take (Foot.imp hF (fun _ h => h.2) : Kd.F (Kd.int .u8) w Fo A1 l1.length l1) 500)
  have HST := Aside0.mk hst
  have HB0 := Aside0.mk (okB_take (wfB w0.2.2) 500)
  have HB1 := Aside0.mk (okB_take (wfB w1.2.2) 500)
  have HC0 := Aside0.mk hc0
  have HC1 := Aside0.mk hc1
  have HL := Aside0.mk (show (l0.take 500).length ≤ 500 ∧ (l1.take 500).length ≤ 500 from ⟨by rw [List.length_take]; omega, by rw [List.length_take]; omega⟩)
  clear f1 f2 hF hst w0 w1 hr0 hr1 hc0 hc1
  go_enter Try.func5, Try.ntmps5
  go_wp2_with fail
  refine (newT_at HST.out).mono ?_
  rintro e v1 ⟨g, rfl, h1⟩
  have HS1 := Aside0.mk h1
  clear h1
  go_wp2_with fail
  refine (rnewT_at HS1.out).mono ?_
  rintro e v2 ⟨gr, rfl, h1⟩
  have HS2 := Aside0.mk (show St w (fun _ => False) v2 [Res.agree w Fo, PTape g TM.new, RTape gr TM.new] from h1)
  clear h1
  go_wp2_with fail
  refine (few17.calls A0 c0 l0 500 _ HC0.out (by decide)).mono ?_
  rintro e v3 ⟨rfl, rfl⟩
  obtain ⟨da, eda⟩ : ∃ d, l0.take 500 = d := ⟨_, rfl⟩
  obtain ⟨db, edb⟩ : ∃ d, l1.take 500 = d := ⟨_, rfl⟩
  rw [eda] at HF0 HB0 HL
  rw [edb] at HF1 HB1 HL
  have HEB := Aside0.mk edb
  have HEA := Aside0.mk eda
  rw [eda]
  clear eda edb
  go_wp2_with fail
  refine (write_at (r := da) HS2.out 1 rfl (by decide) TM.new_ok (by decide) 0 (by have := HL.out.1; omega) (fun W' hW => ?_)).mono ?_
  · obtain ⟨ok, hp⟩ := hW 0 _ (by decide) rfl
    exact HF0.out W' hp.2
  rintro e v4 ⟨rfl, h1⟩
  have HO1 := Aside0.mk (TM.write_ok TM.new_ok 0 da)
  have HY1 := Aside0.mk (TM.By.new.write 0 HB0.out)
  have HT1 := Aside0.mk (show TM.new.write 0 da = _ from rfl)
  obtain ⟨T1, eT1⟩ : ∃ T1, TM.new.write 0 da = T1 := ⟨_, rfl⟩
  rw [eT1] at HO1 HY1
  have HE1 := Aside0.mk eT1
  have HS3 := Aside0.mk (show St w (fun _ => False) v4 [Res.agree w Fo, PTape g T1, RTape gr TM.new] from by rw [← eT1]; exact h1)
  clear h1 eT1 HT1
  go_wp2_with fail
  refine (few17.calls A1 c1 l1 500 _ HC1.out (by decide)).mono ?_
  rintro e v5 ⟨rfl, rfl⟩
  rw [HEB.out]
  go_wp2_with fail
  refine (write_at (r := db) HS3.out 1 rfl (by decide) HO1.out (by have := HL.out; omega) 1 (by have := HL.out.2; omega) (fun W' hW => ?_)).mono ?_
  · obtain ⟨ok, hp⟩ := hW 0 _ (by decide) rfl
    exact HF1.out W' hp.2
  rintro e v6 ⟨rfl, h1⟩
  have HO2 := Aside0.mk (TM.write_ok HO1.out 1 db)
  have HY2 := Aside0.mk (HY1.out.write 1 HB1.out)
  obtain ⟨T2, eT2⟩ : ∃ T2, T1.write 1 db = T2 := ⟨_, rfl⟩
  rw [eT2] at HO2 HY2
  have HE2 := Aside0.mk eT2
  have HS4 := Aside0.mk (show St w (fun _ => False) v6 [Res.agree w Fo, PTape g T2, RTape gr TM.new] from by rw [← eT2]; exact h1)
  clear h1 eT2
  go_wp2_with fail
  refine (sync_at HS4.out 1 rfl (by decide) HO2.out).mono ?_
  rintro e v7 ⟨rfl, h1⟩
  have HO3 := Aside0.mk ((TM.sync_ok HO2.out).mono (show _ ≤ 1000 from by have := HL.out; omega))
  have HY3 := Aside0.mk HY2.out.sync
  obtain ⟨T3, eT3⟩ : ∃ T3, T2.sync = T3 := ⟨_, rfl⟩
  rw [eT3] at HO3 HY3
  have HE3 := Aside0.mk eT3
  have HS5 := Aside0.mk (show St w (fun _ => False) v7 [Res.agree w Fo, PTape g T3, RTape gr TM.new] from by rw [← eT3]; exact h1)
  clear h1 eT3
  go_wp2_with fail
  refine (few17.calls A0 c0 l0 500 _ HC0.out (by decide)).mono ?_
  rintro e v8 ⟨rfl, rfl⟩
  rw [HEA.out]
  go_wp2_with fail
  refine (rwrite_at (r := da) HS5.out 2 rfl (by decide) TM.new_ok (by decide) 0 (by have := HL.out.1; omega) (fun W' hW => ?_)).mono ?_
  · obtain ⟨ok, hp⟩ := hW 0 _ (by decide) rfl
    exact HF0.out W' hp.2
  rintro e v9 ⟨rfl, h1⟩
  have HS6 := Aside0.mk (show St w (fun _ => False) v9 [Res.agree w Fo, PTape g T3, RTape gr T1] from by rw [← HE1.out]; exact h1)
  clear h1
  go_wp2_with fail
  refine (few17.calls A1 c1 l1 500 _ HC1.out (by decide)).mono ?_
  rintro e v10 ⟨rfl, rfl⟩
  rw [HEB.out]
  go_wp2_with fail
  refine (rwrite_at (r := db) HS6.out 2 rfl (by decide) HO1.out (by have := HL.out; omega) 1 (by have := HL.out.2; omega) (fun W' hW => ?_)).mono ?_
  · obtain ⟨ok, hp⟩ := hW 0 _ (by decide) rfl
    exact HF1.out W' hp.2
  rintro e v11 ⟨rfl, h1⟩
  have HS7 := Aside0.mk (show St w (fun _ => False) v11 [Res.agree w Fo, PTape g T3, RTape gr T2] from by rw [← HE2.out]; exact h1)
  clear h1
  go_wp2_with fail
  refine (rsync_at HS7.out 2 rfl (by decide) HO2.out (by have := HL.out; omega)).mono ?_
  rintro e v12 ⟨rfl, h1⟩
  have HS8 := Aside0.mk (show St w (fun _ => False) v12 [Res.agree w Fo, PTape g T3, RTape gr T3] from by have e := HE3.out; subst e; exact h1)
  clear h1 HS1 HS2 HS3 HS4 HS5 HS6 HS7 HE1 HE2 HE3 HO1 HO2 HY1 HY2 HEA HEB HC0 HC1 HL HF0 HF1 HB0 HB1 HST
  go_wp2_with fail
  refine (open_at HS8.out 1 rfl (by decide) HO3.out (by decide) HY3.out).mono ?_
  have HR := Aside0.mk (ropen_at w Fo HS8.out 2 rfl (by decide) HO3.out (by decide) HY3.out)
  have HO4 := Aside0.mk (Ok_open HO3.out)
  have HER := Aside0.mk (open_err T3)
  have HJK := Aside0.mk (fun J => open_jok (J := J) HY3.out HO3.out)
  obtain ⟨e1, T4, oj, em⟩ : ∃ a b c, openM T3 = (a, b, c) := ⟨_, _, _, rfl⟩
  have HEM := Aside0.mk em
  rw [em] at HO4 HER HJK ⊢
  clear em HR
  cases oj with
  | none =>
    have he : e1 ≠ 0 := HER.out.1 rfl
    have b1 : (e1 == 0) = false := by simpa using he
    have b2 : (e1 != 0) = true := by simpa using he
    have b3 : (e1 != e1) = false := by simp
    rintro e v13 ⟨rfl, h1⟩
    have HS9 := Aside0.mk (show St w (fun _ => False) v13 [Res.agree w Fo, PTape g T4, RTape gr T3] from h1)
    clear h1 he
    go_wp2_with fail
    refine (ropen_at w Fo HS9.out 2 rfl (by decide) HO3.out (by decide) HY3.out).mono ?_
    rw [HEM.out]
    rintro e v14 ⟨rfl, h1⟩
    have HS10 := Aside0.mk (show St w (fun _ => False) v14 [Res.agree w Fo, PTape g T4, RTape gr T4] from h1)
    clear h1
    go_wp2_with fail
    refine (tapes_at HS10.out (HS10.out.get 1 rfl) (HS10.out.get 2 rfl) HO4.out (by decide)).mono ?_
    rintro e v15 ⟨rfl, h1⟩
    have HS11 := Aside0.mk h1
    clear h1
    go_wp2_with fail
    refine (lives_at HS11.out).mono ?_
    rintro e v16 ⟨rfl, h1⟩
    have HS12 := Aside0.mk h1
    clear h1
    go_wp2_with fail
    go_ret
    exact ⟨rfl, HS12.out.below⟩
  | some J =>
    have he : e1 = 0 := HER.out.2 J rfl
    subst he
    have HJ := Aside0.mk (HJK.out J rfl)
    rintro e v13 ⟨gj, rfl, h1⟩
    have HS9 := Aside0.mk (show St w (fun _ => False) v13 [Res.agree w Fo, PTJ g gj T4 J, RTape gr T3] from h1)
    clear h1
    go_wp2_with fail
    refine (ropen_at w Fo HS9.out 2 rfl (by decide) HO3.out (by decide) HY3.out).mono ?_
    rw [HEM.out]
    rintro e v14 ⟨gx, rfl, h1⟩
    have HS10 := Aside0.mk (show St w (fun _ => False) v14 [Res.agree w Fo, PTJ g gj T4 J, RTJ w Fo gr gx T4 J] from h1)
    clear h1
    go_wp2_with fail
    refine (tapes_at HS10.out ((HS10.out.get 1 rfl).elim fun ok hp => ⟨_, sep_drop hp⟩) ((HS10.out.get 2 rfl).elim fun ok hp => ⟨_, sep_drop hp⟩) HO4.out (by decide)).mono ?_
    rintro e v15 ⟨rfl, h1⟩
    have HS11 := Aside0.mk h1
    clear h1
    go_wp2_with fail
    refine (like_at HS11.out (agree_of HS11.out) (HS11.out.get 1 rfl) (HS11.out.get 2 rfl) (by have := HJ.out.L; omega) (fun r hr => by have := HJ.out.rcs r hr; omega)).mono ?_
    rintro e v16 ⟨rfl, h1⟩
    have HS12 := Aside0.mk h1
    clear h1
    go_wp2_with fail
    refine (lives_at HS12.out).mono ?_
    rintro e v17 ⟨rfl, h1⟩
    have HS13 := Aside0.mk h1
    clear h1
    go_wp2_with fail
    go_ret
    exact ⟨rfl, HS13.out.below⟩
end Go.Proofs.Ytmfmoddaejoekaa.P
