/- A law: whatever is asked of a journal, it answers, has, and writes, just what the document says. -/
import Derived.Test.YtmfmoddaejoekaaHCut17
import Derived.Test.YtmfmoddaejoekaaHLive17
import Derived.Deep.DeepCutAuto
import Derived.Deep.LoopGhost
import Derived.Deep.CutBlock
set_option linter.unusedVariables false
set_option linter.unusedSimpArgs false
namespace Go.Proofs.Ytmfmoddaejoekaa.P
open Go.RowKit Go.Proofs.YtmfmoddaejoekaaW.PrintWords Go.Proofs.YtmfmoddaejoekaaW.PrintLast Go.Proofs.YtmfmoddaejoekaaW.PrintMore
/-- Where two journals stand behind i calls. -/
structure PlayS (i : Nat) (T : TM) (J : JM) : Prop where
 ok : T.Ok (1000 + 70000 * i)
 by_ : T.By
 j : JOk i J
theorem PlayS.append {i : Nat} {T : TM} {J : JM} {r : List Int} (h : PlayS i T J) (hr : r.length ≤ 100) (hb : okB r = true) : PlayS (i + 1) (appendM T J r).2.1 (appendM T J r).2.2 := ⟨(Ok_append h.ok J (by omega)).mono (by omega), By_append h.by_ J hb, append_jok h.j hr⟩
theorem PlayS.renew {i : Nat} {T : TM} {J : JM} {l : List (List Int)} (h : PlayS i T J) (hl : l.length ≤ 1000) (hr : ∀ r ∈ l, r.length ≤ 100) (hb : ∀ r ∈ l, okB r = true) : PlayS (i + 1) (renewM T J l).2.1 (renewM T J l).2.2 := ⟨(Ok_renew h.ok J l).mono (by omega), By_renew h.by_ J hb (by have := h.j.g; omega) (by omega), renew_jok h.j hl hr⟩
theorem PlayS.fuse {i : Nat} {T : TM} {J : JM} (h : PlayS i T J) (n : Int) : PlayS (i + 1) (T.fuse n) J := ⟨(TM.fuse_ok h.ok n).mono (by omega), h.by_.fuse n, h.j.more (Nat.le_succ i)⟩
abbrev yblk (g : Nat) (k n : Int) (A2 : Option Addr) (n2 c2 : Nat) (A3 : Option Addr) (n3 c3 : Nat) : Res := Res.blk g (.cells #[.int .i64 k, .int .i64 n, .slice A2 n2 c2, .slice A3 n3 c3] 33 (0, 0))
theorem blk_write {w0 W : World} {S : Nat → Prop} {Rs : List Res} {g : Nat} {cs : Array Value} {t : TypeId} (h : St w0 S W Rs) (i : Nat) (hi : Rs[i]? = some (Res.blk g (.cells cs t (0, 0)))) (h0 : i ≠ 0) (j : Nat) (u : Value) : St w0 S (W.setCell ⟨g, j, none⟩ u) (Rs.set i (Res.blk g (.cells (cs.setIfInBounds j u) t (0, 0)))) := by
 obtain ⟨ok, h1, hback⟩ := h.write i hi h0
 exact hback ((Keeps.of_set W ⟨g, j, none⟩ u).mono (fun k _ hk => by rw [hk]; exact h1.1)) ⟨.inl h1.1, blk_set h1.2 j u⟩
set_option maxHeartbeats 32000000 in
set_option maxRecDepth 100000 in
theorem liverylaw17_JournalPlays.walk (A0 : Option Addr) (c0 : Nat) (l0 : List S33) (w : World) (w0 : l0.length ≤ maxLen ∧ l0.length * 64 ≤ 140737488351232 ∧ ∀ x ∈ l0, q33 x) (hr0 : Kd.C k33 w A0 l0.length l0) (hc0 : l0.length ≤ c0) :
  Calls Try.prog 7 #[.slice A0 l0.length c0] w fun e w' => e = .returned (.bool true) ∧ Below w.heap.size w w' := by
 obtain ⟨Fo, hF, hst⟩ := law_st hr0
 have HF := Aside0.mk hF
 have HST := Aside0.mk hst
 have hml := w0.2.1
 have HQ := Aside0.mk w0.2.2
 have hu1 := Try.underlying33
 obtain ⟨N, hN1, hN2, hN3⟩ : ∃ N, N ≤ l0.length ∧ N ≤ 30 ∧ (N = l0.length ∨ (N = 30 ∧ N < l0.length)) := by
  by_cases h : l0.length ≤ 30
  ·exact ⟨l0.length, by omega, h, .inl rfl⟩
  ·exact ⟨30, by omega, by omega, .inr ⟨rfl, by omega⟩⟩
 obtain ⟨T1, J1, ho1, hc1'⟩ := kept_new
 have HO1 := Aside0.mk ho1
 have HJ1 := Aside0.mk (show PlayS 0 T1 J1 from ⟨by have := Ok_open TM.new_ok; rw [ho1] at this; exact this.mono (by omega), by have := By_open TM.By.new; rw [ho1] at this; exact this, open_jok TM.By.new TM.new_ok (by rw [ho1])⟩)
 clear hF hst w0 hr0 ho1 hc1'
 go_enter Try.func7, Try.ntmps7
 go_wp2_with fail
 refine (newT_at HST.out).mono ?_
 rintro e v1 ⟨g, rfl, h1⟩
 have HS1 := Aside0.mk (show St w (fun _ => False) v1 [Res.agree w Fo, PTape g TM.new] from h1)
 clear h1
 go_wp2_with fail
 refine (rnewT_at HS1.out).mono ?_
 rintro e v2 ⟨gr, rfl, h1⟩
 have HS2 := Aside0.mk (show St w (fun _ => False) v2 [Res.agree w Fo, PTape g TM.new, RTape gr TM.new] from h1)
 clear h1 HS1
 go_wp2_with fail
 refine (open_at HS2.out 1 rfl (by decide) TM.new_ok (by decide) TM.By.new).mono ?_
 rw [HO1.out]
 rintro e v3 ⟨gj1, rfl, h2⟩
 have HS3 := Aside0.mk (show St w (fun _ => False) v3 [Res.agree w Fo, PTJ g gj1 T1 J1, RTape gr TM.new] from h2)
 clear h2 HS2
 go_wp2_with fail
 refine (ropen_at w Fo HS3.out 2 rfl (by decide) TM.new_ok (by decide) TM.By.new).mono ?_
 rw [HO1.out]
 rintro e v4 ⟨gx1, rfl, h2⟩
 have HS4 := Aside0.mk (show St w (fun _ => False) v4 [Res.agree w Fo, PTJ g gj1 T1 J1, RTJ w Fo gr gx1 T1 J1] from h2)
 clear h2 HS3
 go_wp2_with fail
 go_loopg [5, 7, 9] 31 (fun kq s5 s7 s9 wr => ∃ (i : Nat) (T : TM) (J : JM) (gj gx : Nat), s5 = .pointer (some ⟨gj, 0, none⟩) ∧ s7 = .pointer (some ⟨gx, 0, none⟩) ∧ s9 = .int .i64 (i : Int) ∧ i ≤ N ∧ kq + i = 31 ∧ Aside0 (PlayS i T J) ∧ Aside0 (St w (fun _ => False) wr [Res.agree w Fo, PTJ g gj T J, RTJ w Fo gr gx T J]))
 case atStart => exact ⟨0, T1, J1, gj1, gx1, rfl, rfl, rfl, by omega, by omega, HJ1, HS4⟩
 case round =>
  obtain ⟨i, T, J, gj, gx, rfl, rfl, rfl, hi, hki, HC, HSR⟩ := hrel
  obtain ⟨kg, ekg⟩ : ∃ kg, kg = gk - 1 := ⟨_, rfl⟩
  have hkg : kg < gk ∧ (i < N → kg + (i + 1) = 31) := by omega
  clear ekg hki
  clear HST HS4 HO1 HJ1
  by_cases hiN : i < N
  ·have hlt : i < l0.length := by omega
   have b1 : decide ((i : Int) < (l0.length : Int)) = true := decide_eq_true (by omega)
   have b2 : decide ((i : Int) < 30) = true := decide_eq_true (by omega)
   obtain ⟨ad, A2, c2, A3, c3, x, eA, hx, hx0, hx1, hx2, hx3, l2, l3, g2, g3⟩ := deed_at HF.out i hlt
   subst eA
   have hqx : q33 x := by rw [hx, List.getD_eq_getElem?_getD, List.getElem?_eq_getElem hlt]; exact HQ.out _ (List.getElem_mem hlt)
   obtain ⟨k, nn, kn, mo, e0, e1, e2, e3⟩ : ∃ k nn kn mo, x.f0 = k ∧ x.f1 = nn ∧ x.f2 = kn ∧ x.f3 = mo := ⟨_, _, _, _, rfl, rfl, rfl, rfl⟩
   have HKR := Aside0.mk (show (-9223372036854775808 ≤ k ∧ k ≤ 9223372036854775807) ∧ (-9223372036854775808 ≤ nn ∧ nn ≤ 9223372036854775807) from by rw [← e0, ← e1]; exact ⟨wf64 hqx.1, wf64 hqx.2.1⟩)
   have HKB := Aside0.mk (show okB kn = true from wfB (by rw [← e2]; exact hqx.2.2.1.2.2))
   have HMB := Aside0.mk (show ∀ y ∈ mo, okB y = true from by rw [← e3]; exact fun y hy => wfB (hqx.2.2.2.2.2 y hy).2.2)
   rw [e0] at hx0
   rw [e1] at hx1
   rw [e2] at hx2 l2 g2
   rw [e3] at hx3 l3 g3
   have HL := Aside0.mk (And.intro l2 l3)
   have HK := Aside0.mk g2
   have HM := Aside0.mk g3
   have hx0 := pw_cell_below HSR.out.below hx0
   have hx1 := pw_cell_below HSR.out.below hx1
   have hx2 := pw_cell_below HSR.out.below hx2
   have hx3 := pw_cell_below HSR.out.below hx3
   clear hx hqx e0 e1 e2 e3 l2 l3 g2 g3
   go_upto_region 13 with fail
   (try simp only [Act.put, List.setIfInBounds_toArray, List.set_cons_zero, List.set_cons_succ])
   obtain ⟨w3, e3⟩ : ∃ w3 : World, w3 = wr.alloc (.cells #[.int .i64 k, .int .i64 nn, .slice A2 kn.length c2, .slice A3 mo.length c3] 33) := ⟨_, rfl⟩
   have HS3 := Aside0.mk (show St w (fun _ => False) w3 [Res.agree w Fo, PTJ g gj T J, RTJ w Fo gr gx T J, yblk wr.heap.size k nn A2 kn.length c2 A3 mo.length c3] from HSR.out.add (by rw [e3]; exact below_alloc (Below.refl _ _) _) ⟨Nat.le_refl _, by rw [e3]; exact heap_alloc_new wr _⟩)
   rw [← e3]
   clear e3 hx0 hx1 hx2 hx3
   obtain ⟨gy, egy⟩ : ∃ gy, wr.heap.size = gy := ⟨_, rfl⟩
   rw [egy] at HS3 ⊢
   clear egy HSR
   obtain ⟨oky, hpy⟩ := HS3.out.get 3 rfl
   obtain ⟨y0, y1, y2, y3, f0, f1, f2, f3⟩ := blk_all4 hpy.2
   clear hpy
   have HFC := Aside0.mk HL.out.1
   have HYL := Aside0.mk (show (kn.take 60).length ≤ 60 from by rw [List.length_take]; omega)
   have HYB := Aside0.mk (okB_take HKB.out 60)
   have HYF := Aside0.mk (F_take HK.out 60)
   have HYC := Aside0.mk (show (kn.take 60).length ≤ c2 from by have := HL.out.1; rw [List.length_take]; omega)
   go_wp2_with fail
   refine (few17.calls A2 c2 kn 60 _ HFC.out (by decide)).mono ?_
   rintro e w3' ⟨rfl, rfl⟩
   obtain ⟨y, ey⟩ : ∃ y, kn.take 60 = y := ⟨_, rfl⟩
   rw [ey] at HYL HYB HYF HYC ⊢
   clear ey HFC HKB HK
   go_upto_region 14 with fail
   (try simp only [Act.put, List.setIfInBounds_toArray, List.set_cons_zero, List.set_cons_succ])
   have HS4 := Aside0.mk (show St w (fun _ => False) (w3'.setCell ⟨gy, 2, none⟩ (.slice A2 y.length c2)) [Res.agree w Fo, PTJ g gj T J, RTJ w Fo gr gx T J, yblk gy k nn A2 y.length c2 A3 mo.length c3] from blk_write HS3.out 3 rfl (by decide) 2 _)
   obtain ⟨w4, e4⟩ : ∃ w4 : World, w4 = w3'.setCell ⟨gy, 2, none⟩ (.slice A2 y.length c2) := ⟨_, rfl⟩
   rw [← e4] at HS4 ⊢
   clear e4 HS3 y0 y1 y2 y3 f0 f1 f2 f3
   obtain ⟨oky, hpy⟩ := HS4.out.get 3 rfl
   obtain ⟨y0, y1, y2, y3, f0, f1, f2, f3⟩ := blk_all4 hpy.2
   clear hpy
   go_wp2_with fail
   refine (cut_at HS4.out (agree_of HS4.out) HL.out.2 HM.out).mono ?_
   rintro e w5 ⟨A5, c5, rfl, hc5, _, h5⟩
   have HCS := Aside0.mk (cutM_small mo)
   have HCB := Aside0.mk (cutM_okB HMB.out)
   obtain ⟨l, el⟩ : ∃ l, cutM mo = l := ⟨_, rfl⟩
   rw [el] at hc5 h5 HCS HCB ⊢
   have HC5 := Aside0.mk hc5
   have HS5 := Aside0.mk (show St w (fun _ => False) w5 [Res.agree w Fo, PTJ g gj T J, RTJ w Fo gr gx T J, yblk gy k nn A2 y.length c2 A3 mo.length c3, Res.seen w Fo (RowsQ A5 l)] from h5)
   clear el h5 HS4 HM HMB HL hc5 y0 y1 y2 y3 f0 f1 f2 f3
   obtain ⟨oky, hpy⟩ := HS5.out.get 3 rfl
   obtain ⟨y0, y1, y2, y3, f0, f1, f2, f3⟩ := blk_all4 hpy.2
   clear hpy
   go_upto_region 15 with fail
   (try simp only [Act.put, List.setIfInBounds_toArray, List.set_cons_zero, List.set_cons_succ])
   have HS6 := Aside0.mk (show St w (fun _ => False) (w5.setCell ⟨gy, 3, none⟩ (.slice A5 l.length c5)) [Res.agree w Fo, PTJ g gj T J, RTJ w Fo gr gx T J, yblk gy k nn A2 y.length c2 A5 l.length c5, Res.seen w Fo (RowsQ A5 l)] from blk_write HS5.out 3 rfl (by decide) 3 _)
   obtain ⟨w6, e6⟩ : ∃ w6 : World, w6 = w5.setCell ⟨gy, 3, none⟩ (.slice A5 l.length c5) := ⟨_, rfl⟩
   rw [← e6] at HS6 ⊢
   clear e6 HS5 y0 y1 y2 y3 f0 f1 f2 f3
   obtain ⟨oky, hpy⟩ := HS6.out.get 3 rfl
   obtain ⟨y0, y1, y2, y3, _⟩ := blk_all4 hpy.2
   clear hpy
   go_wp2_with fail
   refine (pick_at HS6.out k 5 (by decide)).mono ?_
   rintro e w7 ⟨rfl, h7⟩
   have HV := Aside0.mk (pk_range k 5 HKR.out.1 (by decide))
   obtain ⟨v, ev⟩ : ∃ v, pk k 5 = v := ⟨_, rfl⟩
   rw [ev] at HV ⊢
   have HEV := Aside0.mk ev
   have HS7 := Aside0.mk h7
   clear h7 ev HS6 y0 y1 y2 y3
   go_upto_block 2 with fail
   (try simp only [Act.put, List.setIfInBounds_toArray, List.set_cons_zero, List.set_cons_succ])
   go_cut [5, 6, 7, 8] (fun s5 s6 s7 s8 wc => ∃ (e : Int) (T' : TM) (J' : JM) (gj' gx' : Nat), s5 = .pointer (some ⟨gj', 0, none⟩) ∧ s6 = .int .i64 e ∧ s7 = .pointer (some ⟨gx', 0, none⟩) ∧ s8 = .int .i64 e ∧ Aside0 (PlayS (i + 1) T' J') ∧ Aside0 (St w (fun _ => False) wc [Res.agree w Fo, PTJ g gj' T' J', RTJ w Fo gr gx' T' J']))
   case first =>
    obtain ⟨oky, hpy⟩ := HS7.out.get 3 rfl
    have HYB7 := Aside0.mk hpy.2
    obtain ⟨y0, y1, y2, y3, _⟩ := blk_all4 HYB7.out
    clear hpy
    have hv : v = 0 ∨ v = 1 ∨ v = 2 ∨ v = 3 ∨ v = 4 := by have := HV.out; omega
    rcases hv with rfl | rfl | rfl | rfl | rfl
    ·as_aux_lemma =>
     go_wp2_with fail
     refine (append_at (r := y) HS7.out 1 rfl (by decide) HC.out.ok (by omega) HYC.out (by have := HC.out.j.L; omega) (by have := HC.out.j.size; omega) (fun W' hW => ?_)).mono ?_
     ·obtain ⟨ok2, hp2⟩ := hW 0 _ (by decide) rfl
      exact HYF.out W' hp2.2
     rintro e8 w8 ⟨rfl, h8⟩
     have HS8 := Aside0.mk (show St w (fun _ => False) w8 [Res.agree w Fo, PTJ g gj (appendM T J y).2.1 (appendM T J y).2.2, RTJ w Fo gr gx T J, yblk gy k nn A2 y.length c2 A5 l.length c5, Res.seen w Fo (RowsQ A5 l)] from h8)
     clear h8 HS7 y0 y1 y2 y3
     obtain ⟨oky, hpy⟩ := HS8.out.get 3 rfl
     obtain ⟨y0, y1, y2, y3, _⟩ := blk_all4 hpy.2
     clear hpy
     go_wp2_with fail
     refine (rappend_at (r := y) HS8.out 2 rfl (by decide) rfl HC.out.ok (by omega) HC.out.j.sd HYF.out HYC.out HYB.out (by have := HYL.out; omega) (by have := HC.out.j.L; omega) (by have := HC.out.j.size; omega)).mono ?_
     rintro e9 w9 ⟨rfl, h9⟩
     have HS9 := Aside0.mk (show St w (fun _ => False) w9 [Res.agree w Fo, PTJ g gj (appendM T J y).2.1 (appendM T J y).2.2, RTJ w Fo gr gx (appendM T J y).2.1 (appendM T J y).2.2] from drops_at (Xs := [_, _]) h9)
     have HP9 := Aside0.mk (HC.out.append (r := y) (by have := HYL.out; omega) HYB.out)
     clear h9 HS8
     go_wp2_with fail
     go_meet
     case rel => exact ⟨_, _, _, _, _, rfl, rfl, rfl, rfl, HP9, HS9⟩
    ·as_aux_lemma =>
     go_wp2_with fail
     refine (renew_at (l := l) HS7.out 1 rfl (by decide) HC.out.ok (by omega) HC.out.j.sd HC.out.j.g.1 (by have := HCS.out.1; omega) (fun W' hW => ?_)).mono ?_
     ·obtain ⟨ok2, hp2⟩ := hW 0 _ (by decide) rfl
      obtain ⟨ok4, hp4⟩ := hW 4 _ (by decide) rfl
      exact hp4 W' hp2.2 (fun k _ _ => rfl)
     rintro e8 w8 ⟨rfl, h8⟩
     have HS8 := Aside0.mk (show St w (fun _ => False) w8 [Res.agree w Fo, PTJ g gj (renewM T J l).2.1 (renewM T J l).2.2, RTJ w Fo gr gx T J, yblk gy k nn A2 y.length c2 A5 l.length c5, Res.seen w Fo (RowsQ A5 l)] from h8)
     clear h8 HS7 y0 y1 y2 y3
     obtain ⟨oky, hpy⟩ := HS8.out.get 3 rfl
     obtain ⟨y0, y1, y2, y3, _⟩ := blk_all4 hpy.2
     clear hpy
     go_wp2_with fail
     refine (rrenew_at (l := l) HS8.out 2 4 rfl rfl (by decide) (by decide) (by decide) rfl HC.out.ok (by omega) HC.out.j.sd HC.out.j.g HC5.out (fun r hr => ⟨HCB.out r hr, by have := HCS.out.2 r hr; omega⟩) (by have := HCS.out.1; omega)).mono ?_
     rintro e9 w9 ⟨rfl, h9⟩
     have HS9 := Aside0.mk (show St w (fun _ => False) w9 [Res.agree w Fo, PTJ g gj (renewM T J l).2.1 (renewM T J l).2.2, RTJ w Fo gr gx (renewM T J l).2.1 (renewM T J l).2.2] from drops_at (Xs := [_, _]) h9)
     have HP9 := Aside0.mk (HC.out.renew (l := l) (by have := HCS.out.1; omega) (fun r hr => by have := HCS.out.2 r hr; omega) HCB.out)
     clear h9 HS8
     go_wp2_with fail
     go_meet
     case rel => exact ⟨_, _, _, _, _, rfl, rfl, rfl, rfl, HP9, HS9⟩
    ·as_aux_lemma =>
     go_wp2_with fail
     refine (fuseJ_at HS7.out 1 rfl (by decide) nn).mono ?_
     rintro e8 w8 ⟨rfl, h8⟩
     have HS8 := Aside0.mk (show St w (fun _ => False) w8 [Res.agree w Fo, PTJ g gj (T.fuse nn) J, RTJ w Fo gr gx T J, yblk gy k nn A2 y.length c2 A5 l.length c5, Res.seen w Fo (RowsQ A5 l)] from h8)
     clear h8 HS7 y0 y1 y2 y3
     obtain ⟨oky, hpy⟩ := HS8.out.get 3 rfl
     obtain ⟨y0, y1, y2, y3, _⟩ := blk_all4 hpy.2
     clear hpy
     go_wp2_with fail
     refine (rfuseJ_at HS8.out 2 rfl (by decide) nn).mono ?_
     rintro e9 w9 ⟨rfl, h9⟩
     have HS9 := Aside0.mk (show St w (fun _ => False) w9 [Res.agree w Fo, PTJ g gj (T.fuse nn) J, RTJ w Fo gr gx (T.fuse nn) J] from drops_at (Xs := [_, _]) h9)
     have HP9 := Aside0.mk (HC.out.fuse nn)
     clear h9 HS8
     go_wp2_with fail
     go_meet
     case rel => exact ⟨_, _, _, _, _, rfl, rfl, rfl, rfl, HP9, HS9⟩
    ·as_aux_lemma =>
     go_wp2_with fail
     refine (pick_at HS7.out k 5 (by decide)).mono ?_
     rw [HEV.out]
     rintro e8 w8 ⟨rfl, h8⟩
     have HS8 := Aside0.mk (show St w (fun _ => False) w8 [Res.agree w Fo, PTape g T, RTape gr T, yblk gy k nn A2 y.length c2 A5 l.length c5, Res.seen w Fo (RowsQ A5 l)] from rforget_at (forget_at h8 1 rfl) 2 rfl)
     clear h8 HS7 y0 y1 y2 y3
     obtain ⟨oky, hpy⟩ := HS8.out.get 3 rfl
     obtain ⟨y0, y1, y2, y3, _⟩ := blk_all4 hpy.2
     clear hpy
     go_wp2_with fail
     refine (crash_at HS8.out 1 rfl (by decide) HC.out.ok (by omega) nn HKR.out.2.1 HKR.out.2.2).mono ?_
     rintro e9 w9 ⟨rfl, h9⟩
     have HS9 := Aside0.mk (show St w (fun _ => False) w9 [Res.agree w Fo, PTape g (T.crash nn), RTape gr T, yblk gy k nn A2 y.length c2 A5 l.length c5, Res.seen w Fo (RowsQ A5 l)] from h9)
     clear h9 HS8 y0 y1 y2 y3
     obtain ⟨oky, hpy⟩ := HS9.out.get 3 rfl
     obtain ⟨y0, y1, y2, y3, _⟩ := blk_all4 hpy.2
     clear hpy
     go_wp2_with fail
     refine (rcrash_at HS9.out 2 rfl (by decide) HC.out.ok (by omega) nn HKR.out.2.1 HKR.out.2.2).mono ?_
     rintro e10 w10 ⟨rfl, h10⟩
     have HOK := Aside0.mk (show (T.crash nn).Ok (1000 + 70000 * i) ∧ (T.crash nn).By from ⟨(TM.crash_ok HC.out.ok nn).mono (by omega), HC.out.by_.crash nn⟩)
     obtain ⟨T0, eT0⟩ : ∃ T0, T.crash nn = T0 := ⟨_, rfl⟩
     have HSX := Aside0.mk (show St w (fun _ => False) w10 [Res.agree w Fo, PTape g T0, RTape gr T0] from by rw [← eT0]; exact drops_at (Xs := [_, _]) h10)
     rw [eT0] at HOK
     clear h10 HS9 y0 y1 y2 y3 eT0
     have HO4 := Aside0.mk (Ok_open HOK.out.1)
     have HY4 := Aside0.mk (By_open HOK.out.2)
     have HER := Aside0.mk (open_err T0)
     have HJK := Aside0.mk (fun J => open_jok (J := J) HOK.out.2 HOK.out.1)
     obtain ⟨e1, T4, oj, em⟩ : ∃ a b c, openM T0 = (a, b, c) := ⟨_, _, _, rfl⟩
     have HEM := Aside0.mk em
     rw [em] at HO4 HY4 HER HJK
     clear em
     go_wp2_with fail
     refine (open_at HSX.out 1 rfl (by decide) HOK.out.1 (by omega) HOK.out.2).mono ?_
     rw [HEM.out]
     cases oj with
     | none =>
      have he : e1 ≠ 0 := HER.out.1 rfl
      have b3 : (e1 == 0) = false := by simpa using he
      have b4 : (e1 != 0) = true := by simpa using he
      have b5 : (e1 != e1) = false := by simp
      rintro e11 w11 ⟨rfl, h11⟩
      have HSY := Aside0.mk (show St w (fun _ => False) w11 [Res.agree w Fo, PTape g T4, RTape gr T0] from h11)
      clear h11 he HSX
      go_wp2_with fail
      refine (ropen_at w Fo HSY.out 2 rfl (by decide) HOK.out.1 (by omega) HOK.out.2).mono ?_
      rw [HEM.out]
      rintro e12 w12 ⟨rfl, h12⟩
      have HSZ := Aside0.mk (show St w (fun _ => False) w12 [Res.agree w Fo, PTape g T4, RTape gr T4] from h12)
      clear h12 HSY
      go_wp2_with fail
      refine (tapes_at HSZ.out (HSZ.out.get 1 rfl) (HSZ.out.get 2 rfl) HO4.out (by omega)).mono ?_
      rintro e13 w13 ⟨rfl, h13⟩
      have HSQ := Aside0.mk h13
      clear h13 HSZ
      go_wp2_with fail
      refine (lives_at HSQ.out).mono ?_
      rintro e14 w14 ⟨rfl, h14⟩
      have HSP := Aside0.mk h14
      clear h14 HSQ
      go_wp2_with fail
      go_ret
      exact ⟨rfl, HSP.out.below⟩
     | some J4 =>
      have he : e1 = 0 := HER.out.2 J4 rfl
      subst he
      have HJ4 := Aside0.mk (HJK.out J4 rfl)
      rintro e11 w11 ⟨gj4, rfl, h11⟩
      have HSY := Aside0.mk (show St w (fun _ => False) w11 [Res.agree w Fo, PTJ g gj4 T4 J4, RTape gr T0] from h11)
      clear h11 HSX
      go_wp2_with fail
      refine (ropen_at w Fo HSY.out 2 rfl (by decide) HOK.out.1 (by omega) HOK.out.2).mono ?_
      rw [HEM.out]
      rintro e12 w12 ⟨gx4, rfl, h12⟩
      have HSZ := Aside0.mk (show St w (fun _ => False) w12 [Res.agree w Fo, PTJ g gj4 T4 J4, RTJ w Fo gr gx4 T4 J4] from h12)
      have HP9 := Aside0.mk (show PlayS (i + 1) T4 J4 from ⟨HO4.out.mono (by omega), HY4.out, HJ4.out.more (Nat.zero_le _)⟩)
      clear h12 HSY
      go_wp2_with fail
      go_meet
      case rel => exact ⟨_, _, _, _, _, rfl, rfl, rfl, rfl, HP9, HSZ⟩
    ·as_aux_lemma =>
     go_wp2_with fail
     refine (pick_at HS7.out k 5 (by decide)).mono ?_
     rw [HEV.out]
     rintro e8 w8 ⟨rfl, h8⟩
     have HSX := Aside0.mk (show St w (fun _ => False) w8 [Res.agree w Fo, PTape g T, RTape gr T] from drops_at (Xs := [_, _]) (rforget_at (forget_at h8 1 rfl) 2 rfl))
     clear h8 HS7 y0 y1 y2 y3
     obtain ⟨T0, eT0⟩ : ∃ T0, T0 = T := ⟨_, rfl⟩
     have HOK := Aside0.mk (show T0.Ok (1000 + 70000 * i) ∧ T0.By from by rw [eT0]; exact ⟨HC.out.ok, HC.out.by_⟩)
     rw [← eT0] at HSX
     clear eT0
     have HO4 := Aside0.mk (Ok_open HOK.out.1)
     have HY4 := Aside0.mk (By_open HOK.out.2)
     have HER := Aside0.mk (open_err T0)
     have HJK := Aside0.mk (fun J => open_jok (J := J) HOK.out.2 HOK.out.1)
     obtain ⟨e1, T4, oj, em⟩ : ∃ a b c, openM T0 = (a, b, c) := ⟨_, _, _, rfl⟩
     have HEM := Aside0.mk em
     rw [em] at HO4 HY4 HER HJK
     clear em
     go_wp2_with fail
     refine (open_at HSX.out 1 rfl (by decide) HOK.out.1 (by omega) HOK.out.2).mono ?_
     rw [HEM.out]
     cases oj with
     | none =>
      have he : e1 ≠ 0 := HER.out.1 rfl
      have b3 : (e1 == 0) = false := by simpa using he
      have b4 : (e1 != 0) = true := by simpa using he
      have b5 : (e1 != e1) = false := by simp
      rintro e11 w11 ⟨rfl, h11⟩
      have HSY := Aside0.mk (show St w (fun _ => False) w11 [Res.agree w Fo, PTape g T4, RTape gr T0] from h11)
      clear h11 he HSX
      go_wp2_with fail
      refine (ropen_at w Fo HSY.out 2 rfl (by decide) HOK.out.1 (by omega) HOK.out.2).mono ?_
      rw [HEM.out]
      rintro e12 w12 ⟨rfl, h12⟩
      have HSZ := Aside0.mk (show St w (fun _ => False) w12 [Res.agree w Fo, PTape g T4, RTape gr T4] from h12)
      clear h12 HSY
      go_wp2_with fail
      refine (tapes_at HSZ.out (HSZ.out.get 1 rfl) (HSZ.out.get 2 rfl) HO4.out (by omega)).mono ?_
      rintro e13 w13 ⟨rfl, h13⟩
      have HSQ := Aside0.mk h13
      clear h13 HSZ
      go_wp2_with fail
      refine (lives_at HSQ.out).mono ?_
      rintro e14 w14 ⟨rfl, h14⟩
      have HSP := Aside0.mk h14
      clear h14 HSQ
      go_wp2_with fail
      go_ret
      exact ⟨rfl, HSP.out.below⟩
     | some J4 =>
      have he : e1 = 0 := HER.out.2 J4 rfl
      subst he
      have HJ4 := Aside0.mk (HJK.out J4 rfl)
      rintro e11 w11 ⟨gj4, rfl, h11⟩
      have HSY := Aside0.mk (show St w (fun _ => False) w11 [Res.agree w Fo, PTJ g gj4 T4 J4, RTape gr T0] from h11)
      clear h11 HSX
      go_wp2_with fail
      refine (ropen_at w Fo HSY.out 2 rfl (by decide) HOK.out.1 (by omega) HOK.out.2).mono ?_
      rw [HEM.out]
      rintro e12 w12 ⟨gx4, rfl, h12⟩
      have HSZ := Aside0.mk (show St w (fun _ => False) w12 [Res.agree w Fo, PTJ g gj4 T4 J4, RTJ w Fo gr gx4 T4 J4] from h12)
      have HP9 := Aside0.mk (show PlayS (i + 1) T4 J4 from ⟨HO4.out.mono (by omega), HY4.out, HJ4.out.more (Nat.zero_le _)⟩)
      clear h12 HSY
      go_wp2_with fail
      go_meet
      case rel => exact ⟨_, _, _, _, _, rfl, rfl, rfl, rfl, HP9, HSZ⟩
   case rest =>
    obtain ⟨e, T', J', gj', gx', rfl, rfl, rfl, rfl, HP8, HS8⟩ := hcut
    clear HS7
    have be : (e != e) = false := by simp
    go_wp2_with fail
    refine (like_at HS8.out (agree_of HS8.out) (HS8.out.get 1 rfl) (HS8.out.get 2 rfl) (by have := HP8.out.j.L; omega) (fun r hr => by have := HP8.out.j.rcs r hr; omega)).mono ?_
    rintro e9 w9 ⟨rfl, h9⟩
    have HS9 := Aside0.mk h9
    clear h9 HS8
    go_wp2_with fail
    refine (tapes_at HS9.out ((HS9.out.get 1 rfl).elim fun ok hp => ⟨_, sep_drop hp⟩) ((HS9.out.get 2 rfl).elim fun ok hp => ⟨_, sep_drop hp⟩) HP8.out.ok (by omega)).mono ?_
    rintro e10 w10 ⟨rfl, h10⟩
    have HS10 := Aside0.mk h10
    clear h10 HS9
    go_wp2_with fail
    go_roundg kg
    case measure => omega
    case rel => exact ⟨i + 1, T', J', gj', gx', rfl, rfl, by simp, by omega, hkg.2 hiN, HP8, HS10⟩
  ·have eiN : N = i := by omega
   subst eiN
   clear hi hiN
   rcases hN3 with eN | ⟨eN, eN2⟩
   ·have b1 : decide ((N : Int) < (l0.length : Int)) = false := decide_eq_false (by omega)
    go_wp2_with fail
    refine (lives_at HSR.out).mono ?_
    rintro e v9 ⟨rfl, h9⟩
    have HS9 := Aside0.mk h9
    clear h9
    go_wp2_with fail
    go_ret
    exact ⟨rfl, HS9.out.below⟩
   ·have b1 : decide ((N : Int) < (l0.length : Int)) = true := decide_eq_true (by omega)
    have b2 : decide ((N : Int) < 30) = false := decide_eq_false (by omega)
    go_wp2_with fail
    refine (lives_at HSR.out).mono ?_
    rintro e v9 ⟨rfl, h9⟩
    have HS9 := Aside0.mk h9
    clear h9
    go_wp2_with fail
    go_ret
    exact ⟨rfl, HS9.out.below⟩
end Go.Proofs.Ytmfmoddaejoekaa.P
