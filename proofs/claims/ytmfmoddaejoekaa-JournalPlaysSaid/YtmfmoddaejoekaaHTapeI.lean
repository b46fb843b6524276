/- Contracts, typed by hand and by a program: the program's tape: copied, Sync, Crash. -/
import Derived.Test.YtmfmoddaejoekaaHTapeH
set_option linter.unusedVariables false
set_option linter.unusedSimpArgs false
namespace Go.Proofs.YtmfmoddaejoekaaW.PrintWords
open Go.RowKit
/-- Some parts stay, some are new. -/
theorem obj_more {g : Nat} {t : TypeId} {cs : List Value} {Rs Rs' : List Res} {ok : Nat → Prop} {W W' : World} (h : (Res.obj g t cs Rs).P ok W) (hb : Below W.heap.size W W') (own' : Nat → Nat)
  (hR : ∀ (i : Nat) (R : Res), Rs'[i]? = some R → Rs[i]? = some R ∨ R.P (fun k => W.heap.size ≤ k ∧ own' k = i) W') : Turned ok W W' (Res.obj g t cs Rs') := by
 obtain ⟨h1, h2, own, h3⟩ := h
 refine ⟨Keeps.of_below hb _, .inl h1, (hb.block g (blk_lt h2)).trans h2, fun k => if k < W.heap.size then own k else own' k, fun j Rj hj => ?_⟩
 rcases hR j Rj hj with h4 | h4
 ·refine Rj.mono (fun k hk => ?_) (Rj.step (h3 j Rj h4) (fun k hk hlt2 => hb.block k hlt2))
  exact ⟨⟨.inl hk.1.1, Nat.lt_of_lt_of_le hk.1.2 hb.size⟩, hk.2.1, by show (if k < W.heap.size then own k else own' k) = j; rw [if_pos hk.1.2]; exact hk.2.2⟩
 ·refine Rj.mono (fun k hk => ?_) (Rj.bound h4)
  have h5 := blk_lt h2
  have h6 := hk.1.1
  refine ⟨⟨.inr h6, hk.2⟩, fun he => by omega, ?_⟩
  show (if k < W.heap.size then own k else own' k) = j
  rw [if_neg (by omega)]
  exact hk.1.2
end Go.Proofs.YtmfmoddaejoekaaW.PrintWords
namespace Go.Proofs.Ytmfmoddaejoekaa.P
open Go.RowKit Go.Proofs.YtmfmoddaejoekaaW.PrintWords Go.Proofs.YtmfmoddaejoekaaW.PrintLast Go.Proofs.YtmfmoddaejoekaaW.PrintMore
/-- What 'copied' has reached, at its loop. -/
def Cop (W : World) (A0 : Option Addr) (c0 : Nat) (l0 : List Int) (A1 : Option Addr) (c1 : Nat) (l1 : List Int) (j : Nat) (wr : World) : Prop :=
 Below W.heap.size W wr ∧ wr.heap[W.heap.size + 1]? = some (.cells #[.slice none 0 0, .slice none 0 0] 59 (0, 0)) ∧
 ((j = 0 ∧ wr.heap[W.heap.size]? = some (.cells #[.slice A0 l0.length c0, .slice A1 l1.length c1] 59 (0, 0))) ∨
 (j = 1 ∧ ∃ B0 d0, wr.heap[W.heap.size]? = some (.cells #[.slice B0 l0.length d0, .slice A1 l1.length c1] 59 (0, 0)) ∧ (Kd.int .u8).R 5 wr 0 (fun k => W.heap.size + 2 ≤ k) (.slice B0 l0.length d0) l0) ∨
 (j = 2 ∧ ∃ B0 d0 B1 d1 m, wr.heap[W.heap.size]? = some (.cells #[.slice B0 l0.length d0, .slice B1 l1.length d1] 59 (0, 0)) ∧ W.heap.size + 2 ≤ m ∧ (Kd.int .u8).R 5 wr 0 (fun k => W.heap.size + 2 ≤ k ∧ k < m) (.slice B0 l0.length d0) l0 ∧ (Kd.int .u8).R 5 wr 0 (fun k => m ≤ k) (.slice B1 l1.length d1) l1))
set_option maxHeartbeats 4000000 in
set_option maxRecDepth 100000 in
theorem copied.calls (A0 : Option Addr) (c0 : Nat) (l0 : List Int) (A1 : Option Addr) (c1 : Nat) (l1 : List Int) (W : World) (h0 : Kd.C (Kd.int .u8) W A0 l0.length l0) (h1 : Kd.C (Kd.int .u8) W A1 l1.length l1) (hl0 : l0.length ≤ 1000000) (hl1 : l1.length ≤ 1000000) :
  Calls Try.prog 49 #[.agg #[.slice A0 l0.length c0, .slice A1 l1.length c1]] W fun e W' => ∃ B0 d0 B1 d1 m, e = .returned (.agg #[.slice B0 l0.length d0, .slice B1 l1.length d1]) ∧ W.heap.size ≤ m ∧
   (SideR (.slice B0 l0.length d0) l0).P (fun k => W.heap.size ≤ k ∧ k < m) W' ∧ (SideR (.slice B1 l1.length d1) l1).P (fun k => m ≤ k) W' ∧ Below W.heap.size W W' := by
 have HC0 := Aside0.mk h0
 have HC1 := Aside0.mk h1
 clear h0 h1
 have hu59 := Try.underlying59
 go_enter Try.func49, Try.ntmps49
 go_wp2_with fail
 go_loopw [4] (fun s4 wr => ∃ j : Nat, s4 = .int .i64 (j : Int) ∧ Aside0 (Cop W A0 c0 l0 A1 c1 l1 j wr)) (fun s4 _ => (3 - (intOf s4).toNat))
 case atStart =>
  refine ⟨0, rfl, ⟨below_alloc (below_alloc (Below.refl _ _) _) _, ?_, .inl ⟨rfl, ?_⟩⟩⟩
  ·have := heap_alloc_new (W.alloc (.cells #[.slice A0 l0.length c0, .slice A1 l1.length c1] 59)) (.cells #[.slice none 0 0, .slice none 0 0] 59)
   rwa [heap_size_alloc2] at this
  ·exact blk_alloc (heap_alloc_new W _) _
 case round =>
  obtain ⟨j, rfl, HCP⟩ := hrel
  obtain ⟨hb, hz, h⟩ := HCP.out
  have HB := Aside0.mk hb
  have HZ := Aside0.mk hz
  clear HCP hb hz
  rcases h with ⟨rfl, hg⟩ | ⟨rfl, B0, d0, hg, hR⟩ | ⟨rfl, B0, d0, B1, d1, m, hg, hm, hR, hR1⟩
  ·have HG := Aside0.mk hg
   obtain ⟨x0, x1, p0, p1⟩ := blk_all2 hg
   clear hg
   go_wp2_with fail
   refine (Clone8.calls A0 c0 l0 wr (Kd.C_below HC0.out HB.out) hl0).mono ?_
   rintro e w1 ⟨v, rfl, hR, hB⟩
   obtain ⟨B0, d0, ev⟩ := Kd.R_slice hR
   subst ev
   have HR := Aside0.mk hR
   have HB1 := Aside0.mk hB
   have HG1 := Aside0.mk ((hB.block _ (blk_lt HG.out)).trans HG.out)
   have HZ1 := Aside0.mk ((hB.block _ (blk_lt HZ.out)).trans HZ.out)
   obtain ⟨y0, y1, q0, q1⟩ := blk_all2 HG1.out
   clear hR hB x0 x1 p0 p1
   go_wp2_with fail
   go_roundw
   case rel =>
    refine ⟨1, by simp, ⟨?_, ?_, .inr (.inl ⟨rfl, B0, d0, blk_put HG1.out 0 _ rfl, ?_⟩)⟩⟩
    ·exact ((Keeps.of_below (below_step HB.out HB1.out) (fun _ => False)).set (p := ⟨W.heap.size, 0, none⟩) (.inr (Nat.le_refl _)) _).belowF
    ·exact (Below.heap_setCell w1 _ _ _ (by show W.heap.size + 1 ≠ W.heap.size; omega)).trans HZ1.out
    ·have hlt := blk_lt HZ.out
     exact Kd.R_mono (Kd.R_far HR.out (p := ⟨W.heap.size, 0, none⟩) (fun k hk he => by have he' : k = W.heap.size := he; omega) _) (fun k hk => by show W.heap.size + 2 ≤ k; omega)
   case measure => simp [intOf]
  ·have HG := Aside0.mk hg
   have HR0 := Aside0.mk (Kd.R_bound hR)
   obtain ⟨x0, x1, p0, p1⟩ := blk_all2 hg
   clear hg hR
   go_wp2_with fail
   refine (Clone8.calls A1 c1 l1 wr (Kd.C_below HC1.out HB.out) hl1).mono ?_
   rintro e w1 ⟨v, rfl, hR, hB⟩
   obtain ⟨B1, d1, ev⟩ := Kd.R_slice hR
   subst ev
   have HR := Aside0.mk hR
   have HB1 := Aside0.mk hB
   have HG1 := Aside0.mk ((hB.block _ (blk_lt HG.out)).trans HG.out)
   have HZ1 := Aside0.mk ((hB.block _ (blk_lt HZ.out)).trans HZ.out)
   obtain ⟨y0, y1, q0, q1⟩ := blk_all2 HG1.out
   clear hR hB x0 x1 p0 p1
   go_wp2_with fail
   go_roundw
   case rel =>
    have hlt := blk_lt HZ.out
    refine ⟨2, by simp, ⟨?_, ?_, .inr (.inr ⟨rfl, B0, d0, B1, d1, wr.heap.size, blk_put HG1.out 1 _ rfl, by omega, ?_, ?_⟩)⟩⟩
    ·exact ((Keeps.of_below (below_step HB.out HB1.out) (fun _ => False)).set (p := ⟨W.heap.size, 1, none⟩) (.inr (Nat.le_refl _)) _).belowF
    ·exact (Below.heap_setCell w1 _ _ _ (by show W.heap.size + 1 ≠ W.heap.size; omega)).trans HZ1.out
    ·exact Kd.R_mono (Kd.R_far (Kd.R_below HR0.out HB1.out) (p := ⟨W.heap.size, 1, none⟩) (fun k hk he => by have he' : k = W.heap.size := he; have := hk.1; omega) _) (fun k hk => ⟨hk.1, hk.2.2.1⟩)
    ·exact Kd.R_far HR.out (p := ⟨W.heap.size, 1, none⟩) (fun k hk he => by have he' : k = W.heap.size := he; omega) _
   case measure => simp [intOf]
  ·obtain ⟨x0, x1, p0, p1⟩ := blk_all2 hg
   obtain ⟨y0, y1, q0, q1⟩ := blk_all2 HZ.out
   have HG := Aside0.mk hg
   have HR0 := Aside0.mk hR
   have HR1 := Aside0.mk hR1
   have HM := Aside0.mk hm
   clear hg hR hR1 hm
   go_wp2_with fail
   refine bodyPost_ret (results_cell_row rfl _ _ (W.heap.size + 1) 59 #[.slice B0 l0.length d0, .slice B1 l1.length d1] (0, 0) _ rfl (by
    refine blk_put (cs := #[.slice B0 l0.length d0, .slice none 0 0]) ?_ _ _ rfl
    refine blk_put (cs := #[.slice none 0 0, .slice none 0 0]) ?_ _ _ rfl
    exact HZ.out) hu59 rfl (by kernel_rfl)) rfl ?_
   have k0 := Keeps.of_below HB.out (fun _ => False)
   have k1 := k0.set (p := ⟨W.heap.size + 1, 0, none⟩) (.inr (by show W.heap.size ≤ W.heap.size + 1; omega)) (.slice B0 l0.length d0)
   have k2 := k1.set (p := ⟨W.heap.size + 1, 1, none⟩) (.inr (by show W.heap.size ≤ W.heap.size + 1; omega)) (.slice B1 l1.length d1)
   have hm := HM.out
   refine ⟨B0, d0, B1, d1, m, rfl, by omega, .inl ?_, .inl ?_, k2.belowF⟩
   ·refine Kd.R_mono (Kd.R_far (p := ⟨W.heap.size + 1, 1, none⟩) (Kd.R_far (p := ⟨W.heap.size + 1, 0, none⟩) HR0.out (fun k hk he => ?_) _) (fun k hk he => ?_) _) (fun k hk => ⟨by have := hk.1; omega, hk.2⟩)
    ·have he' : k = W.heap.size + 1 := he; have := hk.1; omega
    ·have he' : k = W.heap.size + 1 := he; have := hk.1; omega
   ·refine Kd.R_far (p := ⟨W.heap.size + 1, 1, none⟩) (Kd.R_far (p := ⟨W.heap.size + 1, 0, none⟩) HR1.out (fun k hk he => ?_) _) (fun k hk he => ?_) _
    ·have he' : k = W.heap.size + 1 := he; omega
    ·have he' : k = W.heap.size + 1 := he; omega
theorem tape_Sync.no (g : Nat) (T : TM) (W : World) (ok : Nat → Prop) (hP : (PTape g T).P ok W) (hr : T.ready 0 ≠ 0) :
  Calls Try.prog 20 #[.pointer (some ⟨g, 0, none⟩)] W fun e W' => e = .returned (.int .i64 (T.ready 0)) ∧ W = W' := by
 have HC := Aside0.mk (tape_ready.calls g T 0 W ok hP)
 obtain ⟨r, er⟩ : ∃ r, T.ready 0 = r := ⟨_, rfl⟩
 rw [er] at hr HC ⊢
 have b1 : (r != 0) = true := by simp [hr]
 have b2 : (r == 0) = false := by simp [hr]
 clear hP er
 go_enter Try.func20, Try.ntmps20
 go_wp2_with fail
 refine HC.out.mono ?_
 rintro e w' ⟨rfl, rfl⟩
 go_wp2_with fail
 go_ret
 exact ⟨rfl, rfl⟩
set_option maxHeartbeats 4000000 in
set_option maxRecDepth 100000 in
theorem tape_Sync.calls (g : Nat) (T : TM) (N : Nat) (hT : T.Ok N) (W : World) (ok : Nat → Prop) (hP : (PTape g T).P ok W) :
  Calls Try.prog 20 #[.pointer (some ⟨g, 0, none⟩)] W fun e W' => e = .returned (.int .i64 (T.ready 0)) ∧ Turned ok W W' (PTape g T.sync) := by
 by_cases hr : T.ready 0 = 0
 ·have HC := Aside0.mk (tape_ready.calls g T 0 W ok hP)
  rw [hr] at HC ⊢
  have hl0 := hT.now_len 0 (by decide)
  have hl1 := hT.now_len 1 (by decide)
  obtain ⟨v0, v1, m0, m1, vu, x, hx, hC⟩ := ptape_open hP
  obtain ⟨ok0, hs0, hn0⟩ := obj_get hC 2 rfl
  obtain ⟨ok1, hs1, hn1⟩ := obj_get hC 3 rfl
  obtain ⟨A0, c0, rfl⟩ := side_slice hs0
  obtain ⟨A1, c1, rfl⟩ := side_slice hs1
  obtain ⟨y, ey⟩ : ∃ y, wrap64 (x - 1) = y := ⟨_, rfl⟩
  have h1 := obj_set hC 6 (.int .i64 y)
  obtain ⟨W1, eW1⟩ : ∃ W1, W1 = W.setCell ⟨g, 6, none⟩ (.int .i64 y) := ⟨_, rfl⟩
  rw [← eW1] at h1
  obtain ⟨okk0, hk0, _⟩ := obj_get h1.1 2 rfl
  obtain ⟨okk1, hk1, _⟩ := obj_get h1.1 3 rfl
  have HF0 := Aside0.mk (Kd.F_now (side_reads hk0).2.2)
  have HF1 := Aside0.mk (Kd.F_now (side_reads hk1).2.2)
  obtain ⟨x0, x1, x2, x3, x4, x5, x6, f0, f1, f2, f3, f4, f5, f6⟩ := blk_all7 (tape_blk hC)
  have H1 := Aside0.mk h1
  have HG := Aside0.mk (obj_blk h1.1)
  obtain ⟨z0, z1, z2, z3, z4, z5, z6, p0, p1, p2, p3, p4, p5, p6⟩ := blk_all7 (tape_blk' h1.1)
  have HY := Aside0.mk (show T.burns = true → y = T.left - 1 from fun hb => by
   have h1 := hx hb
   have h2 := hT.1 hb
   rw [← ey, h1]
   unfold wrap64
   omega)
  have HS := Aside0.mk (show T.sync = { T.burn with s0 := T.now 0, s1 := T.now 1, us := [] } by unfold TM.sync; rw [if_pos hr])
  clear hP hC hs0 hs1 hn0 hn1 hx hT hk0 hk1 h1 hr
  go_enter Try.func20, Try.ntmps20
  go_wp2_with fail
  refine HC.out.mono ?_
  rintro e w' ⟨rfl, rfl⟩
  go_wp2_with fail
  rw [ey, ← eW1]
  clear x0 x1 x2 x3 x4 x5 x6 f0 f1 f2 f3 f4 f5 f6 eW1 ey
  go_wp2_with fail
  refine (copied.calls A0 c0 (T.now 0) A1 c1 (T.now 1) W1 HF0.out HF1.out (by omega) (by omega)).mono ?_
  rintro e w2 ⟨B0, d0, B1, d1, m, rfl, hm, hR0, hR1, hB⟩
  have HR0 := Aside0.mk hR0
  have HR1 := Aside0.mk hR1
  have HB := Aside0.mk hB
  have HM := Aside0.mk hm
  have HO := Aside0.mk (obj_more (Rs' := [SideR (.slice B0 (T.now 0).length d0) (T.now 0), SideR (.slice B1 (T.now 1).length d1) (T.now 1), SideR (.slice A0 (T.now 0).length c0) (T.now 0), SideR (.slice A1 (T.now 1).length c1) (T.now 1), UnR (.slice none 0 0) []]) H1.out.1 hB (fun k => if k < m then 0 else 1) (fun i R hi => by
   match i, hi with
   | 0, hi => cases hi; exact .inr (Res.mono _ (fun k hk => ⟨hk.1, if_pos hk.2⟩) hR0)
   | 1, hi => cases hi; exact .inr (Res.mono _ (fun k hk => ⟨Nat.le_trans hm hk, if_neg (by omega)⟩) hR1)
   | 2, hi => cases hi; exact .inl rfl
   | 3, hi => cases hi; exact .inl rfl
   | 4, hi => cases hi; exact .inr (Kd.R_nil _ _ _ _ _)))
  obtain ⟨q0, q1, q2, q3, q4, q5, q6, r0, r1, r2, r3, r4, r5, r6⟩ := blk_all7 (tape_blk' HO.out.2)
  clear z0 z1 z2 z3 z4 z5 z6 p0 p1 p2 p3 p4 p5 p6 hR0 hR1 hB hm
  go_wp2_with fail
  go_ret
  refine ⟨rfl, ?_⟩
  rw [HS.out]
  have h2 := obj_set HO.out.2 0 (.slice B0 (T.now 0).length d0)
  have h3 := obj_set h2.1 1 (.slice B1 (T.now 1).length d1)
  have h4 := obj_set h3.1 4 (.slice none 0 0)
  have hm2 : ∀ k, (ok k ∨ W1.heap.size ≤ k) → ok k ∨ W.heap.size ≤ k := fun k hk => hk.imp id (Nat.le_trans H1.out.2.size)
  refine ⟨H1.out.2.then_ (((HO.out.1.then_ h2.2 (fun k hk => hk)).then_ h3.2 (fun k hk => hk)).then_ h4.2 (fun k hk => hk)) (fun k hk => .inl hk), Res.mono _ hm2 (ptape_mk (x := y) (fun hb => ?_) h4.1)⟩
  have hb' : T.burns = true := hb
  show y = (if T.burns = true then T.left - 1 else T.left)
  rw [if_pos hb']
  exact HY.out hb'
 ·have ht : T.sync = T := by unfold TM.sync; rw [if_neg hr]
  rw [ht]
  exact (tape_Sync.no g T W ok hP hr).mono fun e W' hh => ⟨hh.1, hh.2 ▸ Turned.refl hP⟩
end Go.Proofs.Ytmfmoddaejoekaa.P
