/- Contracts, typed by hand: a journal: Renew. -/
import Derived.Test.YtmfmoddaejoekaaHJourF
set_option linter.unusedVariables false
set_option linter.unusedSimpArgs false
namespace Go.Proofs.Ytmfmoddaejoekaa.P
open Go.RowKit Go.Proofs.YtmfmoddaejoekaaW.PrintWords Go.Proofs.YtmfmoddaejoekaaW.PrintLast Go.Proofs.YtmfmoddaejoekaaW.PrintMore
set_option maxHeartbeats 4000000 in
theorem jour_Renew.broken (gj gt : Nat) (T : TM) (J : JM) (A : Option Addr) (c : Nat) (l : List (List Int)) (W : World) (ok : Nat → Prop) (hP : (Res.sep (PTape gt T) (PJour gj gt J)).P ok W) (hb : J.broken = true) :
  Calls Try.prog 12 #[.pointer (some ⟨gj, 0, none⟩), .slice A l.length c] W fun e W' => e = .returned (.int .i64 40) ∧ Below W.heap.size W W' := by
 obtain ⟨okj, hJ, _⟩ := sep_snd hP
 obtain ⟨A0, c0, hC, _⟩ := jour_open hJ
 obtain ⟨x0, x1, x2, x3, x4, x5, _⟩ := blk_all6 (jour_blk hC)
 rw [hb] at x5
 clear hP hJ hC hb
 replace x5 := pw_cell_below (below_alloc (Below.refl W.heap.size W) (.cells #[.int .i64 0] 26)) x5
 have hu26 := Try.underlying26
 go_enter_defers Try.func12, Try.ntmps12
 go_wp2_with fail
 exact ⟨_, results_cell_int rfl _ _ W.heap.size _ rfl (by rw [blk_cell (heap_alloc_new _ _)]; rfl) hu26, rfl, below_alloc (Below.refl _ _) _⟩
set_option maxHeartbeats 4000000 in
theorem jour_Renew.arg (gj gt : Nat) (T : TM) (J : JM) (A : Option Addr) (c : Nat) (l : List (List Int)) (W : World) (ok : Nat → Prop) (hP : (Res.sep (PTape gt T) (PJour gj gt J)).P ok W) (hC : Kd.C (Kd.slice 5 (Kd.int .u8)) W A l.length l) (hl : l.length ≤ 1000000) (hb : J.broken = false) (hr : 4000 < l.length ∨ 1099511627776 ≤ J.g ∨ ¬ (∀ r ∈ l, isRec r = true)) :
  Calls Try.prog 12 #[.pointer (some ⟨gj, 0, none⟩), .slice A l.length c] W fun e W' => e = .returned (.int .i64 1) ∧ Below W.heap.size W W' := by
 have HI := Aside0.mk (containsFunc.calls A c l (W.alloc (.cells #[.int .i64 0] 26)) (Kd.C_alloc hC _) hl)
 obtain ⟨okj, hJ, _⟩ := sep_snd hP
 obtain ⟨A0, c0, hC0, _⟩ := jour_open hJ
 obtain ⟨x0, x1, x2, x3, x4, x5, _⟩ := blk_all6 (jour_blk hC0)
 rw [hb] at x5
 clear hP hJ hC0 hb hC
 replace x5 := pw_cell_below (below_alloc (Below.refl W.heap.size W) (.cells #[.int .i64 0] 26)) x5
 replace x2 := pw_cell_below (below_alloc (Below.refl W.heap.size W) (.cells #[.int .i64 0] 26)) x2
 have hu26 := Try.underlying26
 by_cases h1 : 4000 < l.length
 ·have b1 : decide (4000 < (l.length : Int)) = true := decide_eq_true (by omega)
  have b1n : decide (4000 < l.length) = true := decide_eq_true h1
  clear h1 hr HI
  go_enter_defers Try.func12, Try.ntmps12
  go_wp2_with fail
  exact ⟨_, results_cell_int rfl _ _ W.heap.size _ rfl (by rw [blk_cell (heap_alloc_new _ _)]; rfl) hu26, rfl, below_alloc (Below.refl _ _) _⟩
 have b1 : decide (4000 < (l.length : Int)) = false := decide_eq_false (by omega)
 have b1n : decide (4000 < l.length) = false := decide_eq_false h1
 by_cases h2 : 1099511627776 ≤ J.g
 ·have b2 : decide (1099511627776 ≤ J.g) = true := decide_eq_true h2
  clear h1 h2 hr HI
  go_enter_defers Try.func12, Try.ntmps12
  go_wp2_with fail
  exact ⟨_, results_cell_int rfl _ _ W.heap.size _ rfl (by rw [blk_cell (heap_alloc_new _ _)]; rfl) hu26, rfl, below_alloc (Below.refl _ _) _⟩
 have b2 : decide (1099511627776 ≤ J.g) = false := decide_eq_false h2
 have h3 : ¬ (∀ r ∈ l, isRec r = true) := (hr.resolve_left h1).resolve_left h2
 rw [decide_eq_true h3] at HI
 clear h1 h2 h3 hr
 go_enter_defers Try.func12, Try.ntmps12
 go_wp2_with fail
 refine HI.out.mono ?_
 rintro e w1 ⟨rfl, ⟨n, rfl⟩⟩
 have hg := blk_drewN (heap_alloc_new W (.cells #[.int .i64 0] 26)) n
 obtain ⟨y0, f0⟩ := blk_all1 hg
 have HG := Aside0.mk hg
 clear hg
 go_wp2_with fail
 exact ⟨_, results_cell_int rfl _ _ W.heap.size _ rfl (by rw [blk_cell (blk_set HG.out 0 _)]; rfl) hu26, rfl, (Keeps.set (S := fun _ => False) (Keeps.of_below (pw_below_drewN (below_alloc (Below.refl _ _) _) n) _) (p := ⟨W.heap.size, 0, none⟩) (.inr (Nat.le_refl _)) _).belowF⟩
theorem framesM_take (l : List (List Int)) (j : Nat) (hj : j < l.length) : framesM (l.take (j + 1)) = framesM (l.take j) ++ frameM (rd_L2 l (j : Int)) := by
 unfold framesM
 rw [List.take_add_one, List.getElem?_eq_getElem hj, Option.toList_some, List.map_append, List.flatten_append]
 simp [rd_L2, hj]
theorem framesM_le (l : List (List Int)) (j : Nat) : (framesM (l.take j)).length ≤ (framesM l).length := by
 have h : framesM l = framesM (l.take j) ++ framesM (l.drop j) := by
  unfold framesM
  rw [← List.flatten_append, ← List.map_append, List.take_append_drop]
 rw [h, List.length_append]
 omega
abbrev RowB (v : Value) (l : List Int) : Res := Res.row (Kd.int .u8) 5 v l
abbrev RowL (v : Value) (l : List (List Int)) : Res := Res.row (Kd.slice 5 (Kd.int .u8)) 30 v l
set_option maxHeartbeats 32000000 in
set_option maxRecDepth 100000 in
theorem jour_Renew.yes (gj gt : Nat) (T : TM) (N : Nat) (hT : T.Ok N) (hN : N + 70000 ≤ 1000000000) (J : JM) (hsd : J.side = 0 ∨ J.side = 1) (A : Option Addr) (c : Nat) (l : List (List Int)) (W : World) (ok : Nat → Prop) (hP : (Res.sep (PTape gt T) (PJour gj gt J)).P ok W) (hQ : ∀ W', Keeps W W' ok → Kd.C (Kd.slice 5 (Kd.int .u8)) W' A l.length l) (hb : J.broken = false) (hl : l.length ≤ 4000) (hg : 0 ≤ J.g ∧ J.g < 1099511627776) (hr : ∀ r ∈ l, isRec r = true) :
  Calls Try.prog 12 #[.pointer (some ⟨gj, 0, none⟩), .slice A l.length c] W fun e W' => e = .returned (.int .i64 (renewM T J l).1) ∧ Turned ok W W' (Res.sep (PTape gt (renewM T J l).2.1) (PJour gj gt (renewM T J l).2.2)) := by
 have HI := Aside0.mk (containsFunc.calls A c l (W.alloc (.cells #[.int .i64 0] 26)) (Kd.C_alloc (hQ W (Keeps.refl _ _)) _) (by omega))
 rw [decide_eq_false (by simpa using hr)] at HI
 have HRL := Aside0.mk (show ∀ r ∈ l, r.length ≤ 8192 from fun r h => by have := hr r h; unfold isRec at this; have := of_decide_eq_true this; omega)
 have HM := Aside0.mk (show renewM T J l = _ by unfold renewM; rw [if_neg (by rw [hb]; decide), if_neg (by simp only [not_or]; exact ⟨by omega, by omega, fun h => h hr⟩)])
 have HT := Aside0.mk hT
 have HNN := Aside0.mk hN
 have HPB := Aside0.mk (Res.bound _ hP)
 have HQ := Aside0.mk hQ
 have HLL := Aside0.mk hl
 have HGG := Aside0.mk hg
 have HBR := Aside0.mk hb
 have HSD := Aside0.mk hsd
 have HHD := Aside0.mk (head_eq (J.g + 1) (l.length : Int) (by omega) (by omega))
 have HHL := Aside0.mk (headR_len (J.g + 1) (l.length : Int) (by omega) (by omega))
 obtain ⟨okj, hJ, hjs⟩ := sep_snd (Res.bound _ hP)
 obtain ⟨A0, c0, hC0, _⟩ := jour_open hJ
 have HJG := Aside0.mk (show gj < W.heap.size from blk_lt (jour_blk hC0))
 obtain ⟨x0, x1, x2, x3, x4, x5, _⟩ := blk_all6 (jour_blk hC0)
 have HJK := Aside0.mk (And.intro x0 (And.intro x1 x2))
 rw [hb] at x5
 have b1 : decide (4000 < (l.length : Int)) = false := decide_eq_false (by omega)
 have b1n : decide (4000 < l.length) = false := decide_eq_false (by omega)
 have b2 : decide (1099511627776 ≤ J.g) = false := decide_eq_false (by omega)
 have wg : wrap64 (J.g + 1) = J.g + 1 := w64' (by omega) (by omega)
 clear hP hJ hC0 hb hQ hr hT hN hl hg hjs hsd
 replace x5 := pw_cell_below (below_alloc (Below.refl W.heap.size W) (.cells #[.int .i64 0] 26)) x5
 replace x2 := pw_cell_below (below_alloc (Below.refl W.heap.size W) (.cells #[.int .i64 0] 26)) x2
 have hu26 := Try.underlying26
 go_enter_defers Try.func12, Try.ntmps12
 go_wp2_with fail
 refine HI.out.mono ?_
 rintro e w1 ⟨rfl, ⟨n, rfl⟩⟩
 obtain ⟨w1, e1⟩ : ∃ w1, w1 = (W.alloc (.cells #[.int .i64 0] 26)).drewN n := ⟨_, rfl⟩
 rw [← e1]
 have HB1 := Aside0.mk (show Below W.heap.size W w1 by rw [e1]; exact pw_below_drewN (below_alloc (Below.refl _ _) _) _)
 have HG1 := Aside0.mk (show w1.heap[W.heap.size]? = some (.cells #[.int .i64 0] 26 (0, 0)) by rw [e1]; exact blk_drewN (heap_alloc_new W _) n)
 clear e1 x0 x1 x2 x3 x4 x5 HI
 have x2 := pw_cell_below HB1.out HJK.out.2.2
 go_wp2_with fail
 refine (journal_head.calls (J.g + 1) (l.length : Int) (headR (J.g + 1) (l.length : Int)) w1 HHD.out).mono ?_
 rintro e w2 ⟨v2, rfl, hR2, hB2⟩
 obtain ⟨A2, c2, ev2⟩ := Kd.R_slice hR2
 subst ev2
 obtain ⟨hr2, ehr2⟩ : ∃ x, headR (J.g + 1) (l.length : Int) = x := ⟨_, rfl⟩
 have HHR := Aside0.mk ehr2
 rw [ehr2] at hR2 HHL
 rw [ehr2]
 have HR2 := Aside0.mk (Kd.R_lower (Kd.R_mono (Kd.R_bound hR2) (ok' := fun k => w1.heap.size ≤ k ∧ k < w2.heap.size) (fun k hk => ⟨hk.2.1, hk.2.2.1⟩)) (Nat.zero_le _))
 have HB2 := Aside0.mk (below_step HB1.out hB2)
 have HG2 := Aside0.mk ((hB2.block _ (blk_lt HG1.out)).trans HG1.out)
 clear hR2 hB2 ehr2 x2
 go_wp2_with fail
 refine (journal_frame.calls (.slice none 0 0) [] A2 c2 hr2 w2 (fun _ => False) (Kd.R_nil _ _ _ _ _) (fun W' hk => (Kd.R_reads' (Kd.R_step HR2.out (fun k hk2 hlt => hk.block k hlt (fun h => h)))).2.2) (by have := HHL.out; omega) (by decide)).mono ?_
 rintro e w3 ⟨v3, rfl, ht3⟩
 rw [List.nil_append] at ht3
 obtain ⟨Af, cf, ev3⟩ := Kd.R_slice (show (Kd.int .u8).R 5 w3 0 _ v3 (frameM hr2) from ht3.2)
 subst ev3
 have HB3 := Aside0.mk (below_step HB2.out ht3.1.belowF)
 have HG3 := Aside0.mk ((ht3.1.belowF.block _ (blk_lt HG2.out)).trans HG2.out)
 have HF3 := Aside0.mk (show (Kd.int .u8).R 5 w3 0 (fun k => W.heap.size + 1 ≤ k) (.slice Af (frameM hr2).length cf) (frameM hr2) from Kd.R_mono ht3.2 (fun k hk => hk.elim False.elim (fun h => by have := blk_lt HG2.out; omega)))
 obtain ⟨hd, ehd⟩ : ∃ x, frameM hr2 = x := ⟨_, rfl⟩
 have HDL := Aside0.mk (show hd.length ≤ 22 by rw [← ehd, frameM_len]; have := HHL.out; omega)
 have HBM := Aside0.mk (show bodyM (J.g + 1) l = hd ++ framesM l by unfold bodyM; rw [HHR.out, ehd])
 rw [HBM.out] at HM
 rw [ehd] at HF3
 rw [ehd]
 clear ht3 ehd HR2 HHD HB1 HB2 HG1 HG2
 go_wp2_with fail
 go_loopw [5, 6, 44] (fun s5 s6 s44 wr => ∃ j : Nat, j ≤ l.length ∧ s44 = .int .i64 (j : Int) ∧ Aside0 ((Res.sep (RowB s5 (hd ++ framesM (l.take j))) (RowL s6 (l.take j))).P (fun k => W.heap.size + 1 ≤ k) wr) ∧ Aside0 (Below W.heap.size W wr) ∧ Aside0 (wr.heap[W.heap.size]? = some (.cells #[.int .i64 0] 26 (0, 0))) ∧ Aside0 ((hd ++ framesM (l.take j)).length ≤ 65536 + 8196)) (fun _ _ s44 _ => (l.length + 1 - (intOf s44).toNat))
 case atStart =>
  refine ⟨0, Nat.zero_le _, rfl, ⟨?_⟩, HB3, HG3, ⟨?_⟩⟩
  ·rw [List.take_zero, show framesM [] = [] from rfl, List.append_nil]
   exact ⟨fun _ => True, Kd.R_mono HF3.out (fun k hk => ⟨hk, trivial⟩), Kd.R_nil _ _ _ _ _⟩
  ·rw [List.take_zero, show framesM [] = [] from rfl, List.append_nil]
   have := HDL.out
   omega
 case round =>
  obtain ⟨j, hj, rfl, HS, HB, HG, HLN⟩ := hrel
  clear HB3 HG3 HF3
  obtain ⟨bb, ebb⟩ : ∃ x, hd ++ framesM (l.take j) = x := ⟨_, rfl⟩
  have HBB := Aside0.mk ebb
  rw [ebb] at HS HLN
  obtain ⟨lj, elj⟩ : ∃ x, l.take j = x := ⟨_, rfl⟩
  have HLJ := Aside0.mk elj
  rw [elj] at HS
  clear elj
  obtain ⟨okx, hx, _⟩ := sep_fst HS.out
  obtain ⟨Ab, cb, eb⟩ := Kd.R_slice (show (Kd.int .u8).R 5 wr 0 okx _ bb from hx)
  subst eb
  obtain ⟨oky, hy, _⟩ := sep_snd HS.out
  obtain ⟨Ao, co, eo⟩ := Kd.R_slice (show (Kd.slice 5 (Kd.int .u8)).R 30 wr 0 oky _ lj from hy)
  subst eo
  clear hx hy ebb
  obtain ⟨y0, g0⟩ := blk_all1 HG.out
  by_cases hbig : 65536 < bb.length
  ·have b3 : decide (65536 < (bb.length : Int)) = true := decide_eq_true (by omega)
   have b3n : decide (65536 < bb.length) = true := decide_eq_true hbig
   have HM1 := Aside0.mk (HM.out.trans (if_pos (by have := framesM_le l j; rw [← HBB.out, List.length_append] at hbig; rw [List.length_append]; omega)))
   clear hbig
   by_cases hjl : j < l.length
   ·have b4 : decide ((j : Int) < (l.length : Int)) = true := decide_eq_true (by omega)
    obtain ⟨ad, A1, c1, eA, hc0, hl0, hCr⟩ := at_L2 (HQ.out W (Keeps.refl _ _)) (j : Int) (by omega) (by omega)
    subst eA
    rw [Int.toNat_natCast] at hc0
    replace hc0 := pw_cell_below HB.out hc0
    clear hCr hl0
    go_wp2_with fail
    refine ⟨_, results_cell_int rfl _ _ W.heap.size _ rfl (by rw [blk_cell (blk_set HG.out 0 _)]; rfl) hu26, ?_⟩
    rw [HM1.out]
    exact ⟨rfl, (Turned.from (Below.refl _ _) (Turned.refl HPB.out)).on ((Keeps.set (S := fun _ => False) (Keeps.of_below HB.out _) (p := ⟨W.heap.size, 0, none⟩) (.inr (Nat.le_refl _)) _).belowF)⟩
   ·obtain rfl : j = l.length := by omega
    have b4 : decide ((l.length : Int) < (l.length : Int)) = false := decide_eq_false (by omega)
    go_wp2_with fail
    refine ⟨_, results_cell_int rfl _ _ W.heap.size _ rfl (by rw [blk_cell (blk_set HG.out 0 _)]; rfl) hu26, ?_⟩
    rw [HM1.out]
    exact ⟨rfl, (Turned.from (Below.refl _ _) (Turned.refl HPB.out)).on ((Keeps.set (S := fun _ => False) (Keeps.of_below HB.out _) (p := ⟨W.heap.size, 0, none⟩) (.inr (Nat.le_refl _)) _).belowF)⟩
  have b3 : decide (65536 < (bb.length : Int)) = false := decide_eq_false (by omega)
  have b3n : decide (65536 < bb.length) = false := decide_eq_false hbig
  have HSM := Aside0.mk (show bb.length ≤ 65536 by omega)
  clear hbig
  by_cases hjl : j < l.length
  ·have b4 : decide ((j : Int) < (l.length : Int)) = true := decide_eq_true (by omega)
   obtain ⟨ad, A1, c1, eA, hc0, hl0, hCr⟩ := at_L2 (HQ.out W (Keeps.refl _ _)) (j : Int) (by omega) (by omega)
   have hmem : rd_L2 l (j : Int) ∈ l := by simp [rd_L2, hjl]
   have hft := framesM_take l j hjl
   have htk : l.take (j + 1) = lj ++ [rd_L2 l (j : Int)] := by
    rw [List.take_add_one, List.getElem?_eq_getElem hjl, Option.toList_some, HLJ.out]
    simp [rd_L2, hjl]
   obtain ⟨r, er⟩ : ∃ r, rd_L2 l (j : Int) = r := ⟨_, rfl⟩
   rw [er] at hc0 hCr hmem hft htk
   have HFT := Aside0.mk (show hd ++ framesM (l.take (j + 1)) = bb ++ frameM r by rw [hft, ← HBB.out, List.append_assoc])
   have HTK := Aside0.mk htk
   have HCR := Aside0.mk hCr
   have HRR := Aside0.mk (HRL.out r hmem)
   have HL24 := Aside0.mk (show (lj.length + 1) * 24 ≤ 140737488355328 by rw [← HLJ.out, List.length_take]; have := HLL.out; omega)
   subst eA
   rw [Int.toNat_natCast] at hc0
   replace hc0 := pw_cell_below HB.out hc0
   clear hCr hl0 er hmem hft htk
   go_wp2_with fail
   obtain ⟨oka, hRa, has, hba⟩ := sep_left HS.out
   have HRA := Aside0.mk hRa
   have HAS := Aside0.mk has
   have HBA := Aside0.mk @hba
   clear hRa has hba hc0
   refine (journal_frame.calls (.slice Ab bb.length cb) bb A1 c1 r wr oka HRA.out (fun W' hk => Kd.C_below HCR.out (((Keeps.of_below HB.out (fun _ => False)).then_ hk (fun k hk2 => .inr (by have := (HAS.out k hk2).1; omega))).belowF)) (by have := HRR.out; omega) (by have := HSM.out; omega)).mono ?_
   rintro e w4 ⟨v4, rfl, ht4⟩
   obtain ⟨bn, ebn⟩ : ∃ x, bb ++ frameM r = x := ⟨_, rfl⟩
   rw [ebn] at ht4 HFT
   obtain ⟨A4, c4, ev4⟩ := Kd.R_slice (show (Kd.int .u8).R 5 w4 0 _ v4 bn from ht4.2)
   subst ev4
   have HS4 := Aside0.mk (HBA.out ht4)
   have HB4 := Aside0.mk (((Keeps.of_below HB.out (fun _ => False)).then_ HS4.out.1 (fun k hk => .inr (Nat.le_of_succ_le hk))).belowF)
   have HG4 := Aside0.mk ((HS4.out.1.block _ (blk_lt HG.out) (fun h => Nat.not_succ_le_self _ h)).trans HG.out)
   have HLB := Aside0.mk (show bn.length ≤ 65536 + 8196 by rw [← ebn, List.length_append, frameM_len]; have := HSM.out; have := HRR.out; omega)
   clear ht4 ebn HRA HAS HBA
   go_wp2_with fail
   refine (Clone8.calls A1 c1 r w4 (Kd.C_below HCR.out HB4.out) (by have := HRR.out; omega)).mono ?_
   rintro e w5 ⟨v5, rfl, hR5, hB5⟩
   obtain ⟨A5, c5, ev5⟩ := Kd.R_slice hR5
   subst ev5
   have HR5 := Aside0.mk hR5
   have HB5 := Aside0.mk hB5
   obtain ⟨okb, hRb, hbs, hbb⟩ := sep_right HS4.out.2
   have HRB := Aside0.mk (show (Kd.slice 5 (Kd.int .u8)).R 30 w5 0 okb (.slice Ao lj.length co) lj from Kd.R_below hRb hB5)
   have HBBK := Aside0.mk @hbb
   have HW5 := Aside0.mk (show ∀ k, okb k → k < w4.heap.size from fun k hk => (hbs k hk).2)
   clear hR5 hB5 hRb hbs hbb
   go_wp2_with (at_builtin; refine Kd.R_append (Kd.slice 5 (Kd.int .u8)) (w0 := w5) 0 rfl (.tmp 54) (.tmp 57) 29 30 (.slice none 0 0) 24 rfl Try.underlying29 info30 rfl (by decide) (by decide) (.slice Ao lj.length co) lj r [.slice A5 r.length c5] (fun k => okb k ∨ w4.heap.size ≤ k) (fun k => w4.heap.size ≤ k) rfl rfl ⟨_, rfl, HR5.out⟩ ?aK ?aF ?aO (Below.refl _ _) (Nat.zero_le _) HL24.out ?_)
   case aK => exact fun k hk => ⟨.inr hk, fun he => by have := HW5.out k (HRB.out.1 k he.symm); omega⟩
   case aF => exact fun k hk => .inr (Nat.le_trans HB5.out.size hk)
   case aO => exact Kd.R_mono HRB.out (fun k hk => .inl hk)
   intro v6 w6 hR6 _ hg6 _
   have HS6 := Aside0.mk (HBBK.out (show Turned okb w4 w6 (RowL v6 (lj ++ [r])) from ⟨(Keeps.of_below HB5.out okb).then_ (Keeps.of_grown hg6) (fun k hk => .inl (HRB.out.1 k hk.symm)), hR6⟩))
   have HB6 := Aside0.mk (((Keeps.of_below HB4.out (fun _ => False)).then_ HS6.out.1 (fun k hk => .inr (hk.elim (Nat.le_of_succ_le ·) (fun h => Nat.le_trans HB.out.size h)))).belowF)
   have HG6 := Aside0.mk ((HS6.out.1.block _ (blk_lt HG4.out) (fun h => h.elim (Nat.not_succ_le_self _) (fun h => by have := blk_lt HG.out; omega))).trans HG4.out)
   have HSW := Aside0.mk (show (Res.sep (RowB (.slice A4 bn.length c4) (hd ++ framesM (l.take (j + 1)))) (RowL v6 (l.take (j + 1)))).P (fun k => W.heap.size + 1 ≤ k) w6 from by
    rw [HFT.out, HTK.out]
    exact Res.mono _ (fun k hk => hk.elim (fun h => h.elim id (fun h => by have := blk_lt HG.out; omega)) (fun h => by have := blk_lt HG4.out; omega)) HS6.out.2)
   clear hR6 hg6 HBBK HRB HW5 HR5 HB5
   have hl4 : l.length ≤ 4000 := HLL.out
   go_wp2_with fail
   go_roundw
   case rel => exact ⟨j + 1, Nat.succ_le_of_lt hjl, by simp, HSW, HB6, HG6, ⟨by rw [HFT.out]; exact HLB.out⟩⟩
   case measure => clear wg; simp [intOf]; omega
  ·obtain rfl : j = l.length := by omega
   have b4 : decide ((l.length : Int) < (l.length : Int)) = false := decide_eq_false (by omega)
   rw [List.take_length] at HBB HLJ
   have HLE := HLJ.out
   subst HLE
   have HBO := Aside0.mk (show hd ++ framesM l = bb from HBB.out)
   rw [HBO.out] at HM
   have HM1 := Aside0.mk (HM.out.trans (if_neg (by have := HSM.out; omega)))
   obtain ⟨fb, hfb, hfo⟩ := HS.out
   have HRBB := Aside0.mk (show (Kd.int .u8).R 5 wr 0 (fun k => (W.heap.size + 1 ≤ k ∧ fb k) ∧ k < wr.heap.size) (.slice Ab bb.length cb) bb from Res.bound (RowB _ _) hfb)
   have HRO := Aside0.mk (show (RecR (.slice Ao l.length co) l).P (fun k => (W.heap.size + 1 ≤ k ∧ ¬ fb k) ∧ k < wr.heap.size) wr from Kd.Q_of_R (Res.bound (RowL _ _) hfo))
   have HX := Aside0.mk (show (Res.sep (Res.sep (PTape gt T) (PJour gj gt J)) (RecR (.slice Ao l.length co) l)).P (fun k => (ok k ∧ k < W.heap.size) ∨ ((W.heap.size + 1 ≤ k ∧ ¬ fb k) ∧ k < wr.heap.size)) wr from sep_mk (Res.on _ HPB.out HB.out) HRO.out (fun k h1 h2 => by have := h1.2; have := h2.1.1; omega))
   obtain ⟨okY, hX, hYD, hYG, hYB, hYN⟩ : ∃ okY : Nat → Prop, (Res.sep (Res.sep (PTape gt T) (PJour gj gt J)) (RecR (.slice Ao l.length co) l)).P okY wr ∧ (∀ k, okY k → (ok k ∧ k < W.heap.size) ∨ W.heap.size ≤ k) ∧ (¬ okY W.heap.size) ∧ (∀ k, ((W.heap.size + 1 ≤ k ∧ fb k) ∧ k < wr.heap.size) → ¬ okY k) ∧ (∀ k, wr.heap.size ≤ k → okY k) := by
    refine ⟨fun k => ((ok k ∧ k < W.heap.size) ∨ ((W.heap.size + 1 ≤ k ∧ ¬ fb k) ∧ k < wr.heap.size)) ∨ wr.heap.size ≤ k, Res.mono _ (fun k hk => .inl hk) HX.out, fun k hk => ?_, fun hh => ?_, fun k h1 h2 => ?_, fun k hk => .inr hk⟩
    ·rcases hk with (h | h) | h
     ·exact .inl h
     ·exact .inr (Nat.le_of_succ_le h.1.1)
     ·exact .inr (Nat.le_trans HB.out.size h)
    ·rcases hh with (h | h) | h
     ·exact Nat.lt_irrefl _ h.2
     ·exact Nat.not_succ_le_self _ h.1.1
     ·have := blk_lt HG.out
      omega
    ·rcases h2 with (h | h) | h
     ·have := h.2; have := h1.1.1; omega
     ·exact h.1.2 h1.1.2
     ·have := h1.2; omega
   have HYD := Aside0.mk hYD
   have HYG := Aside0.mk hYG
   have HYB := Aside0.mk hYB
   have HYN := Aside0.mk hYN
   have HX0 := Aside0.mk hX
   have HK0 := Aside0.mk (Keeps.of_below HB.out (fun k => ok k ∧ k < W.heap.size))
   have HS0 := Aside0.mk (Nat.le_refl wr.heap.size)
   clear hX hYD hYG hYB hYN HX HRO
   obtain ⟨od, eod⟩ : ∃ od, 1 - J.side = od := ⟨_, rfl⟩
   have hodr : 0 ≤ 1 - J.side ∧ 1 - J.side ≤ 1 := by have := HSD.out; omega
   have wod : wrap64 (1 - J.side) = od := by rw [← eod]; exact w64' (by omega) (by omega)
   have HOD := Aside0.mk eod
   rw [eod] at HM1
   clear hfb hfo HS HBB HM HLN HLJ hj hjl eod hodr
   have hj0 := pw_cell_below HB.out HJK.out.1
   have hj1 := pw_cell_below HB.out HJK.out.2.1
   have HBG := Aside0.mk HRBB.out
   go_wp2_with fail
   obtain ⟨okt1, okj1, htp, hJ, hap, hts, htb⟩ := sep_deep HX0.out
   have HTB := Aside0.mk @htb
   have HGT := Aside0.mk (show ¬ okt1 W.heap.size from fun hk => HYG.out (hts _ hk).1)
   have HBT := Aside0.mk (show ∀ k, ((W.heap.size + 1 ≤ k ∧ fb k) ∧ k < wr.heap.size) → ¬ okt1 k from fun k h1 h2 => HYB.out k h1 (hts _ h2).1)
   clear hap hts htb hJ
   refine (tape_Clear.calls gt T N HT.out (by have := HNN.out; omega) od wr okt1 htp).mono ?_
   rintro e wa ⟨rfl, ht⟩
   have HT1 := Aside0.mk (HTB.out ht)
   have HG1 := Aside0.mk (show wa.heap[W.heap.size]? = some (.cells #[.int .i64 0] 26 (0, 0)) from (ht.1.block _ (blk_lt HG.out) HGT.out).trans HG.out)
   have HBG1 := Aside0.mk (Kd.R_step HBG.out (fun k hk hlt => ht.1.block k hlt (HBT.out k hk)))
   have HS1 := Aside0.mk (show wr.heap.size ≤ wa.heap.size from Nat.le_trans HS0.out ht.1.size)
   have HX1 := Aside0.mk (Res.mono _ (fun k hk => hk.elim id (fun h => HYN.out k (Nat.le_trans HS0.out h))) HT1.out.2)
   have HK1 := Aside0.mk (HK0.out.then_ HT1.out.1 (fun k hk => HYD.out k hk))
   obtain ⟨T1, eT1⟩ : ∃ x, T.trim od 0 = x := ⟨_, rfl⟩
   have HTO1 := Aside0.mk (show T1.Ok (N + 1) from eT1 ▸ TM.trim_ok HT.out od 0)
   rw [eT1] at HX1 HM1
   obtain ⟨e1, ee⟩ : ∃ x, T.trimE od 0 = x := ⟨_, rfl⟩
   rw [ee] at HM1 ⊢
   clear ht HTB HGT HBT htp HT1 eT1 ee y0 g0 hj0 hj1
   obtain ⟨y0, g0⟩ := blk_all1 HG1.out
   by_cases h1 : e1 ≠ 0
   ·have c1 : (e1 != 0) = true := by simp [h1]
    have c2 : (e1 == 0) = false := by simp [h1]
    have HME := Aside0.mk (HM1.out.trans (if_pos h1))
    clear h1
    go_wp2_with fail
    refine jour_leave (gt := gt) (T := T1) (J := J) (ok := okY) (err0 := 0) rfl (sep_step (sep_drop HX1.out) HYG.out _) HBR.out HYG.out (by rw [blk_cell (blk_set HG1.out 0 _)]; rfl) rfl (fun w'' ht => ?_)
    rw [HME.out]
    have k5 := Keeps.set HK1.out (p := ⟨W.heap.size, 0, none⟩) (.inr (Nat.le_refl _)) (.int .i64 e1)
    exact ⟨rfl, (k5.mono (fun k _ hk => hk.1)).then_ ht.1 (fun k hk => (HYD.out k hk).imp (·.1) id), Res.mono _ (fun k hk => hk.elim (fun h => (HYD.out k h).imp (·.1) id) (fun h => .inr (Nat.le_trans k5.size h))) ht.2⟩
   have c1 : (e1 != 0) = false := by simpa using h1
   have c2 : (e1 == 0) = true := by simpa using h1
   have HM2 := Aside0.mk (HM1.out.trans (if_neg h1))
   have he0 : e1 = 0 := by omega
   subst he0
   clear h1 HM1 c1 c2
   obtain ⟨okja, hJa⟩ : ∃ okj, (PJour gj gt J).P okj wa := (sep_snd (sep_drop HX1.out)).imp fun _ h => h.1
   obtain ⟨Aa, ca, hCa, _⟩ := jour_open hJa
   obtain ⟨z0, z1, z2, z3, z4, z5, p0, p1, p2, p3, p4, p5⟩ := blk_all6 (jour_blk hCa)
   clear hJa hCa
   go_wp2_with fail
   obtain ⟨okt2, okj2, htp, hJ, hap, hts, htb⟩ := sep_deep HX1.out
   have HTB := Aside0.mk @htb
   have HGT := Aside0.mk (show ¬ okt2 W.heap.size from fun hk => HYG.out (hts _ hk).1)
   have HBT := Aside0.mk (show ∀ k, ((W.heap.size + 1 ≤ k ∧ fb k) ∧ k < wr.heap.size) → ¬ okt2 k from fun k h1 h2 => HYB.out k h1 (hts _ h2).1)
   clear hap hts htb hJ
   refine (tape_Write.calls gt T1 (N + 1) HTO1.out (by have := HNN.out; omega) od Ab cb bb wa okt2 htp (fun W' hk => (Kd.R_reads' (Kd.R_step HBG1.out (fun k hk2 hlt => hk.block k hlt (HBT.out k hk2)))).2.2) (by have := HSM.out; omega)).mono ?_
   rintro e wb ⟨rfl, ht⟩
   have HT2 := Aside0.mk (HTB.out ht)
   have HG2 := Aside0.mk (show wb.heap[W.heap.size]? = some (.cells #[.int .i64 0] 26 (0, 0)) from (ht.1.block _ (blk_lt HG1.out) HGT.out).trans HG1.out)
   have HBG2 := Aside0.mk (Kd.R_step HBG1.out (fun k hk hlt => ht.1.block k hlt (HBT.out k hk)))
   have HS2 := Aside0.mk (show wr.heap.size ≤ wb.heap.size from Nat.le_trans HS1.out ht.1.size)
   have HX2 := Aside0.mk (Res.mono _ (fun k hk => hk.elim id (fun h => HYN.out k (Nat.le_trans HS1.out h))) HT2.out.2)
   have HK2 := Aside0.mk (HK1.out.then_ HT2.out.1 (fun k hk => HYD.out k hk))
   obtain ⟨T2, eT2⟩ : ∃ x, T1.write od bb = x := ⟨_, rfl⟩
   have HTO2 := Aside0.mk (show T2.Ok (N + 1 + bb.length) from eT2 ▸ TM.write_ok HTO1.out od bb)
   rw [eT2] at HX2 HM2
   obtain ⟨e2, ee⟩ : ∃ x, T1.writeE od bb = x := ⟨_, rfl⟩
   rw [ee] at HM2 ⊢
   clear ht HTB HGT HBT htp HT2 eT2 ee y0 g0 z0 z1 z2 z3 z4 z5 p0 p1 p2 p3 p4 p5
   obtain ⟨y0, g0⟩ := blk_all1 HG2.out
   by_cases h1 : e2 ≠ 0
   ·have c1 : (e2 != 0) = true := by simp [h1]
    have c2 : (e2 == 0) = false := by simp [h1]
    have HME := Aside0.mk (HM2.out.trans (if_pos h1))
    clear h1
    go_wp2_with fail
    refine jour_leave (gt := gt) (T := T2) (J := J) (ok := okY) (err0 := 0) rfl (sep_step (sep_drop HX2.out) HYG.out _) HBR.out HYG.out (by rw [blk_cell (blk_set HG2.out 0 _)]; rfl) rfl (fun w'' ht => ?_)
    rw [HME.out]
    have k5 := Keeps.set HK2.out (p := ⟨W.heap.size, 0, none⟩) (.inr (Nat.le_refl _)) (.int .i64 e2)
    exact ⟨rfl, (k5.mono (fun k _ hk => hk.1)).then_ ht.1 (fun k hk => (HYD.out k hk).imp (·.1) id), Res.mono _ (fun k hk => hk.elim (fun h => (HYD.out k h).imp (·.1) id) (fun h => .inr (Nat.le_trans k5.size h))) ht.2⟩
   have c1 : (e2 != 0) = false := by simpa using h1
   have c2 : (e2 == 0) = true := by simpa using h1
   have HM3 := Aside0.mk (HM2.out.trans (if_neg h1))
   have he0 : e2 = 0 := by omega
   subst he0
   clear h1 HM2 c1 c2
   obtain ⟨okja, hJa⟩ : ∃ okj, (PJour gj gt J).P okj wb := (sep_snd (sep_drop HX2.out)).imp fun _ h => h.1
   obtain ⟨Aa, ca, hCa, _⟩ := jour_open hJa
   obtain ⟨z0, z1, z2, z3, z4, z5, p0, p1, p2, p3, p4, p5⟩ := blk_all6 (jour_blk hCa)
   clear hJa hCa
   go_wp2_with fail
   obtain ⟨okt3, okj3, htp, hJ, hap, hts, htb⟩ := sep_deep HX2.out
   have HTB := Aside0.mk @htb
   have HGT := Aside0.mk (show ¬ okt3 W.heap.size from fun hk => HYG.out (hts _ hk).1)
   have HBT := Aside0.mk (show ∀ k, ((W.heap.size + 1 ≤ k ∧ fb k) ∧ k < wr.heap.size) → ¬ okt3 k from fun k h1 h2 => HYB.out k h1 (hts _ h2).1)
   clear hap hts htb hJ
   refine (tape_Sync.calls gt T2 (N + 1 + bb.length) HTO2.out wb okt3 htp).mono ?_
   rintro e wc ⟨rfl, ht⟩
   have HT3 := Aside0.mk (HTB.out ht)
   have HG3 := Aside0.mk (show wc.heap[W.heap.size]? = some (.cells #[.int .i64 0] 26 (0, 0)) from (ht.1.block _ (blk_lt HG2.out) HGT.out).trans HG2.out)
   have HBG3 := Aside0.mk (Kd.R_step HBG2.out (fun k hk hlt => ht.1.block k hlt (HBT.out k hk)))
   have HS3 := Aside0.mk (show wr.heap.size ≤ wc.heap.size from Nat.le_trans HS2.out ht.1.size)
   have HX3 := Aside0.mk (Res.mono _ (fun k hk => hk.elim id (fun h => HYN.out k (Nat.le_trans HS2.out h))) HT3.out.2)
   have HK3 := Aside0.mk (HK2.out.then_ HT3.out.1 (fun k hk => HYD.out k hk))
   obtain ⟨T3, eT3⟩ : ∃ x, T2.sync = x := ⟨_, rfl⟩
   have HTO3 := Aside0.mk (show T3.Ok (N + 1 + bb.length) from eT3 ▸ TM.sync_ok HTO2.out)
   rw [eT3] at HX3 HM3
   obtain ⟨e3, ee⟩ : ∃ x, T2.ready 0 = x := ⟨_, rfl⟩
   rw [ee] at HM3 ⊢
   clear ht HTB HGT HBT htp HT3 eT3 ee y0 g0 z0 z1 z2 z3 z4 z5 p0 p1 p2 p3 p4 p5
   obtain ⟨y0, g0⟩ := blk_all1 HG3.out
   by_cases h1 : e3 ≠ 0
   ·have c1 : (e3 != 0) = true := by simp [h1]
    have c2 : (e3 == 0) = false := by simp [h1]
    have HME := Aside0.mk (HM3.out.trans (if_pos h1))
    clear h1
    go_wp2_with fail
    refine jour_leave (gt := gt) (T := T3) (J := J) (ok := okY) (err0 := 0) rfl (sep_step (sep_drop HX3.out) HYG.out _) HBR.out HYG.out (by rw [blk_cell (blk_set HG3.out 0 _)]; rfl) rfl (fun w'' ht => ?_)
    rw [HME.out]
    have k5 := Keeps.set HK3.out (p := ⟨W.heap.size, 0, none⟩) (.inr (Nat.le_refl _)) (.int .i64 e3)
    exact ⟨rfl, (k5.mono (fun k _ hk => hk.1)).then_ ht.1 (fun k hk => (HYD.out k hk).imp (·.1) id), Res.mono _ (fun k hk => hk.elim (fun h => (HYD.out k h).imp (·.1) id) (fun h => .inr (Nat.le_trans k5.size h))) ht.2⟩
   have c1 : (e3 != 0) = false := by simpa using h1
   have c2 : (e3 == 0) = true := by simpa using h1
   have HM4 := Aside0.mk (HM3.out.trans (if_neg h1))
   have he0 : e3 = 0 := by omega
   subst he0
   clear h1 HM3 c1 c2
   obtain ⟨va, hXa⟩ := sep_exr2 HX3.out
   have hXg := sep_give hXa 0
   obtain ⟨okj, hCj, hjs, hjb⟩ := sep_right hXg
   have HCJ := Aside0.mk hCj
   have HJB := Aside0.mk @hjb
   have HJO := Aside0.mk (show okj gj from obj_ok hCj)
   have hne : ¬ W.heap.size = gj := fun he => HYG.out (he ▸ (hjs gj (obj_ok hCj)).1)
   have hne' : ¬ gj = W.heap.size := fun he => hne he.symm
   obtain ⟨z0, z1, z2, z3, z4, z5, p0, p1, p2, p3, p4, p5⟩ := blk_all6 (jour_blk' hCj)
   clear hXa hXg hjs hjb hCj
   go_wp2_with fail
   have h1 := obj_set HCJ.out 1 (.int .i64 od)
   have h2 := obj_set h1.1 2 (.int .i64 (J.g + 1))
   have h3 := obj_set h2.1 3 (.slice Ao l.length co)
   have h4 := obj_set h3.1 4 (.int .i64 (bb.length : Int))
   have HS4 := HJB.out (show Turned okj wc _ (PJour gj gt ⟨od, J.g + 1, l, (bb.length : Int), J.broken⟩) from ⟨((h1.2.then_ h2.2 (fun k hk => .inl hk)).then_ h3.2 (fun k hk => .inl hk)).then_ h4.2 (fun k hk => .inl hk), (PJour gj gt _).mono (fun k hk => .inl hk) (jour_mk (J := ⟨od, J.g + 1, l, (bb.length : Int), J.broken⟩) h4.1)⟩)
   have hX4 := Res.mono (Res.sep (PTape gt T3) (PJour gj gt ⟨od, J.g + 1, l, (bb.length : Int), J.broken⟩)) (ok' := okY) (fun k hk => hk.elim id (fun h => HYN.out k (Nat.le_trans HS3.out h))) HS4.2
   have HG4 := ((Below.heap_setCell _ ⟨gj, 4, none⟩ (.int .i64 (bb.length : Int)) _ hne).trans ((Below.heap_setCell _ ⟨gj, 3, none⟩ (.slice Ao l.length co) _ hne).trans ((Below.heap_setCell _ ⟨gj, 2, none⟩ (.int .i64 (J.g + 1)) _ hne).trans (Below.heap_setCell wc ⟨gj, 1, none⟩ (.int .i64 od) _ hne)))).trans HG3.out
   refine jour_leave (gt := gt) (T := T3) (J := ⟨od, J.g + 1, l, (bb.length : Int), J.broken⟩) (ok := okY) (err0 := 0) rfl (sep_step hX4 HYG.out _) HBR.out HYG.out (by rw [blk_cell (blk_set HG4 0 _)]; rfl) rfl (fun w'' ht => ?_)
   rw [HM4.out]
   have k5 := Keeps.set (HK3.out.then_ HS4.1 (fun k hk => HYD.out k hk)) (p := ⟨W.heap.size, 0, none⟩) (.inr (Nat.le_refl _)) (.int .i64 0)
   have h12 := ht.2
   rw [show brk 0 = false from rfl] at h12
   exact ⟨rfl, (k5.mono (fun k _ hk => hk.1)).then_ ht.1 (fun k hk => (HYD.out k hk).imp (·.1) id), Res.mono _ (fun k hk => hk.elim (fun h => (HYD.out k h).imp (·.1) id) (fun h => .inr (Nat.le_trans k5.size h))) h12⟩
theorem jour_Renew.calls (gj gt : Nat) (T : TM) (N : Nat) (hT : T.Ok N) (hN : N + 70000 ≤ 1000000000) (J : JM) (hsd : J.side = 0 ∨ J.side = 1) (A : Option Addr) (c : Nat) (l : List (List Int)) (W : World) (ok : Nat → Prop) (hP : (Res.sep (PTape gt T) (PJour gj gt J)).P ok W) (hQ : ∀ W', Keeps W W' ok → Kd.C (Kd.slice 5 (Kd.int .u8)) W' A l.length l) (hl : l.length ≤ 1000000) (hg : 0 ≤ J.g) :
  Calls Try.prog 12 #[.pointer (some ⟨gj, 0, none⟩), .slice A l.length c] W fun e W' => e = .returned (.int .i64 (renewM T J l).1) ∧ Turned ok W W' (Res.sep (PTape gt (renewM T J l).2.1) (PJour gj gt (renewM T J l).2.2)) := by
 by_cases hb : J.broken = true
 ·have he : renewM T J l = (40, T, J) := by unfold renewM; rw [if_pos hb]
  rw [he]
  exact (jour_Renew.broken gj gt T J A c l W ok hP hb).mono fun e W' hh => ⟨hh.1, (Turned.refl hP).on hh.2⟩
 have hb' : J.broken = false := by simpa using hb
 by_cases hr : 4000 < l.length ∨ 1099511627776 ≤ J.g ∨ ¬ (∀ r ∈ l, isRec r = true)
 ·have he : renewM T J l = (1, T, J) := by unfold renewM; rw [if_neg hb, if_pos hr]
  rw [he]
  exact (jour_Renew.arg gj gt T J A c l W ok hP (hQ W (Keeps.refl _ _)) hl hb' hr).mono fun e W' hh => ⟨hh.1, (Turned.refl hP).on hh.2⟩
 simp only [not_or] at hr
 exact jour_Renew.yes gj gt T N hT hN J hsd A c l W ok hP hQ hb' (by omega) ⟨hg, by omega⟩ (Classical.not_not.1 hr.2.2)
end Go.Proofs.Ytmfmoddaejoekaa.P
