/- Contracts, typed by hand and by a program: a journal is opened. -/
import Derived.Test.YtmfmoddaejoekaaHMade
set_option linter.unusedVariables false
set_option linter.unusedSimpArgs false
namespace Go.Proofs.Ytmfmoddaejoekaa.P
open Go.RowKit Go.Proofs.YtmfmoddaejoekaaW.PrintWords Go.Proofs.YtmfmoddaejoekaaW.PrintLast Go.Proofs.YtmfmoddaejoekaaW.PrintMore
theorem hcut_fromR (q : Nat) (A : Option Addr) (n c : Nat) (h : q ≤ n) : ∀ W : World, (Instr.slice 29 (.slice A n c) (some (.int .i64 (q : Int))) none none).run Try.prog W = .ok (.slice (if c = q then A else A.map (·.add (q * 1))) (n - q) (c - q)) W := by
 obtain ⟨i0, hi, _, hs, _⟩ := info_parts info30
 have := cut_from (P := Try.prog) 29 30 .i64 Try.underlying29 hi 1 hs A n c (q : Int) (by omega) (by omega)
 simpa using this
theorem numAt_low (b : List Int) (p e least most : Int) (h0 : 0 ≤ least) : 0 ≤ (numAt b p e least most).1 := by
 unfold numAt
 split
 ·split
  ·split
   ·exact Int.le_refl _
   ·split
    ·exact Int.le_refl _
    ·simp only
     omega
  ·exact Int.le_refl _
 ·exact Int.le_refl _
theorem countM_low (L : List (List Int)) : 0 ≤ (countM L).2 ∧ (0 < (countM L).2 → 1 ≤ L.length) := by
 cases L with
 | nil => exact ⟨Int.le_refl _, fun h => absurd h (by decide)⟩
 | cons r L' =>
  refine ⟨?_, fun _ => by simp⟩
  simp only [countM]
  by_cases h1 : (headM r).2.2 ≠ 0
  ·rw [if_pos h1]; exact Int.le_refl _
  ·rw [if_neg h1]
   by_cases h2 : (headM r).2.1 < ((r :: L').length : Int)
   ·rw [if_pos h2]; exact numAt_low r 0 0 1 1099511627776 (by decide)
   ·rw [if_neg h2]; exact Int.le_refl _
theorem sideM_low (b : List Int) : 0 ≤ (sideM b).2.2.2.1 ∧ (0 < (sideM b).2.2.2.1 → 1 ≤ (sideM b).1.length) := by
 unfold sideM
 split
 ·exact ⟨Int.le_refl _, fun h => absurd h (by decide)⟩
 ·exact countM_low _
theorem readJ_len : ∀ (k : Nat) (b : List Int), (readJ k b).1.length ≤ b.length
 | 0, b => Nat.zero_le _
 | k + 1, b => by
  simp only [readJ]
  split
  ·rename_i h
   have h3 := next3 h
   have := readJ_len k (b.drop (nJ b + 4))
   rw [List.length_drop] at this
   simp only [List.length_cons]
   omega
  ·exact Nat.zero_le _
theorem sideM_len (b : List Int) : (sideM b).1.length ≤ b.length := by
 unfold sideM
 split
 ·exact Nat.zero_le _
 ·exact readJ_len _ _
def Opn (W : World) (L0 L1 : List (List Int)) (z0 z1 : Int) (q0 q1 : Bool) (g0 g1 : Int) (r0 r1 : Bool) (j : Nat) (wr : World) : Prop :=
 Below W.heap.size W wr ∧
 ((j = 0 ∧ wr.heap[W.heap.size]? = some (.cells #[.slice none 0 0, .int .i64 0, .bool false, .int .i64 0, .slice none 0 0, .int .i64 0, .bool false, .int .i64 0] 65 (0, 0))) ∨
 (j = 1 ∧ r0 = true ∧ ∃ A0 c0, wr.heap[W.heap.size]? = some (.cells #[.slice A0 L0.length c0, .int .i64 z0, .bool q0, .int .i64 g0, .slice none 0 0, .int .i64 0, .bool false, .int .i64 0] 65 (0, 0)) ∧ (Kd.slice 5 (Kd.int .u8)).R 30 wr 0 (fun k => W.heap.size + 1 ≤ k) (.slice A0 L0.length c0) L0) ∨
 (j = 2 ∧ r0 = true ∧ r1 = true ∧ ∃ A0 c0 A1 c1, wr.heap[W.heap.size]? = some (.cells #[.slice A0 L0.length c0, .int .i64 z0, .bool q0, .int .i64 g0, .slice A1 L1.length c1, .int .i64 z1, .bool q1, .int .i64 g1] 65 (0, 0)) ∧ (Kd.slice 5 (Kd.int .u8)).R 30 wr 0 (fun k => W.heap.size + 1 ≤ k) (.slice A0 L0.length c0) L0 ∧ (Kd.slice 5 (Kd.int .u8)).R 30 wr 0 (fun k => W.heap.size + 1 ≤ k) (.slice A1 L1.length c1) L1))
theorem opn_end {g gj : Nat} {T : TM} {p gg z : Int} {L : List (List Int)} {v : Value} {ok okY : Nat → Prop} {W w : World} {N4 : Nat} (hX : (PTape g T).P okY w) (hY : ∀ k, okY k → (ok k ∧ k < W.heap.size) ∨ (W.heap.size ≤ k ∧ gj < k))
  (hgj : N4 ≤ gj) (hN : W.heap.size ≤ N4) (hJ : w.heap[gj]? = some (.cells #[.pointer (some ⟨g, 0, none⟩), .int .i64 p, .int .i64 gg, v, .int .i64 z, .bool false] 71 (0, 0)))
  (hQ : (Kd.slice 5 (Kd.int .u8)).Q 30 w 0 (fun k => W.heap.size + 1 ≤ k ∧ k < N4) v L) : (Res.sep (PTape g T) (PJour gj g ⟨p, gg, L, z, false⟩)).P (fun k => ok k ∨ W.heap.size ≤ k) w := by
 refine Res.mono _ (fun k hk => ?_) (sep_mk hX (jour_mk (J := ⟨p, gg, L, z, false⟩) (v := v) (ok := fun k => W.heap.size ≤ k ∧ k ≤ gj) ⟨⟨Nat.le_trans hN hgj, Nat.le_refl _⟩, hJ, fun _ => 0, fun i R hi => ?_⟩) (fun k h1 h2 => ?_))
 ·rcases hk with h | h
  ·exact (hY k h).imp (·.1) (·.1)
  ·exact .inr h.1
 ·match i, hi with
  | 0, hi =>
   cases hi
   exact Kd.Q_mono (Kd.Q_bound hQ) (fun k hk => ⟨⟨⟨Nat.le_of_succ_le hk.1.1, by have := hk.1.2; omega⟩, hk.2.2.1⟩, by have := hk.1.2; omega, rfl⟩)
 ·rcases hY k h1 with h | h
  ·have := h.2; have := h2.1; omega
  ·have := h.2; have := h2.2; omega
set_option maxHeartbeats 4000000 in
set_option maxRecDepth 100000 in
theorem journal_Open.nil (W : World) : Calls Try.prog 9 #[.pointer none] W fun e W' => e = .returned (.tuple #[.pointer none, .int .i64 1]) ∧ W = W' := by
 go_enter Try.func9, Try.ntmps9
 go_wp2_with fail
 go_ret2
 exact ⟨rfl, rfl⟩
set_option maxHeartbeats 16000000 in
set_option maxRecDepth 100000 in
theorem journal_Open.no (g : Nat) (T : TM) (W : World) (ok : Nat → Prop) (hP : (PTape g T).P ok W) (hr : T.ready 0 ≠ 0) :
  Calls Try.prog 9 #[.pointer (some ⟨g, 0, none⟩)] W fun e W' => e = .returned (.tuple #[.pointer none, .int .i64 (T.ready 0)]) ∧ Below W.heap.size W W' := by
 have HP := Aside0.mk hP
 have HRD := Aside0.mk hr
 obtain ⟨r, er⟩ : ∃ r, T.ready 0 = r := ⟨_, rfl⟩
 have HER := Aside0.mk er
 rw [er] at hr
 have b1 : (r != 0) = true := by simp [hr]
 have b2 : (r == 0) = false := by simp [hr]
 rw [er]
 clear hP hr er
 go_enter Try.func9, Try.ntmps9
 go_wp2_with fail
 go_loopw [18] (fun s18 wr => s18 = .int .i64 0 ∧ Aside0 (Below W.heap.size W wr)) (fun s18 _ => 0)
 case atStart => exact ⟨rfl, ⟨below_alloc (Below.refl _ _) _⟩⟩
 case round =>
  obtain ⟨rfl, HB⟩ := hrel
  go_wp2_with fail
  refine (tape_Read.no g T 0 wr ok ((PTape g T).on HP.out HB.out) HRD.out).mono ?_
  rintro e w1 ⟨rfl, rfl⟩
  rw [HER.out]
  go_wp2_with fail
  go_ret2
  exact ⟨rfl, HB.out⟩
set_option maxHeartbeats 32000000 in
set_option maxRecDepth 100000 in
theorem journal_Open.yes (g : Nat) (T : TM) (N : Nat) (hT : T.Ok N) (hN : N + 9000 ≤ 1000000000) (W : World) (ok : Nat → Prop) (hP : (PTape g T).P ok W) (hr : T.ready 0 = 0) (hb0 : okB (T.now 0) = true) (hb1 : okB (T.now 1) = true) :
  Calls Try.prog 9 #[.pointer (some ⟨g, 0, none⟩)] W (OpenPost g ok W (openM T)) := by
 have HT := Aside0.mk hT
 have HNN := Aside0.mk hN
 have HPB := Aside0.mk (Res.bound _ hP)
 have HRDY0 := Aside0.mk hr
 have HRDY1 := Aside0.mk (show T.ready 1 = 0 from hr)
 have HOKB := Aside0.mk (And.intro hb0 hb1)
 have HNL := Aside0.mk (And.intro (hT.now_len 0 (by decide)) (hT.now_len 1 (by decide)))
 have hl0 := sideM_low (T.now 0)
 have hl1 := sideM_low (T.now 1)
 have hn0 := sideM_len (T.now 0)
 have hn1 := sideM_len (T.now 1)
 obtain ⟨L0, z0, q0, g0, r0, e0⟩ : ∃ a b c d e, sideM (T.now 0) = (a, b, c, d, e) := ⟨_, _, _, _, _, rfl⟩
 obtain ⟨L1, z1, q1, g1, r1, e1⟩ : ∃ a b c d e, sideM (T.now 1) = (a, b, c, d, e) := ⟨_, _, _, _, _, rfl⟩
 rw [e0] at hl0 hn0
 rw [e1] at hl1 hn1
 have HE0 := Aside0.mk e0
 have HE1 := Aside0.mk e1
 have HGL := Aside0.mk (And.intro hl0.1 hl1.1)
 have HNE0 := Aside0.mk hl0.2
 have HNE1 := Aside0.mk hl1.2
 have HLN := Aside0.mk (show L0.length ≤ 65536 ∧ L1.length ≤ 65536 from ⟨Nat.le_trans hn0 HNL.out.1, Nat.le_trans hn1 HNL.out.2⟩)
 clear hP hr hb0 hb1 hT hN hl0 hl1 hn0 hn1 e0 e1
 have hu64 := Try.underlying64
 have hu65 := Try.underlying65
 go_enter Try.func9, Try.ntmps9
 go_wp2_with fail
 go_loopw [18] (fun s18 wr => ∃ j : Nat, s18 = .int .i64 (j : Int) ∧ Aside0 (Opn W L0 L1 z0 z1 q0 q1 g0 g1 r0 r1 j wr)) (fun s18 _ => (3 - (intOf s18).toNat))
 case atStart => exact ⟨0, rfl, ⟨below_alloc (Below.refl _ _) _, .inl ⟨rfl, heap_alloc_new _ _⟩⟩⟩
 case round =>
  obtain ⟨j, rfl, HOP⟩ := hrel
  obtain ⟨hb, h⟩ := HOP.out
  have HB := Aside0.mk hb
  clear HOP hb
  rcases h with ⟨rfl, hg⟩ | ⟨rfl, hr0, A0, c0, hg, hrA⟩ | ⟨rfl, hr0, hr1, A0, c0, A1, c1, hg, hrA, hrB⟩
  ·skip
   have HG := Aside0.mk hg
   obtain ⟨x0, x1, x2, x3, x4, x5, x6, x7, _⟩ := blk_all8 hg
   clear hg
   go_wp2_with fail
   refine (tape_Read.yes g T 0 wr (fun k => ok k ∧ k < W.heap.size) (Res.on _ HPB.out HB.out) HRDY0.out (by decide) HNL.out.1).mono ?_
   rintro e w1 ⟨v1, rfl, hR1, hB1⟩
   obtain ⟨Ar, cr, ev1⟩ := Kd.R_slice hR1
   subst ev1
   have HR1 := Aside0.mk (Kd.R_reads' hR1).2
   have HB1 := Aside0.mk (below_step HB.out hB1)
   have HG1 := Aside0.mk ((hB1.block _ (blk_lt HG.out)).trans HG.out)
   have HD1 := Aside0.mk hB1
   clear hR1 hB1 x0 x1 x2 x3 x4 x5 x6 x7
   go_wp2_with fail
   refine (journal_parse.calls Ar cr (T.now 0) w1 HR1.out.2 HR1.out.1 HOKB.out.1 HNL.out.1).mono ?_
   rintro e w2 ⟨v2, rfl, hR2, hB2⟩
   rw [HE0.out] at hR2 ⊢
   obtain ⟨A0, c0, ev2⟩ := Kd.R_slice hR2
   subst ev2
   have HR2 := Aside0.mk (Kd.R_bound hR2)
   have HB2 := Aside0.mk (below_step HB1.out hB2)
   have HD2 := Aside0.mk (below_step HD1.out hB2)
   have HG2 := Aside0.mk ((hB2.block _ (blk_lt HG1.out)).trans HG1.out)
   obtain ⟨y0, y1, y2, y3, y4, y5, y6, y7, f0, f1, f2, f3, f4, f5, f6, f7⟩ := blk_all8 HG2.out
   have HW1 := Aside0.mk (Nat.le_of_lt_succ (Nat.lt_succ_of_le HD1.out.size))
   clear hR2 hB2
   obtain ⟨w3, e3⟩ : ∃ w3, w3 = w2.alloc (.cells #[.slice A0 L0.length c0, .int .i64 z0, .bool q0, .int .i64 g0] 64) := ⟨_, rfl⟩
   have HB3 := Aside0.mk (show Below w2.heap.size w2 w3 by rw [e3]; exact below_alloc (Below.refl _ _) _)
   have HX3 := Aside0.mk (show w3.heap[w2.heap.size]? = some (.cells #[.slice A0 L0.length c0, .int .i64 z0, .bool q0, .int .i64 g0] 64 (0, 0)) by rw [e3]; exact heap_alloc_new w2 _)
   obtain ⟨rb, erb⟩ : ∃ x, r0 = x := ⟨_, rfl⟩
   have HRB := Aside0.mk erb
   rw [erb]
   clear erb
   cases rb with
   | false =>
    have HM1 := Aside0.mk (show openM T = (41, T, none) by unfold openM; rw [if_neg (by rw [HRDY0.out]; decide), if_pos (by rw [HE0.out, HE1.out]; exact .inl HRB.out)])
    go_wp2_with fail
    go_ret2
    unfold OpenPost
    rw [HM1.out]
    exact ⟨rfl, (Turned.from (below_step HB2.out (below_alloc (Below.refl _ _) _)) (Turned.refl (Res.on _ HPB.out (below_step HB2.out (below_alloc (Below.refl _ _) _)))))⟩
   | true =>
    obtain ⟨hz0, hz1, hz2, hz3, hz4, hz5, hz6, hz7, hf0, hf1, hf2, hf3, hf4, hf5, hf6, hf7⟩ := blk_all8 (blk_alloc HG2.out (.cells #[.slice A0 L0.length c0, .int .i64 z0, .bool q0, .int .i64 g0] 64))
    clear y0 y1 y2 y3 y4 y5 y6 y7 f0 f1 f2 f3 f4 f5 f6 f7 hz4 hz5 hz6 hz7 hf4 hf5 hf6 hf7
    go_wp2_with fail
    rw [← e3]
    have HG3 := Aside0.mk ((HB3.out.block _ (blk_lt HG2.out)).trans HG2.out)
    have HR3 := Aside0.mk (Kd.R_below HR2.out HB3.out)
    clear hz0 hz1 hz2 hz3 hf0 hf1 hf2 hf3
    go_roundw
    case rel =>
     have gA := blk_put HG3.out 0 (.slice A0 L0.length c0) rfl
     have gB := blk_put gA 1 (.int .i64 z0) rfl
     have gC := blk_put gB 2 (.bool q0) rfl
     have gD := blk_put gC 3 (.int .i64 g0) rfl
     have k0 := Keeps.of_below (below_step HB2.out HB3.out) (fun _ => False)
     have k1 := Keeps.set k0 (p := ⟨W.heap.size, 0, none⟩) (.inr (Nat.le_refl _)) (.slice A0 L0.length c0)
     have k2 := Keeps.set k1 (p := ⟨W.heap.size, 1, none⟩) (.inr (Nat.le_refl _)) (.int .i64 z0)
     have k3 := Keeps.set k2 (p := ⟨W.heap.size, 2, none⟩) (.inr (Nat.le_refl _)) (.bool q0)
     have k4 := Keeps.set k3 (p := ⟨W.heap.size, 3, none⟩) (.inr (Nat.le_refl _)) (.int .i64 g0)
     have hlt := blk_lt HG.out
     have far : ∀ {L : List (List Int)} {v : Value}, (Kd.slice 5 (Kd.int .u8)).R 30 w3 0 (fun k => W.heap.size + 1 ≤ k) v L → (Kd.slice 5 (Kd.int .u8)).R 30 ((((w3.setCell ⟨W.heap.size, 0, none⟩ (.slice A0 L0.length c0)).setCell ⟨W.heap.size, 1, none⟩ (.int .i64 z0)).setCell ⟨W.heap.size, 2, none⟩ (.bool q0)).setCell ⟨W.heap.size, 3, none⟩ (.int .i64 g0)) 0 (fun k => W.heap.size + 1 ≤ k) v L := fun h =>
      Kd.R_far (p := ⟨W.heap.size, 3, none⟩) (Kd.R_far (p := ⟨W.heap.size, 2, none⟩) (Kd.R_far (p := ⟨W.heap.size, 1, none⟩) (Kd.R_far (p := ⟨W.heap.size, 0, none⟩) h (fun k hk he => Nat.not_succ_le_self _ (he ▸ hk)) _) (fun k hk he => Nat.not_succ_le_self _ (he ▸ hk)) _) (fun k hk he => Nat.not_succ_le_self _ (he ▸ hk)) _) (fun k hk he => Nat.not_succ_le_self _ (he ▸ hk)) _
     have hrow : (Kd.slice 5 (Kd.int .u8)).R 30 w3 0 (fun k => W.heap.size + 1 ≤ k) (.slice A0 L0.length c0) L0 := Kd.R_mono HR3.out (fun k hk => by have := hk.1; have := HD1.out.size; omega)
     exact ⟨1, by simp, ⟨k4.belowF, .inr (.inl ⟨rfl, HRB.out, A0, c0, gD, far hrow⟩)⟩⟩
    case measure => simp [intOf]
  ·skip
   have HG := Aside0.mk hg
   have HRA := Aside0.mk hrA
   have HRT0 := Aside0.mk hr0
   obtain ⟨x0, x1, x2, x3, x4, x5, x6, x7, _⟩ := blk_all8 hg
   clear hg hrA hr0
   go_wp2_with fail
   refine (tape_Read.yes g T 1 wr (fun k => ok k ∧ k < W.heap.size) (Res.on _ HPB.out HB.out) HRDY1.out (by decide) HNL.out.2).mono ?_
   rintro e w1 ⟨v1, rfl, hR1, hB1⟩
   obtain ⟨Ar, cr, ev1⟩ := Kd.R_slice hR1
   subst ev1
   have HR1 := Aside0.mk (Kd.R_reads' hR1).2
   have HB1 := Aside0.mk (below_step HB.out hB1)
   have HG1 := Aside0.mk ((hB1.block _ (blk_lt HG.out)).trans HG.out)
   have HD1 := Aside0.mk hB1
   clear hR1 hB1 x0 x1 x2 x3 x4 x5 x6 x7
   go_wp2_with fail
   refine (journal_parse.calls Ar cr (T.now 1) w1 HR1.out.2 HR1.out.1 HOKB.out.2 HNL.out.2).mono ?_
   rintro e w2 ⟨v2, rfl, hR2, hB2⟩
   rw [HE1.out] at hR2 ⊢
   obtain ⟨A1, c1, ev2⟩ := Kd.R_slice hR2
   subst ev2
   have HR2 := Aside0.mk (Kd.R_bound hR2)
   have HB2 := Aside0.mk (below_step HB1.out hB2)
   have HD2 := Aside0.mk (below_step HD1.out hB2)
   have HG2 := Aside0.mk ((hB2.block _ (blk_lt HG1.out)).trans HG1.out)
   obtain ⟨y0, y1, y2, y3, y4, y5, y6, y7, f0, f1, f2, f3, f4, f5, f6, f7⟩ := blk_all8 HG2.out
   have HW1 := Aside0.mk (Nat.le_of_lt_succ (Nat.lt_succ_of_le HD1.out.size))
   clear hR2 hB2
   obtain ⟨w3, e3⟩ : ∃ w3, w3 = w2.alloc (.cells #[.slice A1 L1.length c1, .int .i64 z1, .bool q1, .int .i64 g1] 64) := ⟨_, rfl⟩
   have HB3 := Aside0.mk (show Below w2.heap.size w2 w3 by rw [e3]; exact below_alloc (Below.refl _ _) _)
   have HX3 := Aside0.mk (show w3.heap[w2.heap.size]? = some (.cells #[.slice A1 L1.length c1, .int .i64 z1, .bool q1, .int .i64 g1] 64 (0, 0)) by rw [e3]; exact heap_alloc_new w2 _)
   obtain ⟨rb, erb⟩ : ∃ x, r1 = x := ⟨_, rfl⟩
   have HRB := Aside0.mk erb
   rw [erb]
   clear erb
   cases rb with
   | false =>
    have HM1 := Aside0.mk (show openM T = (41, T, none) by unfold openM; rw [if_neg (by rw [HRDY0.out]; decide), if_pos (by rw [HE0.out, HE1.out]; exact .inr HRB.out)])
    go_wp2_with fail
    go_ret2
    unfold OpenPost
    rw [HM1.out]
    exact ⟨rfl, (Turned.from (below_step HB2.out (below_alloc (Below.refl _ _) _)) (Turned.refl (Res.on _ HPB.out (below_step HB2.out (below_alloc (Below.refl _ _) _)))))⟩
   | true =>
    obtain ⟨hz0, hz1, hz2, hz3, hz4, hz5, hz6, hz7, hf0, hf1, hf2, hf3, hf4, hf5, hf6, hf7⟩ := blk_all8 (blk_alloc HG2.out (.cells #[.slice A1 L1.length c1, .int .i64 z1, .bool q1, .int .i64 g1] 64))
    clear y0 y1 y2 y3 y4 y5 y6 y7 f0 f1 f2 f3 f4 f5 f6 f7 hz0 hz1 hz2 hz3 hf0 hf1 hf2 hf3
    go_wp2_with fail
    rw [← e3]
    have HG3 := Aside0.mk ((HB3.out.block _ (blk_lt HG2.out)).trans HG2.out)
    have HR3 := Aside0.mk (Kd.R_below HR2.out HB3.out)
    clear hz4 hz5 hz6 hz7 hf4 hf5 hf6 hf7
    go_roundw
    case rel =>
     have gA := blk_put HG3.out 4 (.slice A1 L1.length c1) rfl
     have gB := blk_put gA 5 (.int .i64 z1) rfl
     have gC := blk_put gB 6 (.bool q1) rfl
     have gD := blk_put gC 7 (.int .i64 g1) rfl
     have k0 := Keeps.of_below (below_step HB2.out HB3.out) (fun _ => False)
     have k1 := Keeps.set k0 (p := ⟨W.heap.size, 4, none⟩) (.inr (Nat.le_refl _)) (.slice A1 L1.length c1)
     have k2 := Keeps.set k1 (p := ⟨W.heap.size, 5, none⟩) (.inr (Nat.le_refl _)) (.int .i64 z1)
     have k3 := Keeps.set k2 (p := ⟨W.heap.size, 6, none⟩) (.inr (Nat.le_refl _)) (.bool q1)
     have k4 := Keeps.set k3 (p := ⟨W.heap.size, 7, none⟩) (.inr (Nat.le_refl _)) (.int .i64 g1)
     have hlt := blk_lt HG.out
     have far : ∀ {L : List (List Int)} {v : Value}, (Kd.slice 5 (Kd.int .u8)).R 30 w3 0 (fun k => W.heap.size + 1 ≤ k) v L → (Kd.slice 5 (Kd.int .u8)).R 30 ((((w3.setCell ⟨W.heap.size, 4, none⟩ (.slice A1 L1.length c1)).setCell ⟨W.heap.size, 5, none⟩ (.int .i64 z1)).setCell ⟨W.heap.size, 6, none⟩ (.bool q1)).setCell ⟨W.heap.size, 7, none⟩ (.int .i64 g1)) 0 (fun k => W.heap.size + 1 ≤ k) v L := fun h =>
      Kd.R_far (p := ⟨W.heap.size, 7, none⟩) (Kd.R_far (p := ⟨W.heap.size, 6, none⟩) (Kd.R_far (p := ⟨W.heap.size, 5, none⟩) (Kd.R_far (p := ⟨W.heap.size, 4, none⟩) h (fun k hk he => Nat.not_succ_le_self _ (he ▸ hk)) _) (fun k hk he => Nat.not_succ_le_self _ (he ▸ hk)) _) (fun k hk he => Nat.not_succ_le_self _ (he ▸ hk)) _) (fun k hk he => Nat.not_succ_le_self _ (he ▸ hk)) _
     have hrow : (Kd.slice 5 (Kd.int .u8)).R 30 w3 0 (fun k => W.heap.size + 1 ≤ k) (.slice A1 L1.length c1) L1 := Kd.R_mono HR3.out (fun k hk => by have := hk.1; have := HD1.out.size; omega)
     exact ⟨2, by simp, ⟨k4.belowF, .inr (.inr ⟨rfl, HRT0.out, HRB.out, A0, c0, A1, c1, gD, far (Kd.R_below HRA.out (below_step HD2.out HB3.out)), far hrow⟩)⟩⟩
    case measure => simp [intOf]
  ·have HG := Aside0.mk hg
   have HRT := Aside0.mk (And.intro hr0 hr1)
   have HRA := Aside0.mk hrA
   have HRB := Aside0.mk hrB
   obtain ⟨x0, x1, x2, x3, x4, x5, x6, x7, _⟩ := blk_all8 hg
   clear hg hr0 hr1 hrA hrB
   go_wp2_with fail
   obtain ⟨w4, e4⟩ : ∃ w4, w4 = wr.drew := ⟨_, rfl⟩
   have HD4 := Aside0.mk (show Below wr.heap.size wr w4 by rw [e4]; exact below_drew (Below.refl _ _))
   have hc3 := pw_cell_below HD4.out x3
   have hc7 := pw_cell_below HD4.out x7
   clear x0 x1 x2 x3 x4 x5 x6 x7
   refine start_ (n := 8) (S := fun w' => w'.cell? ⟨W.heap.size, 3, none⟩ = some (.int .i64 g0) ∧ w'.cell? ⟨W.heap.size, 7, none⟩ = some (.int .i64 g1)) (ds := []) #[false, false, false, false, false, false, false, false] (by kernel_rfl) rfl rfl ⟨(by rw [← e4]; exact hc3), (by rw [← e4]; exact hc7)⟩ (fun hHeld => ?_)
   rw [← e4] at hHeld ⊢
   clear e4 hc3 hc7
   refine pure_ (i := 0) (N := some 41) (v := ?_) (a' := ?_) #[true, false, false, false, false, false, false, false] rfl rfl (by kernel_rfl) (fun _ _ _ h => h) (Or.inl ⟨by rfl, ?_⟩) ?_ ?_
   rotate_left
   ·intro w'
    go_simp
    with_reducible rfl
   rotate_left
   ·simp only [Act.put, List.setIfInBounds_toArray, List.set_cons_zero, List.set_cons_succ, i64_w, i32_w]
    rfl
   refine pure_ (i := 1) (N := some 42) (v := ?_) (a' := ?_) #[true, true, false, false, false, false, false, false] rfl rfl (by kernel_rfl) (fun _ _ _ h => h) (Or.inl ⟨by rfl, ?_⟩) ?_ ?_
   rotate_left
   ·intro w'
    go_simp
    with_reducible rfl
   rotate_left
   ·simp only [Act.put, List.setIfInBounds_toArray, List.set_cons_zero, List.set_cons_succ, i64_w, i32_w]
    rfl
   refine pure_ (i := 3) (N := some 44) (v := ?_) (a' := ?_) #[true, true, false, true, false, false, false, false] rfl rfl (by kernel_rfl) (fun _ _ _ h => h) (Or.inl ⟨by rfl, ?_⟩) ?_ ?_
   rotate_left
   ·intro w'
    go_simp
    with_reducible rfl
   rotate_left
   ·simp only [Act.put, List.setIfInBounds_toArray, List.set_cons_zero, List.set_cons_succ, i64_w, i32_w]
    rfl
   refine pure_ (i := 4) (N := some 45) (v := ?_) (a' := ?_) #[true, true, false, true, true, false, false, false] rfl rfl (by kernel_rfl) (fun _ _ _ h => h) (Or.inl ⟨by rfl, ?_⟩) ?_ ?_
   rotate_left
   ·intro w'
    go_simp
    with_reducible rfl
   rotate_left
   ·simp only [Act.put, List.setIfInBounds_toArray, List.set_cons_zero, List.set_cons_succ, i64_w, i32_w]
    rfl
   refine take_ (i := 2) (N := some 43) (v := ?_) (a' := ?_) #[true, true, true, true, true, false, false, false] rfl rfl (by kernel_rfl) (fun _ _ _ h => h) (Or.inl ⟨by rfl, ?_⟩) hHeld ?_ ?_
   rotate_left
   ·rintro w' ⟨s0, s1⟩
    go_simp
    with_reducible rfl
   rotate_left
   ·simp only [Act.put, List.setIfInBounds_toArray, List.set_cons_zero, List.set_cons_succ, i64_w, i32_w]
    rfl
   refine pure_ (i := 6) (N := some 10) (v := ?_) (a' := ?_) #[true, true, true, true, true, false, true, false] rfl rfl (by kernel_rfl) (fun _ _ _ h => h) (Or.inl ⟨by rfl, ?_⟩) ?_ ?_
   rotate_left
   ·intro w'
    go_simp
    with_reducible rfl
   rotate_left
   ·simp only [Act.put, List.setIfInBounds_toArray, List.set_cons_zero, List.set_cons_succ, i64_w, i32_w]
    rfl
   refine take_ (i := 5) (N := some 46) (v := ?_) (a' := ?_) #[true, true, true, true, true, true, true, false] rfl rfl (by kernel_rfl) (fun _ _ _ h => h) (Or.inl ⟨by rfl, ?_⟩) hHeld ?_ ?_
   rotate_left
   ·rintro w' ⟨s0, s1⟩
    go_simp
    with_reducible rfl
   rotate_left
   ·simp only [Act.put, List.setIfInBounds_toArray, List.set_cons_zero, List.set_cons_succ, i64_w, i32_w]
    rfl
   refine pure_ (i := 7) (N := some 11) (v := ?_) (a' := ?_) #[true, true, true, true, true, true, true, true] rfl rfl (by kernel_rfl) (fun _ _ _ h => h) (Or.inl ⟨by rfl, ?_⟩) ?_ ?_
   rotate_left
   ·intro w'
    go_simp
    with_reducible rfl
   rotate_left
   ·simp only [Act.put, List.setIfInBounds_toArray, List.set_cons_zero, List.set_cons_succ, i64_w, i32_w]
    rfl
   refine done_ (by kernel_rfl) ?_
   have HB4 := Aside0.mk (below_step HB.out HD4.out)
   have HG4 := Aside0.mk ((HD4.out.block _ (blk_lt HG.out)).trans HG.out)
   have HR0 := Aside0.mk (Kd.R_below HRA.out HD4.out)
   have HR1 := Aside0.mk (Kd.R_below HRB.out HD4.out)
   obtain ⟨x0, x1, x2, x3, x4, x5, x6, x7, _⟩ := blk_all8 HG4.out
   have hn0 : L0.length ≤ 65536 := HLN.out.1
   have hn1 : L1.length ≤ 65536 := HLN.out.2
   clear hHeld HB HG HRA HRB
   by_cases hC1 : g0 = 0 ∧ g1 = 0 ∧ L0.length + L1.length = 0
   ·obtain ⟨ha, hb, hc⟩ := hC1
    have hL0 : L0 = [] := List.eq_nil_of_length_eq_zero (by omega)
    have hL1 : L1 = [] := List.eq_nil_of_length_eq_zero (by omega)
    have HOM := Aside0.mk (show openM T = madeM T by unfold openM; rw [if_neg (by rw [HRDY0.out]; decide), if_neg (by rw [HE0.out, HE1.out, HRT.out.1, HRT.out.2]; simp), if_pos (by rw [HE0.out, HE1.out]; exact ⟨ha, hb, hc⟩)])
    subst ha hb hL0 hL1
    go_wp2_with fail
    refine (journal_made.calls g T N HT.out HNN.out w4 (fun k => ok k ∧ k < W.heap.size) (Res.on _ HPB.out HB4.out)).mono ?_
    intro e w6 hp
    obtain ⟨me, mT, mJ, em⟩ : ∃ a b c, madeM T = (a, b, c) := ⟨_, _, _, rfl⟩
    have HOM2 := Aside0.mk (HOM.out.trans em)
    rw [em] at hp
    cases mJ with
    | none =>
     obtain ⟨he, ht⟩ : e = .returned (.tuple #[.pointer none, .int .i64 me]) ∧ Turned (fun k => ok k ∧ k < W.heap.size) w4 w6 (PTape g mT) := hp
     have HTT := Aside0.mk (Turned.from HB4.out ht)
     subst he
     clear ht em
     go_wp2_with fail
     go_ret2
     unfold OpenPost
     rw [HOM2.out]
     exact ⟨rfl, HTT.out⟩
    | some J =>
     obtain ⟨gj, he, ht⟩ : ∃ gj, e = .returned (.tuple #[.pointer (some ⟨gj, 0, none⟩), .int .i64 me]) ∧ Turned (fun k => ok k ∧ k < W.heap.size) w4 w6 (Res.sep (PTape g mT) (PJour gj g J)) := hp
     have HTT := Aside0.mk (Turned.from HB4.out ht)
     subst he
     clear ht em
     go_wp2_with fail
     go_ret2
     unfold OpenPost
     rw [HOM2.out]
     exact ⟨gj, rfl, HTT.out⟩
   have HC1 := Aside0.mk hC1
   by_cases hC2 : g0 = g1
   ·have HOM := Aside0.mk (show openM T = (41, T, none) by unfold openM; rw [if_neg (by rw [HRDY0.out]; decide), if_neg (by rw [HE0.out, HE1.out, HRT.out.1, HRT.out.2]; simp), if_neg (by rw [HE0.out, HE1.out]; exact HC1.out), if_pos (by rw [HE0.out, HE1.out]; exact hC2)])
    subst hC2
    by_cases hz : g0 = 0
    ·subst hz
     have hne : ¬ (L0.length + L1.length = 0) := fun h => hC1 ⟨rfl, rfl, h⟩
     have b1 : ((L0.length : Int) + (L1.length : Int) == 0) = false := by simp; omega
     clear hC1
     go_wp2_with fail
     go_ret2
     unfold OpenPost
     rw [HOM.out]
     exact ⟨rfl, Turned.from HB4.out (Turned.refl (Res.on _ HPB.out HB4.out))⟩
    ·have b1 : (g0 == 0) = false := by simp [hz]
     clear hC1 hz
     go_wp2_with fail
     go_ret2
     unfold OpenPost
     rw [HOM.out]
     exact ⟨rfl, Turned.from HB4.out (Turned.refl (Res.on _ HPB.out HB4.out))⟩
   have b0 : (g0 == g1) = false := by simp [hC2]
   by_cases hC3 : g0 < g1
   ·have HGE := Aside0.mk (show 0 ≤ g0 ∧ g0 < g1 from ⟨HGL.out.1, hC3⟩)
    have b3 : decide (g0 < g1) = true := decide_eq_true hC3
    have b4 : (g1 == 0) = false := by have := HGL.out.1; simp; omega
    by_cases hz : g0 = 0
    ·have b5 : (g0 == 0) = true := by simp [hz]
     clear hC1 hC2 hC3 hz
     have HL := Aside0.mk (show 1 ≤ L1.length from HNE1.out (by have := HGE.out; omega))
     have hcd := hcut_fromR 1 A1 L1.length c1 HL.out
     obtain ⟨Ad, eAd⟩ : ∃ x, (if c1 = 1 then A1 else A1.map (·.add (1 * 1))) = x := ⟨_, rfl⟩
     rw [eAd, show L1.length - 1 = L1.tail.length by simp] at hcd
     rw [show ((1 : Nat) : Int) = 1 from rfl] at hcd
     have HQD := Aside0.mk (show (Kd.slice 5 (Kd.int .u8)).Q 30 w4 0 (fun k => W.heap.size + 1 ≤ k ∧ k < w4.heap.size) (.slice Ad L1.tail.length (c1 - 1)) (L1.drop 1) by
      have := Kd.Q_drop (Kd.Q_of_R (Res.bound (RowL _ _) HR1.out)) (k := 1) HL.out
      rw [show (Kd.slice 5 (Kd.int .u8)).sz = 1 from rfl, eAd, show L1.length - 1 = L1.tail.length by simp] at this
      exact this)
     have HOM := Aside0.mk (show openM T = _ by unfold openM; rw [if_neg (by rw [HRDY0.out]; decide), if_neg (by rw [HE0.out, HE1.out, HRT.out.1, HRT.out.2]; simp), if_neg (by rw [HE0.out, HE1.out]; have := HGE.out; simp only; omega), if_neg (by rw [HE0.out, HE1.out]; have := HGE.out; simp only; omega), HE0.out, HE1.out, show pickM (L0, z0, q0, g0, r0) (L1, z1, q1, g1, r1) = (1, (L1, z1, q1, g1, r1)) from if_pos (by have := HGE.out; simp only; omega)])
     clear eAd
     obtain ⟨a0, a1, a2, a3, a4, a5, a6, a7, _⟩ := blk_all8 (blk_alloc HG4.out (.cells #[.pointer (some ⟨g, 0, none⟩), .int .i64 1, .int .i64 0, .slice none 0 0, .int .i64 0, .bool false] 71))
     go_wp2_with fail
     obtain ⟨w8, e8⟩ : ∃ w8, w8 = ((w4.alloc (.cells #[.pointer (some ⟨g, 0, none⟩), .int .i64 1, .int .i64 0, .slice none 0 0, .int .i64 0, .bool false] 71)).alloc (.cells #[.slice A1 L1.length c1, .int .i64 z1, .bool q1, .int .i64 g1] 64)).drew := ⟨_, rfl⟩
     have HB8 := Aside0.mk (show Below w4.heap.size w4 w8 by rw [e8]; exact below_drew (below_alloc (below_alloc (Below.refl _ _) _) _))
     have HJ8 := Aside0.mk (show w8.heap[w4.heap.size]? = some (.cells #[.pointer (some ⟨g, 0, none⟩), .int .i64 1, .int .i64 0, .slice none 0 0, .int .i64 0, .bool false] 71 (0, 0)) by rw [e8]; exact (boxes2 w4 _ _).1)
     have HS8 := Aside0.mk (show w8.heap[w4.heap.size + 1]? = some (.cells #[.slice A1 L1.length c1, .int .i64 z1, .bool q1, .int .i64 g1] 64 (0, 0)) by rw [e8]; exact (boxes2 w4 _ _).2)
     obtain ⟨hs0, hs1, hs2, hs3, _⟩ := blk_all4 HS8.out
     obtain ⟨hy0, hy1, hy2, hy3, hy4, hy5, hf0, hf1, hf2, hf3, hf4, hf5⟩ := blk_all6 HJ8.out
     clear a0 a1 a2 a3 a4 a5 a6 a7 x0 x1 x2 x3 x4 x5 x6 x7
     refine start_ (n := 19) (S := fun w' => w'.cell? ⟨w4.heap.size + 1, 3, none⟩ = some (.int .i64 g1) ∧ w'.cell? ⟨w4.heap.size + 1, 0, none⟩ = some (.slice A1 L1.length c1) ∧ w'.cell? ⟨w4.heap.size + 1, 1, none⟩ = some (.int .i64 z1)) (ds := [18]) #[false, false, false, false, false, false, false, false, false, false, false, false, false, false, false, false, false, false, false] (by kernel_rfl) rfl rfl ⟨(by rw [← e8]; exact hs3), (by rw [← e8]; exact hs0), (by rw [← e8]; exact hs1)⟩ (fun hHeld => ?_)
     rw [← e8] at hHeld ⊢
     clear e8
     refine pure_ (i := 0) (N := some 89) (v := ?_) (a' := ?_) #[true, false, false, false, false, false, false, false, false, false, false, false, false, false, false, false, false, false, false] rfl rfl (by kernel_rfl) (fun _ _ _ h => h) (Or.inl ⟨by rfl, ?_⟩) ?_ ?_
     rotate_left
     ·intro w'
      go_simp
      with_reducible rfl
     rotate_left
     ·simp only [Act.put, List.setIfInBounds_toArray, List.set_cons_zero, List.set_cons_succ, i64_w, i32_w]
      rfl
     refine pure_ (i := 1) (N := some 90) (v := ?_) (a' := ?_) #[true, true, false, false, false, false, false, false, false, false, false, false, false, false, false, false, false, false, false] rfl rfl (by kernel_rfl) (fun _ _ _ h => h) (Or.inl ⟨by rfl, ?_⟩) ?_ ?_
     rotate_left
     ·intro w'
      go_simp
      with_reducible rfl
     rotate_left
     ·simp only [Act.put, List.setIfInBounds_toArray, List.set_cons_zero, List.set_cons_succ, i64_w, i32_w]
      rfl
     refine pure_ (i := 2) (N := some 91) (v := ?_) (a' := ?_) #[true, true, true, false, false, false, false, false, false, false, false, false, false, false, false, false, false, false, false] rfl rfl (by kernel_rfl) (fun _ _ _ h => h) (Or.inl ⟨by rfl, ?_⟩) ?_ ?_
     rotate_left
     ·intro w'
      go_simp
      with_reducible rfl
     rotate_left
     ·simp only [Act.put, List.setIfInBounds_toArray, List.set_cons_zero, List.set_cons_succ, i64_w, i32_w]
      rfl
     refine pure_ (i := 3) (N := some 92) (v := ?_) (a' := ?_) #[true, true, true, true, false, false, false, false, false, false, false, false, false, false, false, false, false, false, false] rfl rfl (by kernel_rfl) (fun _ _ _ h => h) (Or.inl ⟨by rfl, ?_⟩) ?_ ?_
     rotate_left
     ·intro w'
      go_simp
      with_reducible rfl
     rotate_left
     ·simp only [Act.put, List.setIfInBounds_toArray, List.set_cons_zero, List.set_cons_succ, i64_w, i32_w]
      rfl
     refine pure_ (i := 5) (N := some 94) (v := ?_) (a' := ?_) #[true, true, true, true, false, true, false, false, false, false, false, false, false, false, false, false, false, false, false] rfl rfl (by kernel_rfl) (fun _ _ _ h => h) (Or.inl ⟨by rfl, ?_⟩) ?_ ?_
     rotate_left
     ·intro w'
      go_simp
      with_reducible rfl
     rotate_left
     ·simp only [Act.put, List.setIfInBounds_toArray, List.set_cons_zero, List.set_cons_succ, i64_w, i32_w]
      rfl
     refine pure_ (i := 8) (N := some 97) (v := ?_) (a' := ?_) #[true, true, true, true, false, true, false, false, true, false, false, false, false, false, false, false, false, false, false] rfl rfl (by kernel_rfl) (fun _ _ _ h => h) (Or.inl ⟨by rfl, ?_⟩) ?_ ?_
     rotate_left
     ·intro w'
      go_simp
      with_reducible rfl
     rotate_left
     ·simp only [Act.put, List.setIfInBounds_toArray, List.set_cons_zero, List.set_cons_succ, i64_w, i32_w]
      rfl
     refine take_ (i := 4) (N := some 93) (v := ?_) (a' := ?_) #[true, true, true, true, true, true, false, false, true, false, false, false, false, false, false, false, false, false, false] rfl rfl (by kernel_rfl) (fun _ _ _ h => h) (Or.inl ⟨by rfl, ?_⟩) hHeld ?_ ?_
     rotate_left
     ·rintro w' ⟨s0, s1, s2⟩
      go_simp
      with_reducible rfl
     rotate_left
     ·simp only [Act.put, List.setIfInBounds_toArray, List.set_cons_zero, List.set_cons_succ, i64_w, i32_w]
      rfl
     refine pure_ (i := 10) (N := some 99) (v := ?_) (a' := ?_) #[true, true, true, true, true, true, false, false, true, false, true, false, false, false, false, false, false, false, false] rfl rfl (by kernel_rfl) (fun _ _ _ h => h) (Or.inl ⟨by rfl, ?_⟩) ?_ ?_
     rotate_left
     ·intro w'
      go_simp
      with_reducible rfl
     rotate_left
     ·simp only [Act.put, List.setIfInBounds_toArray, List.set_cons_zero, List.set_cons_succ, i64_w, i32_w]
      rfl
     refine pure_ (i := 11) (N := some 100) (v := ?_) (a' := ?_) #[true, true, true, true, true, true, false, false, true, false, true, true, false, false, false, false, false, false, false] rfl rfl (by kernel_rfl) (fun _ _ _ h => h) (Or.inl ⟨by rfl, ?_⟩) ?_ ?_
     rotate_left
     ·intro w'
      go_simp
      with_reducible rfl
     rotate_left
     ·simp only [Act.put, List.setIfInBounds_toArray, List.set_cons_zero, List.set_cons_succ, i64_w, i32_w]
      rfl
     refine take_ (i := 6) (N := some 95) (v := ?_) (a' := ?_) #[true, true, true, true, true, true, true, false, true, false, true, true, false, false, false, false, false, false, false] rfl rfl (by kernel_rfl) (fun _ _ _ h => h) (Or.inl ⟨by rfl, ?_⟩) hHeld ?_ ?_
     rotate_left
     ·rintro w' ⟨s0, s1, s2⟩
      go_simp
      with_reducible rfl
     rotate_left
     ·simp only [Act.put, List.setIfInBounds_toArray, List.set_cons_zero, List.set_cons_succ, i64_w, i32_w]
      rfl
     refine pure_ (i := 7) (N := some 96) (v := ?_) (a' := ?_) #[true, true, true, true, true, true, true, true, true, false, true, true, false, false, false, false, false, false, false] rfl rfl (by kernel_rfl) (fun _ _ _ h => h) (Or.inl ⟨by rfl, ?_⟩) ?_ ?_
     rotate_left
     ·intro w'
      go_simp
      with_reducible rfl
     rotate_left
     ·simp only [Act.put, List.setIfInBounds_toArray, List.set_cons_zero, List.set_cons_succ, i64_w, i32_w]
      rfl
     refine take_ (i := 9) (N := some 98) (v := ?_) (a' := ?_) #[true, true, true, true, true, true, true, true, true, true, true, true, false, false, false, false, false, false, false] rfl rfl (by kernel_rfl) (fun _ _ _ h => h) (Or.inl ⟨by rfl, ?_⟩) hHeld ?_ ?_
     rotate_left
     ·rintro w' ⟨s0, s1, s2⟩
      go_simp
      with_reducible rfl
     rotate_left
     ·simp only [Act.put, List.setIfInBounds_toArray, List.set_cons_zero, List.set_cons_succ, i64_w, i32_w]
      rfl
     refine one_ (i := 12) (N := none) #[true, true, true, true, true, true, true, true, true, true, true, true, true, false, false, false, false, false, false] rfl rfl (by kernel_rfl) (by decide) (fun K hK => ?_)
     refine skip_ (w1 := ?_) (by rfl) rfl ?_ ?_
     rotate_left
     ·go_simp
      rfl
     refine hK.out _ _ ⟨((World.cell?_setCell_other _ ⟨w4.heap.size, 2, none⟩ ⟨w4.heap.size + 1, 3, none⟩ _ (by simp)).trans hs3), ((World.cell?_setCell_other _ ⟨w4.heap.size, 2, none⟩ ⟨w4.heap.size + 1, 0, none⟩ _ (by simp)).trans hs0), ((World.cell?_setCell_other _ ⟨w4.heap.size, 2, none⟩ ⟨w4.heap.size + 1, 1, none⟩ _ (by simp)).trans hs1)⟩ (fun hHeld => ?_)
     clear hK K
     refine pure_ (i := 13) (N := some 101) (v := ?_) (a' := ?_) #[true, true, true, true, true, true, true, true, true, true, true, true, true, true, false, false, false, false, false] rfl rfl (by kernel_rfl) (fun _ _ _ h => h) (Or.inl ⟨by rfl, ?_⟩) ?_ ?_
     rotate_left
     ·intro w'
      go_simp
      with_reducible rfl
     rotate_left
     ·simp only [Act.put, List.setIfInBounds_toArray, List.set_cons_zero, List.set_cons_succ, i64_w, i32_w]
      rfl
     refine pure_ (i := 14) (N := some 102) (v := ?_) (a' := ?_) #[true, true, true, true, true, true, true, true, true, true, true, true, true, true, true, false, false, false, false] rfl rfl (by kernel_rfl) (fun _ _ _ h => h) (Or.inl ⟨by rfl, ?_⟩) ?_ ?_
     rotate_left
     ·intro w'
      go_simp
      with_reducible rfl
     rotate_left
     ·simp only [Act.put, List.setIfInBounds_toArray, List.set_cons_zero, List.set_cons_succ, i64_w, i32_w]
      rfl
     refine one_ (i := 15) (N := none) #[true, true, true, true, true, true, true, true, true, true, true, true, true, true, true, true, false, false, false] rfl rfl (by kernel_rfl) (by decide) (fun K hK => ?_)
     refine skip_ (w1 := ?_) (by rfl) rfl ?_ ?_
     rotate_left
     ·go_simp
      rfl
     refine hK.out _ _ ⟨((World.cell?_setCell_other _ ⟨w4.heap.size, 3, none⟩ ⟨w4.heap.size + 1, 3, none⟩ _ (by simp)).trans ((World.cell?_setCell_other _ ⟨w4.heap.size, 2, none⟩ ⟨w4.heap.size + 1, 3, none⟩ _ (by simp)).trans hs3)), ((World.cell?_setCell_other _ ⟨w4.heap.size, 3, none⟩ ⟨w4.heap.size + 1, 0, none⟩ _ (by simp)).trans ((World.cell?_setCell_other _ ⟨w4.heap.size, 2, none⟩ ⟨w4.heap.size + 1, 0, none⟩ _ (by simp)).trans hs0)), ((World.cell?_setCell_other _ ⟨w4.heap.size, 3, none⟩ ⟨w4.heap.size + 1, 1, none⟩ _ (by simp)).trans ((World.cell?_setCell_other _ ⟨w4.heap.size, 2, none⟩ ⟨w4.heap.size + 1, 1, none⟩ _ (by simp)).trans hs1))⟩ (fun hHeld => ?_)
     clear hK K
     refine pure_ (i := 16) (N := some 103) (v := ?_) (a' := ?_) #[true, true, true, true, true, true, true, true, true, true, true, true, true, true, true, true, true, false, false] rfl rfl (by kernel_rfl) (fun _ _ _ h => h) (Or.inl ⟨by rfl, ?_⟩) ?_ ?_
     rotate_left
     ·intro w'
      go_simp
      with_reducible rfl
     rotate_left
     ·simp only [Act.put, List.setIfInBounds_toArray, List.set_cons_zero, List.set_cons_succ, i64_w, i32_w]
      rfl
     refine pure_ (i := 17) (N := some 104) (v := ?_) (a' := ?_) #[true, true, true, true, true, true, true, true, true, true, true, true, true, true, true, true, true, true, false] rfl rfl (by kernel_rfl) (fun _ _ _ h => h) (Or.inl ⟨by rfl, ?_⟩) ?_ ?_
     rotate_left
     ·intro w'
      go_simp
      with_reducible rfl
     rotate_left
     ·simp only [Act.put, List.setIfInBounds_toArray, List.set_cons_zero, List.set_cons_succ, i64_w, i32_w]
      rfl
     refine last_ (i := 18) (N := none) #[true, true, true, true, true, true, true, true, true, true, true, true, true, true, true, true, true, true, true] rfl rfl (by kernel_rfl) (by decide) (fun K hK => ?_)
     refine skip_ (w1 := ?_) (by rfl) rfl ?_ ?_
     rotate_left
     ·go_simp
      rfl
     refine hK.out _ _ ?_
     clear hK K
     refine done_ (by kernel_rfl) ?_
     clear hy0 hy1 hy2 hy3 hy4 hy5 hf0 hf1 hf2 hf3 hf4 hf5 hHeld
     rw [show L1.length - 1 = L1.tail.length by simp]
     obtain ⟨w9, e9⟩ : ∃ w9, w9 = ((w8.setCell ⟨w4.heap.size, 2, none⟩ (.int .i64 g1)).setCell ⟨w4.heap.size, 3, none⟩ (.slice Ad L1.tail.length (c1 - 1))).setCell ⟨w4.heap.size, 4, none⟩ (.int .i64 z1) := ⟨_, rfl⟩
     have HJ9 := Aside0.mk (show w9.heap[w4.heap.size]? = some (.cells #[.pointer (some ⟨g, 0, none⟩), .int .i64 1, .int .i64 g1, .slice Ad L1.tail.length (c1 - 1), .int .i64 z1, .bool false] 71 (0, 0)) by rw [e9]; exact blk_put (blk_put (blk_put HJ8.out 2 _ rfl) 3 _ rfl) 4 _ rfl)
     have HKW := Aside0.mk (show Below w4.heap.size w4 w9 by rw [e9]; exact (Keeps.set (S := fun _ => False) (Keeps.set (Keeps.set (Keeps.of_below HB8.out (fun _ => False)) (p := ⟨w4.heap.size, 2, none⟩) (.inr (Nat.le_refl _)) _) (p := ⟨w4.heap.size, 3, none⟩) (.inr (Nat.le_refl _)) _) (p := ⟨w4.heap.size, 4, none⟩) (.inr (Nat.le_refl _)) _).belowF)
     have HS9 := Aside0.mk (show w9.heap[w4.heap.size + 1]? = some (.cells #[.slice A1 L1.length c1, .int .i64 z1, .bool q1, .int .i64 g1] 64 (0, 0)) by rw [e9]; exact (Below.heap_setCell _ _ _ _ (Nat.succ_ne_self _)).trans ((Below.heap_setCell _ _ _ _ (Nat.succ_ne_self _)).trans ((Below.heap_setCell _ _ _ _ (Nat.succ_ne_self _)).trans HS8.out)))
     have HB9 := Aside0.mk (below_step HB4.out HKW.out)
     have HQ9 := Aside0.mk (Kd.Q_below HQD.out HKW.out)
     (try rw [show L1.length - 1 = L1.tail.length by simp])
     rw [← e9]
     clear e9 hs0 hs1 hs2 hs3 HQD HB8 HJ8 HS8
     obtain ⟨ht0, ht1, ht2, ht3, _⟩ := blk_all4 HS9.out
     cases q1 with
     | false =>
      have HOM2 := Aside0.mk (show openM T = (0, T, some ⟨1, g1, L1.drop 1, z1, false⟩) from HOM.out.trans (if_neg (by simp)))
      go_wp2_with fail
      go_ret2
      unfold OpenPost
      rw [HOM2.out]
      exact ⟨w4.heap.size, rfl, Keeps.of_below HB9.out ok, opn_end (N4 := w4.heap.size) (Res.on _ HPB.out HB9.out) (fun k hk => .inl hk) (Nat.le_refl _) HB4.out.size HJ9.out HQ9.out⟩
     | true =>
      have HOM2 := Aside0.mk (HOM.out.trans (if_pos rfl))
      obtain ⟨hj0, hj1, hj2, hj3, hj4, hj5, _⟩ := blk_all6 HJ9.out
      go_wp2_with fail
      obtain ⟨wt, et⟩ : ∃ wt, wt = w9.drew := ⟨_, rfl⟩
      have HBT := Aside0.mk (show Below w9.heap.size w9 wt by rw [et]; exact below_drew (Below.refl _ _))
      replace hj1 := pw_cell_below HBT.out hj1
      replace ht1 := pw_cell_below HBT.out ht1
      have HJT := Aside0.mk ((HBT.out.block _ (blk_lt HJ9.out)).trans HJ9.out)
      have HST := Aside0.mk ((HBT.out.block _ (blk_lt HS9.out)).trans HS9.out)
      have HQT := Aside0.mk (Kd.Q_below HQ9.out HBT.out)
      have HBWT := Aside0.mk (below_step HB9.out HBT.out)
      obtain ⟨okY, hXT, hYD⟩ : ∃ okY : Nat → Prop, (PTape g T).P okY wt ∧ (∀ k, okY k ↔ (ok k ∧ k < W.heap.size) ∨ wt.heap.size ≤ k) := ⟨fun k => (ok k ∧ k < W.heap.size) ∨ wt.heap.size ≤ k, Res.mono _ (fun k hk => .inl hk) (Res.on _ HPB.out HBWT.out), fun k => Iff.rfl⟩
      have HXT := Aside0.mk hXT
      have HYD := Aside0.mk hYD
      have HYN := Aside0.mk (show ¬ okY w4.heap.size ∧ ¬ okY (w4.heap.size + 1) from by
       have h1 := blk_lt HJT.out
       have h2 := blk_lt HST.out
       have h3 := HB4.out.size
       refine ⟨fun h => ?_, fun h => ?_⟩
       ·rcases (hYD _).1 h with h | h
        ·have := h.2; omega
        ·omega
       ·rcases (hYD _).1 h with h | h
        ·have := h.2; omega
        ·omega)
      clear hXT hYD hj0 hj2 hj3 hj4 hj5 ht0 ht2 ht3
      refine start_ (n := 9) (S := fun w' => w'.cell? ⟨w4.heap.size, 1, none⟩ = some (.int .i64 1) ∧ w'.cell? ⟨w4.heap.size + 1, 1, none⟩ = some (.int .i64 z1)) (ds := []) #[false, false, false, false, false, false, false, false, false] (by kernel_rfl) rfl rfl ⟨(by rw [← et]; exact hj1), (by rw [← et]; exact ht1)⟩ (fun hHeld => ?_)
      rw [← et] at hHeld ⊢
      clear et
      refine pure_ (i := 0) (N := some 107) (v := ?_) (a' := ?_) #[true, false, false, false, false, false, false, false, false] rfl rfl (by kernel_rfl) (fun _ _ _ h => h) (Or.inl ⟨by rfl, ?_⟩) ?_ ?_
      rotate_left
      ·intro w'
       go_simp
       with_reducible rfl
      rotate_left
      ·simp only [Act.put, List.setIfInBounds_toArray, List.set_cons_zero, List.set_cons_succ, i64_w, i32_w]
       rfl
      refine pure_ (i := 1) (N := some 108) (v := ?_) (a' := ?_) #[true, true, false, false, false, false, false, false, false] rfl rfl (by kernel_rfl) (fun _ _ _ h => h) (Or.inl ⟨by rfl, ?_⟩) ?_ ?_
      rotate_left
      ·intro w'
       go_simp
       with_reducible rfl
      rotate_left
      ·simp only [Act.put, List.setIfInBounds_toArray, List.set_cons_zero, List.set_cons_succ, i64_w, i32_w]
       rfl
      refine pure_ (i := 2) (N := some 109) (v := ?_) (a' := ?_) #[true, true, true, false, false, false, false, false, false] rfl rfl (by kernel_rfl) (fun _ _ _ h => h) (Or.inl ⟨by rfl, ?_⟩) ?_ ?_
      rotate_left
      ·intro w'
       go_simp
       with_reducible rfl
      rotate_left
      ·simp only [Act.put, List.setIfInBounds_toArray, List.set_cons_zero, List.set_cons_succ, i64_w, i32_w]
       rfl
      refine pure_ (i := 3) (N := some 110) (v := ?_) (a' := ?_) #[true, true, true, true, false, false, false, false, false] rfl rfl (by kernel_rfl) (fun _ _ _ h => h) (Or.inl ⟨by rfl, ?_⟩) ?_ ?_
      rotate_left
      ·intro w'
       go_simp
       with_reducible rfl
      rotate_left
      ·simp only [Act.put, List.setIfInBounds_toArray, List.set_cons_zero, List.set_cons_succ, i64_w, i32_w]
       rfl
      refine pure_ (i := 5) (N := some 112) (v := ?_) (a' := ?_) #[true, true, true, true, false, true, false, false, false] rfl rfl (by kernel_rfl) (fun _ _ _ h => h) (Or.inl ⟨by rfl, ?_⟩) ?_ ?_
      rotate_left
      ·intro w'
       go_simp
       with_reducible rfl
      rotate_left
      ·simp only [Act.put, List.setIfInBounds_toArray, List.set_cons_zero, List.set_cons_succ, i64_w, i32_w]
       rfl
      refine take_ (i := 4) (N := some 111) (v := ?_) (a' := ?_) #[true, true, true, true, true, true, false, false, false] rfl rfl (by kernel_rfl) (fun _ _ _ h => h) (Or.inl ⟨by rfl, ?_⟩) hHeld ?_ ?_
      rotate_left
      ·rintro w' ⟨s0, s1⟩
       go_simp
       with_reducible rfl
      rotate_left
      ·simp only [Act.put, List.setIfInBounds_toArray, List.set_cons_zero, List.set_cons_succ, i64_w, i32_w]
       rfl
      refine take_ (i := 6) (N := some 113) (v := ?_) (a' := ?_) #[true, true, true, true, true, true, true, false, false] rfl rfl (by kernel_rfl) (fun _ _ _ h => h) (Or.inl ⟨by rfl, ?_⟩) hHeld ?_ ?_
      rotate_left
      ·rintro w' ⟨s0, s1⟩
       go_simp
       with_reducible rfl
      rotate_left
      ·simp only [Act.put, List.setIfInBounds_toArray, List.set_cons_zero, List.set_cons_succ, i64_w, i32_w]
       rfl
      refine one_ (i := 7) (N := some 114) #[true, true, true, true, true, true, true, true, false] rfl rfl (by kernel_rfl) (by decide) (fun K hK => ?_)
      refine goes_ Try.func36 (by kernel_rfl) rfl #[.pointer (some ⟨g, 0, none⟩), .int .i64 1, .int .i64 z1] (by rfl) rfl rfl (by simp only [List.map_toArray, List.map_cons, List.map_nil]; rfl) ?_
      with_reducible refine ((tape_Trim.calls g T N HT.out (by have := HNN.out; omega) 1 z1 wt okY HXT.out)).mono ?_
      rintro e wu ⟨rfl, ht⟩
      have HTT := Aside0.mk ht
      clear ht
      refine ⟨_, rfl, ?_⟩
      refine hK.out _ _ ⟨(pw_keeps HTT.out.1 HYN.out.1 hj1), (pw_keeps HTT.out.1 HYN.out.2 ht1)⟩ (fun hHeld => ?_)
      clear hK K
      refine norm_ (a' := ?_) ?_ ?_
      rotate_left
      ·show Act.put _ (some 114) _ = _
       simp only [Act.put, List.setIfInBounds_toArray, List.set_cons_zero, List.set_cons_succ, i64_w, i32_w]
       rfl
      refine pure_ (i := 8) (N := some 14) (v := ?_) (a' := ?_) #[true, true, true, true, true, true, true, true, true] rfl rfl (by kernel_rfl) (fun _ _ _ h => h) (Or.inl ⟨by rfl, ?_⟩) ?_ ?_
      rotate_left
      ·intro w'
       go_simp
       with_reducible rfl
      rotate_left
      ·simp only [Act.put, List.setIfInBounds_toArray, List.set_cons_zero, List.set_cons_succ, i64_w, i32_w]
       rfl
      refine done_ (by kernel_rfl) ?_
      clear hHeld hj1 ht1
      obtain ⟨T1, eT1⟩ : ∃ x, T.trim 1 z1 = x := ⟨_, rfl⟩
      obtain ⟨e1, ee1⟩ : ∃ x, T.trimE 1 z1 = x := ⟨_, rfl⟩
      have HOM3 := Aside0.mk (show openM T = (if e1 ≠ 0 then (e1, T1, none) else if T1.ready 0 ≠ 0 then (T1.ready 0, T1.sync, none) else (0, T1.sync, some ⟨1, g1, L1.drop 1, z1, false⟩)) by rw [← eT1, ← ee1]; exact HOM2.out)
      have HTO1 := Aside0.mk (show T1.Ok (N + 1) from eT1 ▸ TM.trim_ok HT.out _ _)
      rw [eT1] at HTT
      rw [ee1]
      have HJU := Aside0.mk ((HTT.out.1.block _ (blk_lt HJT.out) HYN.out.1).trans HJT.out)
      have HQU := Aside0.mk (Kd.Q_step HQT.out (fun k hk hlt => HTT.out.1.block k hlt (fun hh => by rcases (HYD.out k).1 hh with h | h; have := h.2; have := hk.1; omega; have := hk.2; have := blk_lt HJT.out; omega)))
      have HKU := Aside0.mk (show Keeps W wu (fun k => ok k ∧ k < W.heap.size) from (Keeps.of_below HBWT.out _).then_ HTT.out.1 (fun k hk => ((HYD.out k).1 hk).imp id (Nat.le_trans HBWT.out.size)))
      have HXU := Aside0.mk (Res.mono (PTape g T1) (ok' := okY) (fun k hk => hk.elim id (fun h => (HYD.out k).2 (.inr h))) HTT.out.2)
      have HSU := Aside0.mk HTT.out.1.size
      clear eT1 ee1 HTT HQT HJT HST HXT
      by_cases h1 : e1 ≠ 0
      ·have c1 : (e1 != 0) = true := by simp [h1]
       have c2 : (e1 == 0) = false := by simp [h1]
       have HOM4 := Aside0.mk (HOM3.out.trans (if_pos h1))
       clear h1
       go_wp2_with fail
       go_ret2
       unfold OpenPost
       rw [HOM4.out]
       exact ⟨rfl, HKU.out.mono (fun k _ hk => hk.1), Res.mono _ (fun k hk => ((HYD.out k).1 hk).imp (·.1) (Nat.le_trans HBWT.out.size)) HXU.out⟩
      have c1 : (e1 != 0) = false := by simpa using h1
      have c2 : (e1 == 0) = true := by simpa using h1
      have HOM4 := Aside0.mk (HOM3.out.trans (if_neg h1))
      have he0 : e1 = 0 := by omega
      subst he0
      clear h1 c1 c2
      go_wp2_with fail
      refine (tape_Sync.calls g T1 (N + 1) HTO1.out wu okY HXU.out).mono ?_
      rintro e wv ⟨rfl, ht⟩
      obtain ⟨T2, eT2⟩ : ∃ x, T1.sync = x := ⟨_, rfl⟩
      obtain ⟨e2, ee2⟩ : ∃ x, T1.ready 0 = x := ⟨_, rfl⟩
      rw [eT2] at ht HOM4
      rw [ee2] at HOM4 ⊢
      have HJV := Aside0.mk ((ht.1.block _ (blk_lt HJU.out) HYN.out.1).trans HJU.out)
      have HQV := Aside0.mk (Kd.Q_step HQU.out (fun k hk hlt => ht.1.block k hlt (fun hh => by rcases (HYD.out k).1 hh with h | h; have := h.2; have := hk.1; omega; have := hk.2; have := HKW.out.size; have := HBT.out.size; omega)))
      have HKV := Aside0.mk (show Keeps W wv (fun k => ok k ∧ k < W.heap.size) from HKU.out.then_ ht.1 (fun k hk => ((HYD.out k).1 hk).imp id (Nat.le_trans HBWT.out.size)))
      have HXV := Aside0.mk (Res.mono (PTape g T2) (ok' := okY) (fun k hk => hk.elim id (fun h => (HYD.out k).2 (.inr (Nat.le_trans HSU.out h)))) ht.2)
      clear eT2 ee2 ht
      by_cases h2 : e2 ≠ 0
      ·have c1 : (e2 != 0) = true := by simp [h2]
       have c2 : (e2 == 0) = false := by simp [h2]
       have HOM5 := Aside0.mk (HOM4.out.trans (if_pos h2))
       clear h2
       go_wp2_with fail
       go_ret2
       unfold OpenPost
       rw [HOM5.out]
       exact ⟨rfl, HKV.out.mono (fun k _ hk => hk.1), Res.mono _ (fun k hk => ((HYD.out k).1 hk).imp (·.1) (Nat.le_trans HBWT.out.size)) HXV.out⟩
      have c1 : (e2 != 0) = false := by simpa using h2
      have c2 : (e2 == 0) = true := by simpa using h2
      have HOM5 := Aside0.mk (HOM4.out.trans (if_neg h2))
      clear h2
      go_wp2_with fail
      go_ret2
      unfold OpenPost
      rw [HOM5.out]
      exact ⟨w4.heap.size, rfl, HKV.out.mono (fun k _ hk => hk.1), opn_end HXV.out (fun k hk => ((HYD.out k).1 hk).imp id (fun h => ⟨Nat.le_trans HBWT.out.size h, Nat.lt_of_lt_of_le (Nat.lt_of_lt_of_le (blk_lt HJ9.out) HBT.out.size) h⟩)) (Nat.le_refl _) HB4.out.size HJV.out HQV.out⟩
    ·have b5 : (g0 == 0) = false := by simp [hz]
     clear hC1 hC2 hC3 hz
     have HL := Aside0.mk (show 1 ≤ L1.length from HNE1.out (by have := HGE.out; omega))
     have hcd := hcut_fromR 1 A1 L1.length c1 HL.out
     obtain ⟨Ad, eAd⟩ : ∃ x, (if c1 = 1 then A1 else A1.map (·.add (1 * 1))) = x := ⟨_, rfl⟩
     rw [eAd, show L1.length - 1 = L1.tail.length by simp] at hcd
     rw [show ((1 : Nat) : Int) = 1 from rfl] at hcd
     have HQD := Aside0.mk (show (Kd.slice 5 (Kd.int .u8)).Q 30 w4 0 (fun k => W.heap.size + 1 ≤ k ∧ k < w4.heap.size) (.slice Ad L1.tail.length (c1 - 1)) (L1.drop 1) by
      have := Kd.Q_drop (Kd.Q_of_R (Res.bound (RowL _ _) HR1.out)) (k := 1) HL.out
      rw [show (Kd.slice 5 (Kd.int .u8)).sz = 1 from rfl, eAd, show L1.length - 1 = L1.tail.length by simp] at this
      exact this)
     have HOM := Aside0.mk (show openM T = _ by unfold openM; rw [if_neg (by rw [HRDY0.out]; decide), if_neg (by rw [HE0.out, HE1.out, HRT.out.1, HRT.out.2]; simp), if_neg (by rw [HE0.out, HE1.out]; have := HGE.out; simp only; omega), if_neg (by rw [HE0.out, HE1.out]; have := HGE.out; simp only; omega), HE0.out, HE1.out, show pickM (L0, z0, q0, g0, r0) (L1, z1, q1, g1, r1) = (1, (L1, z1, q1, g1, r1)) from if_pos (by have := HGE.out; simp only; omega)])
     clear eAd
     obtain ⟨a0, a1, a2, a3, a4, a5, a6, a7, _⟩ := blk_all8 (blk_alloc HG4.out (.cells #[.pointer (some ⟨g, 0, none⟩), .int .i64 1, .int .i64 0, .slice none 0 0, .int .i64 0, .bool false] 71))
     go_wp2_with fail
     obtain ⟨w8, e8⟩ : ∃ w8, w8 = ((w4.alloc (.cells #[.pointer (some ⟨g, 0, none⟩), .int .i64 1, .int .i64 0, .slice none 0 0, .int .i64 0, .bool false] 71)).alloc (.cells #[.slice A1 L1.length c1, .int .i64 z1, .bool q1, .int .i64 g1] 64)).drew := ⟨_, rfl⟩
     have HB8 := Aside0.mk (show Below w4.heap.size w4 w8 by rw [e8]; exact below_drew (below_alloc (below_alloc (Below.refl _ _) _) _))
     have HJ8 := Aside0.mk (show w8.heap[w4.heap.size]? = some (.cells #[.pointer (some ⟨g, 0, none⟩), .int .i64 1, .int .i64 0, .slice none 0 0, .int .i64 0, .bool false] 71 (0, 0)) by rw [e8]; exact (boxes2 w4 _ _).1)
     have HS8 := Aside0.mk (show w8.heap[w4.heap.size + 1]? = some (.cells #[.slice A1 L1.length c1, .int .i64 z1, .bool q1, .int .i64 g1] 64 (0, 0)) by rw [e8]; exact (boxes2 w4 _ _).2)
     obtain ⟨hs0, hs1, hs2, hs3, _⟩ := blk_all4 HS8.out
     obtain ⟨hy0, hy1, hy2, hy3, hy4, hy5, hf0, hf1, hf2, hf3, hf4, hf5⟩ := blk_all6 HJ8.out
     clear a0 a1 a2 a3 a4 a5 a6 a7 x0 x1 x2 x3 x4 x5 x6 x7
     refine start_ (n := 19) (S := fun w' => w'.cell? ⟨w4.heap.size + 1, 3, none⟩ = some (.int .i64 g1) ∧ w'.cell? ⟨w4.heap.size + 1, 0, none⟩ = some (.slice A1 L1.length c1) ∧ w'.cell? ⟨w4.heap.size + 1, 1, none⟩ = some (.int .i64 z1)) (ds := [18]) #[false, false, false, false, false, false, false, false, false, false, false, false, false, false, false, false, false, false, false] (by kernel_rfl) rfl rfl ⟨(by rw [← e8]; exact hs3), (by rw [← e8]; exact hs0), (by rw [← e8]; exact hs1)⟩ (fun hHeld => ?_)
     rw [← e8] at hHeld ⊢
     clear e8
     refine pure_ (i := 0) (N := some 89) (v := ?_) (a' := ?_) #[true, false, false, false, false, false, false, false, false, false, false, false, false, false, false, false, false, false, false] rfl rfl (by kernel_rfl) (fun _ _ _ h => h) (Or.inl ⟨by rfl, ?_⟩) ?_ ?_
     rotate_left
     ·intro w'
      go_simp
      with_reducible rfl
     rotate_left
     ·simp only [Act.put, List.setIfInBounds_toArray, List.set_cons_zero, List.set_cons_succ, i64_w, i32_w]
      rfl
     refine pure_ (i := 1) (N := some 90) (v := ?_) (a' := ?_) #[true, true, false, false, false, false, false, false, false, false, false, false, false, false, false, false, false, false, false] rfl rfl (by kernel_rfl) (fun _ _ _ h => h) (Or.inl ⟨by rfl, ?_⟩) ?_ ?_
     rotate_left
     ·intro w'
      go_simp
      with_reducible rfl
     rotate_left
     ·simp only [Act.put, List.setIfInBounds_toArray, List.set_cons_zero, List.set_cons_succ, i64_w, i32_w]
      rfl
     refine pure_ (i := 2) (N := some 91) (v := ?_) (a' := ?_) #[true, true, true, false, false, false, false, false, false, false, false, false, false, false, false, false, false, false, false] rfl rfl (by kernel_rfl) (fun _ _ _ h => h) (Or.inl ⟨by rfl, ?_⟩) ?_ ?_
     rotate_left
     ·intro w'
      go_simp
      with_reducible rfl
     rotate_left
     ·simp only [Act.put, List.setIfInBounds_toArray, List.set_cons_zero, List.set_cons_succ, i64_w, i32_w]
      rfl
     refine pure_ (i := 3) (N := some 92) (v := ?_) (a' := ?_) #[true, true, true, true, false, false, false, false, false, false, false, false, false, false, false, false, false, false, false] rfl rfl (by kernel_rfl) (fun _ _ _ h => h) (Or.inl ⟨by rfl, ?_⟩) ?_ ?_
     rotate_left
     ·intro w'
      go_simp
      with_reducible rfl
     rotate_left
     ·simp only [Act.put, List.setIfInBounds_toArray, List.set_cons_zero, List.set_cons_succ, i64_w, i32_w]
      rfl
     refine pure_ (i := 5) (N := some 94) (v := ?_) (a' := ?_) #[true, true, true, true, false, true, false, false, false, false, false, false, false, false, false, false, false, false, false] rfl rfl (by kernel_rfl) (fun _ _ _ h => h) (Or.inl ⟨by rfl, ?_⟩) ?_ ?_
     rotate_left
     ·intro w'
      go_simp
      with_reducible rfl
     rotate_left
     ·simp only [Act.put, List.setIfInBounds_toArray, List.set_cons_zero, List.set_cons_succ, i64_w, i32_w]
      rfl
     refine pure_ (i := 8) (N := some 97) (v := ?_) (a' := ?_) #[true, true, true, true, false, true, false, false, true, false, false, false, false, false, false, false, false, false, false] rfl rfl (by kernel_rfl) (fun _ _ _ h => h) (Or.inl ⟨by rfl, ?_⟩) ?_ ?_
     rotate_left
     ·intro w'
      go_simp
      with_reducible rfl
     rotate_left
     ·simp only [Act.put, List.setIfInBounds_toArray, List.set_cons_zero, List.set_cons_succ, i64_w, i32_w]
      rfl
     refine take_ (i := 4) (N := some 93) (v := ?_) (a' := ?_) #[true, true, true, true, true, true, false, false, true, false, false, false, false, false, false, false, false, false, false] rfl rfl (by kernel_rfl) (fun _ _ _ h => h) (Or.inl ⟨by rfl, ?_⟩) hHeld ?_ ?_
     rotate_left
     ·rintro w' ⟨s0, s1, s2⟩
      go_simp
      with_reducible rfl
     rotate_left
     ·simp only [Act.put, List.setIfInBounds_toArray, List.set_cons_zero, List.set_cons_succ, i64_w, i32_w]
      rfl
     refine pure_ (i := 10) (N := some 99) (v := ?_) (a' := ?_) #[true, true, true, true, true, true, false, false, true, false, true, false, false, false, false, false, false, false, false] rfl rfl (by kernel_rfl) (fun _ _ _ h => h) (Or.inl ⟨by rfl, ?_⟩) ?_ ?_
     rotate_left
     ·intro w'
      go_simp
      with_reducible rfl
     rotate_left
     ·simp only [Act.put, List.setIfInBounds_toArray, List.set_cons_zero, List.set_cons_succ, i64_w, i32_w]
      rfl
     refine pure_ (i := 11) (N := some 100) (v := ?_) (a' := ?_) #[true, true, true, true, true, true, false, false, true, false, true, true, false, false, false, false, false, false, false] rfl rfl (by kernel_rfl) (fun _ _ _ h => h) (Or.inl ⟨by rfl, ?_⟩) ?_ ?_
     rotate_left
     ·intro w'
      go_simp
      with_reducible rfl
     rotate_left
     ·simp only [Act.put, List.setIfInBounds_toArray, List.set_cons_zero, List.set_cons_succ, i64_w, i32_w]
      rfl
     refine take_ (i := 6) (N := some 95) (v := ?_) (a' := ?_) #[true, true, true, true, true, true, true, false, true, false, true, true, false, false, false, false, false, false, false] rfl rfl (by kernel_rfl) (fun _ _ _ h => h) (Or.inl ⟨by rfl, ?_⟩) hHeld ?_ ?_
     rotate_left
     ·rintro w' ⟨s0, s1, s2⟩
      go_simp
      with_reducible rfl
     rotate_left
     ·simp only [Act.put, List.setIfInBounds_toArray, List.set_cons_zero, List.set_cons_succ, i64_w, i32_w]
      rfl
     refine pure_ (i := 7) (N := some 96) (v := ?_) (a' := ?_) #[true, true, true, true, true, true, true, true, true, false, true, true, false, false, false, false, false, false, false] rfl rfl (by kernel_rfl) (fun _ _ _ h => h) (Or.inl ⟨by rfl, ?_⟩) ?_ ?_
     rotate_left
     ·intro w'
      go_simp
      with_reducible rfl
     rotate_left
     ·simp only [Act.put, List.setIfInBounds_toArray, List.set_cons_zero, List.set_cons_succ, i64_w, i32_w]
      rfl
     refine take_ (i := 9) (N := some 98) (v := ?_) (a' := ?_) #[true, true, true, true, true, true, true, true, true, true, true, true, false, false, false, false, false, false, false] rfl rfl (by kernel_rfl) (fun _ _ _ h => h) (Or.inl ⟨by rfl, ?_⟩) hHeld ?_ ?_
     rotate_left
     ·rintro w' ⟨s0, s1, s2⟩
      go_simp
      with_reducible rfl
     rotate_left
     ·simp only [Act.put, List.setIfInBounds_toArray, List.set_cons_zero, List.set_cons_succ, i64_w, i32_w]
      rfl
     refine one_ (i := 12) (N := none) #[true, true, true, true, true, true, true, true, true, true, true, true, true, false, false, false, false, false, false] rfl rfl (by kernel_rfl) (by decide) (fun K hK => ?_)
     refine skip_ (w1 := ?_) (by rfl) rfl ?_ ?_
     rotate_left
     ·go_simp
      rfl
     refine hK.out _ _ ⟨((World.cell?_setCell_other _ ⟨w4.heap.size, 2, none⟩ ⟨w4.heap.size + 1, 3, none⟩ _ (by simp)).trans hs3), ((World.cell?_setCell_other _ ⟨w4.heap.size, 2, none⟩ ⟨w4.heap.size + 1, 0, none⟩ _ (by simp)).trans hs0), ((World.cell?_setCell_other _ ⟨w4.heap.size, 2, none⟩ ⟨w4.heap.size + 1, 1, none⟩ _ (by simp)).trans hs1)⟩ (fun hHeld => ?_)
     clear hK K
     refine pure_ (i := 13) (N := some 101) (v := ?_) (a' := ?_) #[true, true, true, true, true, true, true, true, true, true, true, true, true, true, false, false, false, false, false] rfl rfl (by kernel_rfl) (fun _ _ _ h => h) (Or.inl ⟨by rfl, ?_⟩) ?_ ?_
     rotate_left
     ·intro w'
      go_simp
      with_reducible rfl
     rotate_left
     ·simp only [Act.put, List.setIfInBounds_toArray, List.set_cons_zero, List.set_cons_succ, i64_w, i32_w]
      rfl
     refine pure_ (i := 14) (N := some 102) (v := ?_) (a' := ?_) #[true, true, true, true, true, true, true, true, true, true, true, true, true, true, true, false, false, false, false] rfl rfl (by kernel_rfl) (fun _ _ _ h => h) (Or.inl ⟨by rfl, ?_⟩) ?_ ?_
     rotate_left
     ·intro w'
      go_simp
      with_reducible rfl
     rotate_left
     ·simp only [Act.put, List.setIfInBounds_toArray, List.set_cons_zero, List.set_cons_succ, i64_w, i32_w]
      rfl
     refine one_ (i := 15) (N := none) #[true, true, true, true, true, true, true, true, true, true, true, true, true, true, true, true, false, false, false] rfl rfl (by kernel_rfl) (by decide) (fun K hK => ?_)
     refine skip_ (w1 := ?_) (by rfl) rfl ?_ ?_
     rotate_left
     ·go_simp
      rfl
     refine hK.out _ _ ⟨((World.cell?_setCell_other _ ⟨w4.heap.size, 3, none⟩ ⟨w4.heap.size + 1, 3, none⟩ _ (by simp)).trans ((World.cell?_setCell_other _ ⟨w4.heap.size, 2, none⟩ ⟨w4.heap.size + 1, 3, none⟩ _ (by simp)).trans hs3)), ((World.cell?_setCell_other _ ⟨w4.heap.size, 3, none⟩ ⟨w4.heap.size + 1, 0, none⟩ _ (by simp)).trans ((World.cell?_setCell_other _ ⟨w4.heap.size, 2, none⟩ ⟨w4.heap.size + 1, 0, none⟩ _ (by simp)).trans hs0)), ((World.cell?_setCell_other _ ⟨w4.heap.size, 3, none⟩ ⟨w4.heap.size + 1, 1, none⟩ _ (by simp)).trans ((World.cell?_setCell_other _ ⟨w4.heap.size, 2, none⟩ ⟨w4.heap.size + 1, 1, none⟩ _ (by simp)).trans hs1))⟩ (fun hHeld => ?_)
     clear hK K
     refine pure_ (i := 16) (N := some 103) (v := ?_) (a' := ?_) #[true, true, true, true, true, true, true, true, true, true, true, true, true, true, true, true, true, false, false] rfl rfl (by kernel_rfl) (fun _ _ _ h => h) (Or.inl ⟨by rfl, ?_⟩) ?_ ?_
     rotate_left
     ·intro w'
      go_simp
      with_reducible rfl
     rotate_left
     ·simp only [Act.put, List.setIfInBounds_toArray, List.set_cons_zero, List.set_cons_succ, i64_w, i32_w]
      rfl
     refine pure_ (i := 17) (N := some 104) (v := ?_) (a' := ?_) #[true, true, true, true, true, true, true, true, true, true, true, true, true, true, true, true, true, true, false] rfl rfl (by kernel_rfl) (fun _ _ _ h => h) (Or.inl ⟨by rfl, ?_⟩) ?_ ?_
     rotate_left
     ·intro w'
      go_simp
      with_reducible rfl
     rotate_left
     ·simp only [Act.put, List.setIfInBounds_toArray, List.set_cons_zero, List.set_cons_succ, i64_w, i32_w]
      rfl
     refine last_ (i := 18) (N := none) #[true, true, true, true, true, true, true, true, true, true, true, true, true, true, true, true, true, true, true] rfl rfl (by kernel_rfl) (by decide) (fun K hK => ?_)
     refine skip_ (w1 := ?_) (by rfl) rfl ?_ ?_
     rotate_left
     ·go_simp
      rfl
     refine hK.out _ _ ?_
     clear hK K
     refine done_ (by kernel_rfl) ?_
     clear hy0 hy1 hy2 hy3 hy4 hy5 hf0 hf1 hf2 hf3 hf4 hf5 hHeld
     rw [show L1.length - 1 = L1.tail.length by simp]
     obtain ⟨w9, e9⟩ : ∃ w9, w9 = ((w8.setCell ⟨w4.heap.size, 2, none⟩ (.int .i64 g1)).setCell ⟨w4.heap.size, 3, none⟩ (.slice Ad L1.tail.length (c1 - 1))).setCell ⟨w4.heap.size, 4, none⟩ (.int .i64 z1) := ⟨_, rfl⟩
     have HJ9 := Aside0.mk (show w9.heap[w4.heap.size]? = some (.cells #[.pointer (some ⟨g, 0, none⟩), .int .i64 1, .int .i64 g1, .slice Ad L1.tail.length (c1 - 1), .int .i64 z1, .bool false] 71 (0, 0)) by rw [e9]; exact blk_put (blk_put (blk_put HJ8.out 2 _ rfl) 3 _ rfl) 4 _ rfl)
     have HKW := Aside0.mk (show Below w4.heap.size w4 w9 by rw [e9]; exact (Keeps.set (S := fun _ => False) (Keeps.set (Keeps.set (Keeps.of_below HB8.out (fun _ => False)) (p := ⟨w4.heap.size, 2, none⟩) (.inr (Nat.le_refl _)) _) (p := ⟨w4.heap.size, 3, none⟩) (.inr (Nat.le_refl _)) _) (p := ⟨w4.heap.size, 4, none⟩) (.inr (Nat.le_refl _)) _).belowF)
     have HS9 := Aside0.mk (show w9.heap[w4.heap.size + 1]? = some (.cells #[.slice A1 L1.length c1, .int .i64 z1, .bool q1, .int .i64 g1] 64 (0, 0)) by rw [e9]; exact (Below.heap_setCell _ _ _ _ (Nat.succ_ne_self _)).trans ((Below.heap_setCell _ _ _ _ (Nat.succ_ne_self _)).trans ((Below.heap_setCell _ _ _ _ (Nat.succ_ne_self _)).trans HS8.out)))
     have HB9 := Aside0.mk (below_step HB4.out HKW.out)
     have HQ9 := Aside0.mk (Kd.Q_below HQD.out HKW.out)
     (try rw [show L1.length - 1 = L1.tail.length by simp])
     rw [← e9]
     clear e9 hs0 hs1 hs2 hs3 HQD HB8 HJ8 HS8
     obtain ⟨ht0, ht1, ht2, ht3, _⟩ := blk_all4 HS9.out
     cases q1 with
     | false =>
      have HOM2 := Aside0.mk (show openM T = (0, T, some ⟨1, g1, L1.drop 1, z1, false⟩) from HOM.out.trans (if_neg (by simp)))
      go_wp2_with fail
      go_ret2
      unfold OpenPost
      rw [HOM2.out]
      exact ⟨w4.heap.size, rfl, Keeps.of_below HB9.out ok, opn_end (N4 := w4.heap.size) (Res.on _ HPB.out HB9.out) (fun k hk => .inl hk) (Nat.le_refl _) HB4.out.size HJ9.out HQ9.out⟩
     | true =>
      have HOM2 := Aside0.mk (HOM.out.trans (if_pos rfl))
      obtain ⟨hj0, hj1, hj2, hj3, hj4, hj5, _⟩ := blk_all6 HJ9.out
      go_wp2_with fail
      obtain ⟨wt, et⟩ : ∃ wt, wt = w9.drew := ⟨_, rfl⟩
      have HBT := Aside0.mk (show Below w9.heap.size w9 wt by rw [et]; exact below_drew (Below.refl _ _))
      replace hj1 := pw_cell_below HBT.out hj1
      replace ht1 := pw_cell_below HBT.out ht1
      have HJT := Aside0.mk ((HBT.out.block _ (blk_lt HJ9.out)).trans HJ9.out)
      have HST := Aside0.mk ((HBT.out.block _ (blk_lt HS9.out)).trans HS9.out)
      have HQT := Aside0.mk (Kd.Q_below HQ9.out HBT.out)
      have HBWT := Aside0.mk (below_step HB9.out HBT.out)
      obtain ⟨okY, hXT, hYD⟩ : ∃ okY : Nat → Prop, (PTape g T).P okY wt ∧ (∀ k, okY k ↔ (ok k ∧ k < W.heap.size) ∨ wt.heap.size ≤ k) := ⟨fun k => (ok k ∧ k < W.heap.size) ∨ wt.heap.size ≤ k, Res.mono _ (fun k hk => .inl hk) (Res.on _ HPB.out HBWT.out), fun k => Iff.rfl⟩
      have HXT := Aside0.mk hXT
      have HYD := Aside0.mk hYD
      have HYN := Aside0.mk (show ¬ okY w4.heap.size ∧ ¬ okY (w4.heap.size + 1) from by
       have h1 := blk_lt HJT.out
       have h2 := blk_lt HST.out
       have h3 := HB4.out.size
       refine ⟨fun h => ?_, fun h => ?_⟩
       ·rcases (hYD _).1 h with h | h
        ·have := h.2; omega
        ·omega
       ·rcases (hYD _).1 h with h | h
        ·have := h.2; omega
        ·omega)
      clear hXT hYD hj0 hj2 hj3 hj4 hj5 ht0 ht2 ht3
      refine start_ (n := 9) (S := fun w' => w'.cell? ⟨w4.heap.size, 1, none⟩ = some (.int .i64 1) ∧ w'.cell? ⟨w4.heap.size + 1, 1, none⟩ = some (.int .i64 z1)) (ds := []) #[false, false, false, false, false, false, false, false, false] (by kernel_rfl) rfl rfl ⟨(by rw [← et]; exact hj1), (by rw [← et]; exact ht1)⟩ (fun hHeld => ?_)
      rw [← et] at hHeld ⊢
      clear et
      refine pure_ (i := 0) (N := some 107) (v := ?_) (a' := ?_) #[true, false, false, false, false, false, false, false, false] rfl rfl (by kernel_rfl) (fun _ _ _ h => h) (Or.inl ⟨by rfl, ?_⟩) ?_ ?_
      rotate_left
      ·intro w'
       go_simp
       with_reducible rfl
      rotate_left
      ·simp only [Act.put, List.setIfInBounds_toArray, List.set_cons_zero, List.set_cons_succ, i64_w, i32_w]
       rfl
      refine pure_ (i := 1) (N := some 108) (v := ?_) (a' := ?_) #[true, true, false, false, false, false, false, false, false] rfl rfl (by kernel_rfl) (fun _ _ _ h => h) (Or.inl ⟨by rfl, ?_⟩) ?_ ?_
      rotate_left
      ·intro w'
       go_simp
       with_reducible rfl
      rotate_left
      ·simp only [Act.put, List.setIfInBounds_toArray, List.set_cons_zero, List.set_cons_succ, i64_w, i32_w]
       rfl
      refine pure_ (i := 2) (N := some 109) (v := ?_) (a' := ?_) #[true, true, true, false, false, false, false, false, false] rfl rfl (by kernel_rfl) (fun _ _ _ h => h) (Or.inl ⟨by rfl, ?_⟩) ?_ ?_
      rotate_left
      ·intro w'
       go_simp
       with_reducible rfl
      rotate_left
      ·simp only [Act.put, List.setIfInBounds_toArray, List.set_cons_zero, List.set_cons_succ, i64_w, i32_w]
       rfl
      refine pure_ (i := 3) (N := some 110) (v := ?_) (a' := ?_) #[true, true, true, true, false, false, false, false, false] rfl rfl (by kernel_rfl) (fun _ _ _ h => h) (Or.inl ⟨by rfl, ?_⟩) ?_ ?_
      rotate_left
      ·intro w'
       go_simp
       with_reducible rfl
      rotate_left
      ·simp only [Act.put, List.setIfInBounds_toArray, List.set_cons_zero, List.set_cons_succ, i64_w, i32_w]
       rfl
      refine pure_ (i := 5) (N := some 112) (v := ?_) (a' := ?_) #[true, true, true, true, false, true, false, false, false] rfl rfl (by kernel_rfl) (fun _ _ _ h => h) (Or.inl ⟨by rfl, ?_⟩) ?_ ?_
      rotate_left
      ·intro w'
       go_simp
       with_reducible rfl
      rotate_left
      ·simp only [Act.put, List.setIfInBounds_toArray, List.set_cons_zero, List.set_cons_succ, i64_w, i32_w]
       rfl
      refine take_ (i := 4) (N := some 111) (v := ?_) (a' := ?_) #[true, true, true, true, true, true, false, false, false] rfl rfl (by kernel_rfl) (fun _ _ _ h => h) (Or.inl ⟨by rfl, ?_⟩) hHeld ?_ ?_
      rotate_left
      ·rintro w' ⟨s0, s1⟩
       go_simp
       with_reducible rfl
      rotate_left
      ·simp only [Act.put, List.setIfInBounds_toArray, List.set_cons_zero, List.set_cons_succ, i64_w, i32_w]
       rfl
      refine take_ (i := 6) (N := some 113) (v := ?_) (a' := ?_) #[true, true, true, true, true, true, true, false, false] rfl rfl (by kernel_rfl) (fun _ _ _ h => h) (Or.inl ⟨by rfl, ?_⟩) hHeld ?_ ?_
      rotate_left
      ·rintro w' ⟨s0, s1⟩
       go_simp
       with_reducible rfl
      rotate_left
      ·simp only [Act.put, List.setIfInBounds_toArray, List.set_cons_zero, List.set_cons_succ, i64_w, i32_w]
       rfl
      refine one_ (i := 7) (N := some 114) #[true, true, true, true, true, true, true, true, false] rfl rfl (by kernel_rfl) (by decide) (fun K hK => ?_)
      refine goes_ Try.func36 (by kernel_rfl) rfl #[.pointer (some ⟨g, 0, none⟩), .int .i64 1, .int .i64 z1] (by rfl) rfl rfl (by simp only [List.map_toArray, List.map_cons, List.map_nil]; rfl) ?_
      with_reducible refine ((tape_Trim.calls g T N HT.out (by have := HNN.out; omega) 1 z1 wt okY HXT.out)).mono ?_
      rintro e wu ⟨rfl, ht⟩
      have HTT := Aside0.mk ht
      clear ht
      refine ⟨_, rfl, ?_⟩
      refine hK.out _ _ ⟨(pw_keeps HTT.out.1 HYN.out.1 hj1), (pw_keeps HTT.out.1 HYN.out.2 ht1)⟩ (fun hHeld => ?_)
      clear hK K
      refine norm_ (a' := ?_) ?_ ?_
      rotate_left
      ·show Act.put _ (some 114) _ = _
       simp only [Act.put, List.setIfInBounds_toArray, List.set_cons_zero, List.set_cons_succ, i64_w, i32_w]
       rfl
      refine pure_ (i := 8) (N := some 14) (v := ?_) (a' := ?_) #[true, true, true, true, true, true, true, true, true] rfl rfl (by kernel_rfl) (fun _ _ _ h => h) (Or.inl ⟨by rfl, ?_⟩) ?_ ?_
      rotate_left
      ·intro w'
       go_simp
       with_reducible rfl
      rotate_left
      ·simp only [Act.put, List.setIfInBounds_toArray, List.set_cons_zero, List.set_cons_succ, i64_w, i32_w]
       rfl
      refine done_ (by kernel_rfl) ?_
      clear hHeld hj1 ht1
      obtain ⟨T1, eT1⟩ : ∃ x, T.trim 1 z1 = x := ⟨_, rfl⟩
      obtain ⟨e1, ee1⟩ : ∃ x, T.trimE 1 z1 = x := ⟨_, rfl⟩
      have HOM3 := Aside0.mk (show openM T = (if e1 ≠ 0 then (e1, T1, none) else if T1.ready 0 ≠ 0 then (T1.ready 0, T1.sync, none) else (0, T1.sync, some ⟨1, g1, L1.drop 1, z1, false⟩)) by rw [← eT1, ← ee1]; exact HOM2.out)
      have HTO1 := Aside0.mk (show T1.Ok (N + 1) from eT1 ▸ TM.trim_ok HT.out _ _)
      rw [eT1] at HTT
      rw [ee1]
      have HJU := Aside0.mk ((HTT.out.1.block _ (blk_lt HJT.out) HYN.out.1).trans HJT.out)
      have HQU := Aside0.mk (Kd.Q_step HQT.out (fun k hk hlt => HTT.out.1.block k hlt (fun hh => by rcases (HYD.out k).1 hh with h | h; have := h.2; have := hk.1; omega; have := hk.2; have := blk_lt HJT.out; omega)))
      have HKU := Aside0.mk (show Keeps W wu (fun k => ok k ∧ k < W.heap.size) from (Keeps.of_below HBWT.out _).then_ HTT.out.1 (fun k hk => ((HYD.out k).1 hk).imp id (Nat.le_trans HBWT.out.size)))
      have HXU := Aside0.mk (Res.mono (PTape g T1) (ok' := okY) (fun k hk => hk.elim id (fun h => (HYD.out k).2 (.inr h))) HTT.out.2)
      have HSU := Aside0.mk HTT.out.1.size
      clear eT1 ee1 HTT HQT HJT HST HXT
      by_cases h1 : e1 ≠ 0
      ·have c1 : (e1 != 0) = true := by simp [h1]
       have c2 : (e1 == 0) = false := by simp [h1]
       have HOM4 := Aside0.mk (HOM3.out.trans (if_pos h1))
       clear h1
       go_wp2_with fail
       go_ret2
       unfold OpenPost
       rw [HOM4.out]
       exact ⟨rfl, HKU.out.mono (fun k _ hk => hk.1), Res.mono _ (fun k hk => ((HYD.out k).1 hk).imp (·.1) (Nat.le_trans HBWT.out.size)) HXU.out⟩
      have c1 : (e1 != 0) = false := by simpa using h1
      have c2 : (e1 == 0) = true := by simpa using h1
      have HOM4 := Aside0.mk (HOM3.out.trans (if_neg h1))
      have he0 : e1 = 0 := by omega
      subst he0
      clear h1 c1 c2
      go_wp2_with fail
      refine (tape_Sync.calls g T1 (N + 1) HTO1.out wu okY HXU.out).mono ?_
      rintro e wv ⟨rfl, ht⟩
      obtain ⟨T2, eT2⟩ : ∃ x, T1.sync = x := ⟨_, rfl⟩
      obtain ⟨e2, ee2⟩ : ∃ x, T1.ready 0 = x := ⟨_, rfl⟩
      rw [eT2] at ht HOM4
      rw [ee2] at HOM4 ⊢
      have HJV := Aside0.mk ((ht.1.block _ (blk_lt HJU.out) HYN.out.1).trans HJU.out)
      have HQV := Aside0.mk (Kd.Q_step HQU.out (fun k hk hlt => ht.1.block k hlt (fun hh => by rcases (HYD.out k).1 hh with h | h; have := h.2; have := hk.1; omega; have := hk.2; have := HKW.out.size; have := HBT.out.size; omega)))
      have HKV := Aside0.mk (show Keeps W wv (fun k => ok k ∧ k < W.heap.size) from HKU.out.then_ ht.1 (fun k hk => ((HYD.out k).1 hk).imp id (Nat.le_trans HBWT.out.size)))
      have HXV := Aside0.mk (Res.mono (PTape g T2) (ok' := okY) (fun k hk => hk.elim id (fun h => (HYD.out k).2 (.inr (Nat.le_trans HSU.out h)))) ht.2)
      clear eT2 ee2 ht
      by_cases h2 : e2 ≠ 0
      ·have c1 : (e2 != 0) = true := by simp [h2]
       have c2 : (e2 == 0) = false := by simp [h2]
       have HOM5 := Aside0.mk (HOM4.out.trans (if_pos h2))
       clear h2
       go_wp2_with fail
       go_ret2
       unfold OpenPost
       rw [HOM5.out]
       exact ⟨rfl, HKV.out.mono (fun k _ hk => hk.1), Res.mono _ (fun k hk => ((HYD.out k).1 hk).imp (·.1) (Nat.le_trans HBWT.out.size)) HXV.out⟩
      have c1 : (e2 != 0) = false := by simpa using h2
      have c2 : (e2 == 0) = true := by simpa using h2
      have HOM5 := Aside0.mk (HOM4.out.trans (if_neg h2))
      clear h2
      go_wp2_with fail
      go_ret2
      unfold OpenPost
      rw [HOM5.out]
      exact ⟨w4.heap.size, rfl, HKV.out.mono (fun k _ hk => hk.1), opn_end HXV.out (fun k hk => ((HYD.out k).1 hk).imp id (fun h => ⟨Nat.le_trans HBWT.out.size h, Nat.lt_of_lt_of_le (Nat.lt_of_lt_of_le (blk_lt HJ9.out) HBT.out.size) h⟩)) (Nat.le_refl _) HB4.out.size HJV.out HQV.out⟩
   ·have HGE := Aside0.mk (show 0 ≤ g1 ∧ g1 < g0 from ⟨HGL.out.2, by omega⟩)
    have b3 : decide (g0 < g1) = false := decide_eq_false hC3
    have b4 : (g0 == 0) = false := by have := HGL.out.2; simp; omega
    clear hC1 hC2 hC3
    have HL := Aside0.mk (show 1 ≤ L0.length from HNE0.out (by have := HGE.out; omega))
    have hcd := hcut_fromR 1 A0 L0.length c0 HL.out
    obtain ⟨Ad, eAd⟩ : ∃ x, (if c0 = 1 then A0 else A0.map (·.add (1 * 1))) = x := ⟨_, rfl⟩
    rw [eAd, show L0.length - 1 = L0.tail.length by simp] at hcd
    rw [show ((1 : Nat) : Int) = 1 from rfl] at hcd
    have HQD := Aside0.mk (show (Kd.slice 5 (Kd.int .u8)).Q 30 w4 0 (fun k => W.heap.size + 1 ≤ k ∧ k < w4.heap.size) (.slice Ad L0.tail.length (c0 - 1)) (L0.drop 1) by
     have := Kd.Q_drop (Kd.Q_of_R (Res.bound (RowL _ _) HR0.out)) (k := 1) HL.out
     rw [show (Kd.slice 5 (Kd.int .u8)).sz = 1 from rfl, eAd, show L0.length - 1 = L0.tail.length by simp] at this
     exact this)
    have HOM := Aside0.mk (show openM T = _ by unfold openM; rw [if_neg (by rw [HRDY0.out]; decide), if_neg (by rw [HE0.out, HE1.out, HRT.out.1, HRT.out.2]; simp), if_neg (by rw [HE0.out, HE1.out]; have := HGE.out; simp only; omega), if_neg (by rw [HE0.out, HE1.out]; have := HGE.out; simp only; omega), HE0.out, HE1.out, show pickM (L0, z0, q0, g0, r0) (L1, z1, q1, g1, r1) = (0, (L0, z0, q0, g0, r0)) from if_neg (by have := HGE.out; simp only; omega)])
    clear eAd
    obtain ⟨a0, a1, a2, a3, a4, a5, a6, a7, _⟩ := blk_all8 (blk_alloc HG4.out (.cells #[.pointer (some ⟨g, 0, none⟩), .int .i64 0, .int .i64 0, .slice none 0 0, .int .i64 0, .bool false] 71))
    go_wp2_with fail
    obtain ⟨w8, e8⟩ : ∃ w8, w8 = ((w4.alloc (.cells #[.pointer (some ⟨g, 0, none⟩), .int .i64 0, .int .i64 0, .slice none 0 0, .int .i64 0, .bool false] 71)).alloc (.cells #[.slice A0 L0.length c0, .int .i64 z0, .bool q0, .int .i64 g0] 64)).drew := ⟨_, rfl⟩
    have HB8 := Aside0.mk (show Below w4.heap.size w4 w8 by rw [e8]; exact below_drew (below_alloc (below_alloc (Below.refl _ _) _) _))
    have HJ8 := Aside0.mk (show w8.heap[w4.heap.size]? = some (.cells #[.pointer (some ⟨g, 0, none⟩), .int .i64 0, .int .i64 0, .slice none 0 0, .int .i64 0, .bool false] 71 (0, 0)) by rw [e8]; exact (boxes2 w4 _ _).1)
    have HS8 := Aside0.mk (show w8.heap[w4.heap.size + 1]? = some (.cells #[.slice A0 L0.length c0, .int .i64 z0, .bool q0, .int .i64 g0] 64 (0, 0)) by rw [e8]; exact (boxes2 w4 _ _).2)
    obtain ⟨hs0, hs1, hs2, hs3, _⟩ := blk_all4 HS8.out
    obtain ⟨hy0, hy1, hy2, hy3, hy4, hy5, hf0, hf1, hf2, hf3, hf4, hf5⟩ := blk_all6 HJ8.out
    clear a0 a1 a2 a3 a4 a5 a6 a7 x0 x1 x2 x3 x4 x5 x6 x7
    refine start_ (n := 19) (S := fun w' => w'.cell? ⟨w4.heap.size + 1, 3, none⟩ = some (.int .i64 g0) ∧ w'.cell? ⟨w4.heap.size + 1, 0, none⟩ = some (.slice A0 L0.length c0) ∧ w'.cell? ⟨w4.heap.size + 1, 1, none⟩ = some (.int .i64 z0)) (ds := [18]) #[false, false, false, false, false, false, false, false, false, false, false, false, false, false, false, false, false, false, false] (by kernel_rfl) rfl rfl ⟨(by rw [← e8]; exact hs3), (by rw [← e8]; exact hs0), (by rw [← e8]; exact hs1)⟩ (fun hHeld => ?_)
    rw [← e8] at hHeld ⊢
    clear e8
    refine pure_ (i := 0) (N := some 89) (v := ?_) (a' := ?_) #[true, false, false, false, false, false, false, false, false, false, false, false, false, false, false, false, false, false, false] rfl rfl (by kernel_rfl) (fun _ _ _ h => h) (Or.inl ⟨by rfl, ?_⟩) ?_ ?_
    rotate_left
    ·intro w'
     go_simp
     with_reducible rfl
    rotate_left
    ·simp only [Act.put, List.setIfInBounds_toArray, List.set_cons_zero, List.set_cons_succ, i64_w, i32_w]
     rfl
    refine pure_ (i := 1) (N := some 90) (v := ?_) (a' := ?_) #[true, true, false, false, false, false, false, false, false, false, false, false, false, false, false, false, false, false, false] rfl rfl (by kernel_rfl) (fun _ _ _ h => h) (Or.inl ⟨by rfl, ?_⟩) ?_ ?_
    rotate_left
    ·intro w'
     go_simp
     with_reducible rfl
    rotate_left
    ·simp only [Act.put, List.setIfInBounds_toArray, List.set_cons_zero, List.set_cons_succ, i64_w, i32_w]
     rfl
    refine pure_ (i := 2) (N := some 91) (v := ?_) (a' := ?_) #[true, true, true, false, false, false, false, false, false, false, false, false, false, false, false, false, false, false, false] rfl rfl (by kernel_rfl) (fun _ _ _ h => h) (Or.inl ⟨by rfl, ?_⟩) ?_ ?_
    rotate_left
    ·intro w'
     go_simp
     with_reducible rfl
    rotate_left
    ·simp only [Act.put, List.setIfInBounds_toArray, List.set_cons_zero, List.set_cons_succ, i64_w, i32_w]
     rfl
    refine pure_ (i := 3) (N := some 92) (v := ?_) (a' := ?_) #[true, true, true, true, false, false, false, false, false, false, false, false, false, false, false, false, false, false, false] rfl rfl (by kernel_rfl) (fun _ _ _ h => h) (Or.inl ⟨by rfl, ?_⟩) ?_ ?_
    rotate_left
    ·intro w'
     go_simp
     with_reducible rfl
    rotate_left
    ·simp only [Act.put, List.setIfInBounds_toArray, List.set_cons_zero, List.set_cons_succ, i64_w, i32_w]
     rfl
    refine pure_ (i := 5) (N := some 94) (v := ?_) (a' := ?_) #[true, true, true, true, false, true, false, false, false, false, false, false, false, false, false, false, false, false, false] rfl rfl (by kernel_rfl) (fun _ _ _ h => h) (Or.inl ⟨by rfl, ?_⟩) ?_ ?_
    rotate_left
    ·intro w'
     go_simp
     with_reducible rfl
    rotate_left
    ·simp only [Act.put, List.setIfInBounds_toArray, List.set_cons_zero, List.set_cons_succ, i64_w, i32_w]
     rfl
    refine pure_ (i := 8) (N := some 97) (v := ?_) (a' := ?_) #[true, true, true, true, false, true, false, false, true, false, false, false, false, false, false, false, false, false, false] rfl rfl (by kernel_rfl) (fun _ _ _ h => h) (Or.inl ⟨by rfl, ?_⟩) ?_ ?_
    rotate_left
    ·intro w'
     go_simp
     with_reducible rfl
    rotate_left
    ·simp only [Act.put, List.setIfInBounds_toArray, List.set_cons_zero, List.set_cons_succ, i64_w, i32_w]
     rfl
    refine take_ (i := 4) (N := some 93) (v := ?_) (a' := ?_) #[true, true, true, true, true, true, false, false, true, false, false, false, false, false, false, false, false, false, false] rfl rfl (by kernel_rfl) (fun _ _ _ h => h) (Or.inl ⟨by rfl, ?_⟩) hHeld ?_ ?_
    rotate_left
    ·rintro w' ⟨s0, s1, s2⟩
     go_simp
     with_reducible rfl
    rotate_left
    ·simp only [Act.put, List.setIfInBounds_toArray, List.set_cons_zero, List.set_cons_succ, i64_w, i32_w]
     rfl
    refine pure_ (i := 10) (N := some 99) (v := ?_) (a' := ?_) #[true, true, true, true, true, true, false, false, true, false, true, false, false, false, false, false, false, false, false] rfl rfl (by kernel_rfl) (fun _ _ _ h => h) (Or.inl ⟨by rfl, ?_⟩) ?_ ?_
    rotate_left
    ·intro w'
     go_simp
     with_reducible rfl
    rotate_left
    ·simp only [Act.put, List.setIfInBounds_toArray, List.set_cons_zero, List.set_cons_succ, i64_w, i32_w]
     rfl
    refine pure_ (i := 11) (N := some 100) (v := ?_) (a' := ?_) #[true, true, true, true, true, true, false, false, true, false, true, true, false, false, false, false, false, false, false] rfl rfl (by kernel_rfl) (fun _ _ _ h => h) (Or.inl ⟨by rfl, ?_⟩) ?_ ?_
    rotate_left
    ·intro w'
     go_simp
     with_reducible rfl
    rotate_left
    ·simp only [Act.put, List.setIfInBounds_toArray, List.set_cons_zero, List.set_cons_succ, i64_w, i32_w]
     rfl
    refine take_ (i := 6) (N := some 95) (v := ?_) (a' := ?_) #[true, true, true, true, true, true, true, false, true, false, true, true, false, false, false, false, false, false, false] rfl rfl (by kernel_rfl) (fun _ _ _ h => h) (Or.inl ⟨by rfl, ?_⟩) hHeld ?_ ?_
    rotate_left
    ·rintro w' ⟨s0, s1, s2⟩
     go_simp
     with_reducible rfl
    rotate_left
    ·simp only [Act.put, List.setIfInBounds_toArray, List.set_cons_zero, List.set_cons_succ, i64_w, i32_w]
     rfl
    refine pure_ (i := 7) (N := some 96) (v := ?_) (a' := ?_) #[true, true, true, true, true, true, true, true, true, false, true, true, false, false, false, false, false, false, false] rfl rfl (by kernel_rfl) (fun _ _ _ h => h) (Or.inl ⟨by rfl, ?_⟩) ?_ ?_
    rotate_left
    ·intro w'
     go_simp
     with_reducible rfl
    rotate_left
    ·simp only [Act.put, List.setIfInBounds_toArray, List.set_cons_zero, List.set_cons_succ, i64_w, i32_w]
     rfl
    refine take_ (i := 9) (N := some 98) (v := ?_) (a' := ?_) #[true, true, true, true, true, true, true, true, true, true, true, true, false, false, false, false, false, false, false] rfl rfl (by kernel_rfl) (fun _ _ _ h => h) (Or.inl ⟨by rfl, ?_⟩) hHeld ?_ ?_
    rotate_left
    ·rintro w' ⟨s0, s1, s2⟩
     go_simp
     with_reducible rfl
    rotate_left
    ·simp only [Act.put, List.setIfInBounds_toArray, List.set_cons_zero, List.set_cons_succ, i64_w, i32_w]
     rfl
    refine one_ (i := 12) (N := none) #[true, true, true, true, true, true, true, true, true, true, true, true, true, false, false, false, false, false, false] rfl rfl (by kernel_rfl) (by decide) (fun K hK => ?_)
    refine skip_ (w1 := ?_) (by rfl) rfl ?_ ?_
    rotate_left
    ·go_simp
     rfl
    refine hK.out _ _ ⟨((World.cell?_setCell_other _ ⟨w4.heap.size, 2, none⟩ ⟨w4.heap.size + 1, 3, none⟩ _ (by simp)).trans hs3), ((World.cell?_setCell_other _ ⟨w4.heap.size, 2, none⟩ ⟨w4.heap.size + 1, 0, none⟩ _ (by simp)).trans hs0), ((World.cell?_setCell_other _ ⟨w4.heap.size, 2, none⟩ ⟨w4.heap.size + 1, 1, none⟩ _ (by simp)).trans hs1)⟩ (fun hHeld => ?_)
    clear hK K
    refine pure_ (i := 13) (N := some 101) (v := ?_) (a' := ?_) #[true, true, true, true, true, true, true, true, true, true, true, true, true, true, false, false, false, false, false] rfl rfl (by kernel_rfl) (fun _ _ _ h => h) (Or.inl ⟨by rfl, ?_⟩) ?_ ?_
    rotate_left
    ·intro w'
     go_simp
     with_reducible rfl
    rotate_left
    ·simp only [Act.put, List.setIfInBounds_toArray, List.set_cons_zero, List.set_cons_succ, i64_w, i32_w]
     rfl
    refine pure_ (i := 14) (N := some 102) (v := ?_) (a' := ?_) #[true, true, true, true, true, true, true, true, true, true, true, true, true, true, true, false, false, false, false] rfl rfl (by kernel_rfl) (fun _ _ _ h => h) (Or.inl ⟨by rfl, ?_⟩) ?_ ?_
    rotate_left
    ·intro w'
     go_simp
     with_reducible rfl
    rotate_left
    ·simp only [Act.put, List.setIfInBounds_toArray, List.set_cons_zero, List.set_cons_succ, i64_w, i32_w]
     rfl
    refine one_ (i := 15) (N := none) #[true, true, true, true, true, true, true, true, true, true, true, true, true, true, true, true, false, false, false] rfl rfl (by kernel_rfl) (by decide) (fun K hK => ?_)
    refine skip_ (w1 := ?_) (by rfl) rfl ?_ ?_
    rotate_left
    ·go_simp
     rfl
    refine hK.out _ _ ⟨((World.cell?_setCell_other _ ⟨w4.heap.size, 3, none⟩ ⟨w4.heap.size + 1, 3, none⟩ _ (by simp)).trans ((World.cell?_setCell_other _ ⟨w4.heap.size, 2, none⟩ ⟨w4.heap.size + 1, 3, none⟩ _ (by simp)).trans hs3)), ((World.cell?_setCell_other _ ⟨w4.heap.size, 3, none⟩ ⟨w4.heap.size + 1, 0, none⟩ _ (by simp)).trans ((World.cell?_setCell_other _ ⟨w4.heap.size, 2, none⟩ ⟨w4.heap.size + 1, 0, none⟩ _ (by simp)).trans hs0)), ((World.cell?_setCell_other _ ⟨w4.heap.size, 3, none⟩ ⟨w4.heap.size + 1, 1, none⟩ _ (by simp)).trans ((World.cell?_setCell_other _ ⟨w4.heap.size, 2, none⟩ ⟨w4.heap.size + 1, 1, none⟩ _ (by simp)).trans hs1))⟩ (fun hHeld => ?_)
    clear hK K
    refine pure_ (i := 16) (N := some 103) (v := ?_) (a' := ?_) #[true, true, true, true, true, true, true, true, true, true, true, true, true, true, true, true, true, false, false] rfl rfl (by kernel_rfl) (fun _ _ _ h => h) (Or.inl ⟨by rfl, ?_⟩) ?_ ?_
    rotate_left
    ·intro w'
     go_simp
     with_reducible rfl
    rotate_left
    ·simp only [Act.put, List.setIfInBounds_toArray, List.set_cons_zero, List.set_cons_succ, i64_w, i32_w]
     rfl
    refine pure_ (i := 17) (N := some 104) (v := ?_) (a' := ?_) #[true, true, true, true, true, true, true, true, true, true, true, true, true, true, true, true, true, true, false] rfl rfl (by kernel_rfl) (fun _ _ _ h => h) (Or.inl ⟨by rfl, ?_⟩) ?_ ?_
    rotate_left
    ·intro w'
     go_simp
     with_reducible rfl
    rotate_left
    ·simp only [Act.put, List.setIfInBounds_toArray, List.set_cons_zero, List.set_cons_succ, i64_w, i32_w]
     rfl
    refine last_ (i := 18) (N := none) #[true, true, true, true, true, true, true, true, true, true, true, true, true, true, true, true, true, true, true] rfl rfl (by kernel_rfl) (by decide) (fun K hK => ?_)
    refine skip_ (w1 := ?_) (by rfl) rfl ?_ ?_
    rotate_left
    ·go_simp
     rfl
    refine hK.out _ _ ?_
    clear hK K
    refine done_ (by kernel_rfl) ?_
    clear hy0 hy1 hy2 hy3 hy4 hy5 hf0 hf1 hf2 hf3 hf4 hf5 hHeld
    rw [show L0.length - 1 = L0.tail.length by simp]
    obtain ⟨w9, e9⟩ : ∃ w9, w9 = ((w8.setCell ⟨w4.heap.size, 2, none⟩ (.int .i64 g0)).setCell ⟨w4.heap.size, 3, none⟩ (.slice Ad L0.tail.length (c0 - 1))).setCell ⟨w4.heap.size, 4, none⟩ (.int .i64 z0) := ⟨_, rfl⟩
    have HJ9 := Aside0.mk (show w9.heap[w4.heap.size]? = some (.cells #[.pointer (some ⟨g, 0, none⟩), .int .i64 0, .int .i64 g0, .slice Ad L0.tail.length (c0 - 1), .int .i64 z0, .bool false] 71 (0, 0)) by rw [e9]; exact blk_put (blk_put (blk_put HJ8.out 2 _ rfl) 3 _ rfl) 4 _ rfl)
    have HKW := Aside0.mk (show Below w4.heap.size w4 w9 by rw [e9]; exact (Keeps.set (S := fun _ => False) (Keeps.set (Keeps.set (Keeps.of_below HB8.out (fun _ => False)) (p := ⟨w4.heap.size, 2, none⟩) (.inr (Nat.le_refl _)) _) (p := ⟨w4.heap.size, 3, none⟩) (.inr (Nat.le_refl _)) _) (p := ⟨w4.heap.size, 4, none⟩) (.inr (Nat.le_refl _)) _).belowF)
    have HS9 := Aside0.mk (show w9.heap[w4.heap.size + 1]? = some (.cells #[.slice A0 L0.length c0, .int .i64 z0, .bool q0, .int .i64 g0] 64 (0, 0)) by rw [e9]; exact (Below.heap_setCell _ _ _ _ (Nat.succ_ne_self _)).trans ((Below.heap_setCell _ _ _ _ (Nat.succ_ne_self _)).trans ((Below.heap_setCell _ _ _ _ (Nat.succ_ne_self _)).trans HS8.out)))
    have HB9 := Aside0.mk (below_step HB4.out HKW.out)
    have HQ9 := Aside0.mk (Kd.Q_below HQD.out HKW.out)
    (try rw [show L0.length - 1 = L0.tail.length by simp])
    rw [← e9]
    clear e9 hs0 hs1 hs2 hs3 HQD HB8 HJ8 HS8
    obtain ⟨ht0, ht1, ht2, ht3, _⟩ := blk_all4 HS9.out
    cases q0 with
    | false =>
     have HOM2 := Aside0.mk (show openM T = (0, T, some ⟨0, g0, L0.drop 1, z0, false⟩) from HOM.out.trans (if_neg (by simp)))
     go_wp2_with fail
     go_ret2
     unfold OpenPost
     rw [HOM2.out]
     exact ⟨w4.heap.size, rfl, Keeps.of_below HB9.out ok, opn_end (N4 := w4.heap.size) (Res.on _ HPB.out HB9.out) (fun k hk => .inl hk) (Nat.le_refl _) HB4.out.size HJ9.out HQ9.out⟩
    | true =>
     have HOM2 := Aside0.mk (HOM.out.trans (if_pos rfl))
     obtain ⟨hj0, hj1, hj2, hj3, hj4, hj5, _⟩ := blk_all6 HJ9.out
     go_wp2_with fail
     obtain ⟨wt, et⟩ : ∃ wt, wt = w9.drew := ⟨_, rfl⟩
     have HBT := Aside0.mk (show Below w9.heap.size w9 wt by rw [et]; exact below_drew (Below.refl _ _))
     replace hj1 := pw_cell_below HBT.out hj1
     replace ht1 := pw_cell_below HBT.out ht1
     have HJT := Aside0.mk ((HBT.out.block _ (blk_lt HJ9.out)).trans HJ9.out)
     have HST := Aside0.mk ((HBT.out.block _ (blk_lt HS9.out)).trans HS9.out)
     have HQT := Aside0.mk (Kd.Q_below HQ9.out HBT.out)
     have HBWT := Aside0.mk (below_step HB9.out HBT.out)
     obtain ⟨okY, hXT, hYD⟩ : ∃ okY : Nat → Prop, (PTape g T).P okY wt ∧ (∀ k, okY k ↔ (ok k ∧ k < W.heap.size) ∨ wt.heap.size ≤ k) := ⟨fun k => (ok k ∧ k < W.heap.size) ∨ wt.heap.size ≤ k, Res.mono _ (fun k hk => .inl hk) (Res.on _ HPB.out HBWT.out), fun k => Iff.rfl⟩
     have HXT := Aside0.mk hXT
     have HYD := Aside0.mk hYD
     have HYN := Aside0.mk (show ¬ okY w4.heap.size ∧ ¬ okY (w4.heap.size + 1) from by
      have h1 := blk_lt HJT.out
      have h2 := blk_lt HST.out
      have h3 := HB4.out.size
      refine ⟨fun h => ?_, fun h => ?_⟩
      ·rcases (hYD _).1 h with h | h
       ·have := h.2; omega
       ·omega
      ·rcases (hYD _).1 h with h | h
       ·have := h.2; omega
       ·omega)
     clear hXT hYD hj0 hj2 hj3 hj4 hj5 ht0 ht2 ht3
     refine start_ (n := 9) (S := fun w' => w'.cell? ⟨w4.heap.size, 1, none⟩ = some (.int .i64 0) ∧ w'.cell? ⟨w4.heap.size + 1, 1, none⟩ = some (.int .i64 z0)) (ds := []) #[false, false, false, false, false, false, false, false, false] (by kernel_rfl) rfl rfl ⟨(by rw [← et]; exact hj1), (by rw [← et]; exact ht1)⟩ (fun hHeld => ?_)
     rw [← et] at hHeld ⊢
     clear et
     refine pure_ (i := 0) (N := some 107) (v := ?_) (a' := ?_) #[true, false, false, false, false, false, false, false, false] rfl rfl (by kernel_rfl) (fun _ _ _ h => h) (Or.inl ⟨by rfl, ?_⟩) ?_ ?_
     rotate_left
     ·intro w'
      go_simp
      with_reducible rfl
     rotate_left
     ·simp only [Act.put, List.setIfInBounds_toArray, List.set_cons_zero, List.set_cons_succ, i64_w, i32_w]
      rfl
     refine pure_ (i := 1) (N := some 108) (v := ?_) (a' := ?_) #[true, true, false, false, false, false, false, false, false] rfl rfl (by kernel_rfl) (fun _ _ _ h => h) (Or.inl ⟨by rfl, ?_⟩) ?_ ?_
     rotate_left
     ·intro w'
      go_simp
      with_reducible rfl
     rotate_left
     ·simp only [Act.put, List.setIfInBounds_toArray, List.set_cons_zero, List.set_cons_succ, i64_w, i32_w]
      rfl
     refine pure_ (i := 2) (N := some 109) (v := ?_) (a' := ?_) #[true, true, true, false, false, false, false, false, false] rfl rfl (by kernel_rfl) (fun _ _ _ h => h) (Or.inl ⟨by rfl, ?_⟩) ?_ ?_
     rotate_left
     ·intro w'
      go_simp
      with_reducible rfl
     rotate_left
     ·simp only [Act.put, List.setIfInBounds_toArray, List.set_cons_zero, List.set_cons_succ, i64_w, i32_w]
      rfl
     refine pure_ (i := 3) (N := some 110) (v := ?_) (a' := ?_) #[true, true, true, true, false, false, false, false, false] rfl rfl (by kernel_rfl) (fun _ _ _ h => h) (Or.inl ⟨by rfl, ?_⟩) ?_ ?_
     rotate_left
     ·intro w'
      go_simp
      with_reducible rfl
     rotate_left
     ·simp only [Act.put, List.setIfInBounds_toArray, List.set_cons_zero, List.set_cons_succ, i64_w, i32_w]
      rfl
     refine pure_ (i := 5) (N := some 112) (v := ?_) (a' := ?_) #[true, true, true, true, false, true, false, false, false] rfl rfl (by kernel_rfl) (fun _ _ _ h => h) (Or.inl ⟨by rfl, ?_⟩) ?_ ?_
     rotate_left
     ·intro w'
      go_simp
      with_reducible rfl
     rotate_left
     ·simp only [Act.put, List.setIfInBounds_toArray, List.set_cons_zero, List.set_cons_succ, i64_w, i32_w]
      rfl
     refine take_ (i := 4) (N := some 111) (v := ?_) (a' := ?_) #[true, true, true, true, true, true, false, false, false] rfl rfl (by kernel_rfl) (fun _ _ _ h => h) (Or.inl ⟨by rfl, ?_⟩) hHeld ?_ ?_
     rotate_left
     ·rintro w' ⟨s0, s1⟩
      go_simp
      with_reducible rfl
     rotate_left
     ·simp only [Act.put, List.setIfInBounds_toArray, List.set_cons_zero, List.set_cons_succ, i64_w, i32_w]
      rfl
     refine take_ (i := 6) (N := some 113) (v := ?_) (a' := ?_) #[true, true, true, true, true, true, true, false, false] rfl rfl (by kernel_rfl) (fun _ _ _ h => h) (Or.inl ⟨by rfl, ?_⟩) hHeld ?_ ?_
     rotate_left
     ·rintro w' ⟨s0, s1⟩
      go_simp
      with_reducible rfl
     rotate_left
     ·simp only [Act.put, List.setIfInBounds_toArray, List.set_cons_zero, List.set_cons_succ, i64_w, i32_w]
      rfl
     refine one_ (i := 7) (N := some 114) #[true, true, true, true, true, true, true, true, false] rfl rfl (by kernel_rfl) (by decide) (fun K hK => ?_)
     refine goes_ Try.func36 (by kernel_rfl) rfl #[.pointer (some ⟨g, 0, none⟩), .int .i64 0, .int .i64 z0] (by rfl) rfl rfl (by simp only [List.map_toArray, List.map_cons, List.map_nil]; rfl) ?_
     with_reducible refine ((tape_Trim.calls g T N HT.out (by have := HNN.out; omega) 0 z0 wt okY HXT.out)).mono ?_
     rintro e wu ⟨rfl, ht⟩
     have HTT := Aside0.mk ht
     clear ht
     refine ⟨_, rfl, ?_⟩
     refine hK.out _ _ ⟨(pw_keeps HTT.out.1 HYN.out.1 hj1), (pw_keeps HTT.out.1 HYN.out.2 ht1)⟩ (fun hHeld => ?_)
     clear hK K
     refine norm_ (a' := ?_) ?_ ?_
     rotate_left
     ·show Act.put _ (some 114) _ = _
      simp only [Act.put, List.setIfInBounds_toArray, List.set_cons_zero, List.set_cons_succ, i64_w, i32_w]
      rfl
     refine pure_ (i := 8) (N := some 14) (v := ?_) (a' := ?_) #[true, true, true, true, true, true, true, true, true] rfl rfl (by kernel_rfl) (fun _ _ _ h => h) (Or.inl ⟨by rfl, ?_⟩) ?_ ?_
     rotate_left
     ·intro w'
      go_simp
      with_reducible rfl
     rotate_left
     ·simp only [Act.put, List.setIfInBounds_toArray, List.set_cons_zero, List.set_cons_succ, i64_w, i32_w]
      rfl
     refine done_ (by kernel_rfl) ?_
     clear hHeld hj1 ht1
     obtain ⟨T1, eT1⟩ : ∃ x, T.trim 0 z0 = x := ⟨_, rfl⟩
     obtain ⟨e1, ee1⟩ : ∃ x, T.trimE 0 z0 = x := ⟨_, rfl⟩
     have HOM3 := Aside0.mk (show openM T = (if e1 ≠ 0 then (e1, T1, none) else if T1.ready 0 ≠ 0 then (T1.ready 0, T1.sync, none) else (0, T1.sync, some ⟨0, g0, L0.drop 1, z0, false⟩)) by rw [← eT1, ← ee1]; exact HOM2.out)
     have HTO1 := Aside0.mk (show T1.Ok (N + 1) from eT1 ▸ TM.trim_ok HT.out _ _)
     rw [eT1] at HTT
     rw [ee1]
     have HJU := Aside0.mk ((HTT.out.1.block _ (blk_lt HJT.out) HYN.out.1).trans HJT.out)
     have HQU := Aside0.mk (Kd.Q_step HQT.out (fun k hk hlt => HTT.out.1.block k hlt (fun hh => by rcases (HYD.out k).1 hh with h | h; have := h.2; have := hk.1; omega; have := hk.2; have := blk_lt HJT.out; omega)))
     have HKU := Aside0.mk (show Keeps W wu (fun k => ok k ∧ k < W.heap.size) from (Keeps.of_below HBWT.out _).then_ HTT.out.1 (fun k hk => ((HYD.out k).1 hk).imp id (Nat.le_trans HBWT.out.size)))
     have HXU := Aside0.mk (Res.mono (PTape g T1) (ok' := okY) (fun k hk => hk.elim id (fun h => (HYD.out k).2 (.inr h))) HTT.out.2)
     have HSU := Aside0.mk HTT.out.1.size
     clear eT1 ee1 HTT HQT HJT HST HXT
     by_cases h1 : e1 ≠ 0
     ·have c1 : (e1 != 0) = true := by simp [h1]
      have c2 : (e1 == 0) = false := by simp [h1]
      have HOM4 := Aside0.mk (HOM3.out.trans (if_pos h1))
      clear h1
      go_wp2_with fail
      go_ret2
      unfold OpenPost
      rw [HOM4.out]
      exact ⟨rfl, HKU.out.mono (fun k _ hk => hk.1), Res.mono _ (fun k hk => ((HYD.out k).1 hk).imp (·.1) (Nat.le_trans HBWT.out.size)) HXU.out⟩
     have c1 : (e1 != 0) = false := by simpa using h1
     have c2 : (e1 == 0) = true := by simpa using h1
     have HOM4 := Aside0.mk (HOM3.out.trans (if_neg h1))
     have he0 : e1 = 0 := by omega
     subst he0
     clear h1 c1 c2
     go_wp2_with fail
     refine (tape_Sync.calls g T1 (N + 1) HTO1.out wu okY HXU.out).mono ?_
     rintro e wv ⟨rfl, ht⟩
     obtain ⟨T2, eT2⟩ : ∃ x, T1.sync = x := ⟨_, rfl⟩
     obtain ⟨e2, ee2⟩ : ∃ x, T1.ready 0 = x := ⟨_, rfl⟩
     rw [eT2] at ht HOM4
     rw [ee2] at HOM4 ⊢
     have HJV := Aside0.mk ((ht.1.block _ (blk_lt HJU.out) HYN.out.1).trans HJU.out)
     have HQV := Aside0.mk (Kd.Q_step HQU.out (fun k hk hlt => ht.1.block k hlt (fun hh => by rcases (HYD.out k).1 hh with h | h; have := h.2; have := hk.1; omega; have := hk.2; have := HKW.out.size; have := HBT.out.size; omega)))
     have HKV := Aside0.mk (show Keeps W wv (fun k => ok k ∧ k < W.heap.size) from HKU.out.then_ ht.1 (fun k hk => ((HYD.out k).1 hk).imp id (Nat.le_trans HBWT.out.size)))
     have HXV := Aside0.mk (Res.mono (PTape g T2) (ok' := okY) (fun k hk => hk.elim id (fun h => (HYD.out k).2 (.inr (Nat.le_trans HSU.out h)))) ht.2)
     clear eT2 ee2 ht
     by_cases h2 : e2 ≠ 0
     ·have c1 : (e2 != 0) = true := by simp [h2]
      have c2 : (e2 == 0) = false := by simp [h2]
      have HOM5 := Aside0.mk (HOM4.out.trans (if_pos h2))
      clear h2
      go_wp2_with fail
      go_ret2
      unfold OpenPost
      rw [HOM5.out]
      exact ⟨rfl, HKV.out.mono (fun k _ hk => hk.1), Res.mono _ (fun k hk => ((HYD.out k).1 hk).imp (·.1) (Nat.le_trans HBWT.out.size)) HXV.out⟩
     have c1 : (e2 != 0) = false := by simpa using h2
     have c2 : (e2 == 0) = true := by simpa using h2
     have HOM5 := Aside0.mk (HOM4.out.trans (if_neg h2))
     clear h2
     go_wp2_with fail
     go_ret2
     unfold OpenPost
     rw [HOM5.out]
     exact ⟨w4.heap.size, rfl, HKV.out.mono (fun k _ hk => hk.1), opn_end HXV.out (fun k hk => ((HYD.out k).1 hk).imp id (fun h => ⟨Nat.le_trans HBWT.out.size h, Nat.lt_of_lt_of_le (Nat.lt_of_lt_of_le (blk_lt HJ9.out) HBT.out.size) h⟩)) (Nat.le_refl _) HB4.out.size HJV.out HQV.out⟩
end Go.Proofs.Ytmfmoddaejoekaa.P
