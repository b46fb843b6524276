/- Contracts, typed by hand and by a program: the document's journal is opened. -/
import Derived.Test.YtmfmoddaejoekaaROpn
import Derived.Test.YtmfmoddaejoekaaHRHead
import Derived.Test.YtmfmoddaejoekaaP13
set_option linter.unusedVariables false
set_option linter.unusedSimpArgs false
namespace Go.Proofs.Ytmfmoddaejoekaa.P
open Go.RowKit Go.Proofs.YtmfmoddaejoekaaW.PrintWords Go.Proofs.YtmfmoddaejoekaaW.PrintLast Go.Proofs.YtmfmoddaejoekaaW.PrintMore
/-- Cells as they stand. -/
def raw (n : Nat) : Kd (List Value) where
 sz := n
 E := []
 K := fun _ x cs => cs = x ∧ x.length = n ∧ ∀ u ∈ x, u.oneCell' = true
 M := fun _ _ _ x cs => cs = x ∧ x.length = n ∧ ∀ u ∈ x, u.oneCell' = true
 K_len := fun h => by rw [h.1]; exact h.2.1
 K_one := fun h u hu => h.2.2 u (by rw [← h.1]; exact hu)
 K_below := fun _ h => h
 K_of_M := fun h => h
 M_mono := fun _ h => h
 M_bound := fun h => h
 M_move := fun _ h => h
 M_lower := fun _ h => h
abbrev sideV (A : Option Addr) (c : Nat) (S : List (List Int) × Nat × Nat) : List Value := [.slice A S.1.length c, .int .i64 (S.2.1 : Int), .int .i64 (S.2.2 : Int)]
/-- The sides that were read. -/
def SdsR (b : Nat) (T : TM) (i : Nat) (v : Value) (w : World) : Prop :=
 ∃ sdl : List (List Value), (raw 3).R 94 w 0 (fun k => b ≤ k) v sdl ∧ sdl.length = i ∧
  ∀ j, j < i → ∃ A c, sdl[j]? = some (sideV A c (readA (T.now (j : Nat)))) ∧ (readA (T.now (j : Nat))).1.length ≤ c ∧ Kd.F (Kd.slice 5 (Kd.int .u8)) w (fun k => b ≤ k ∧ some k ≠ v.ownBlock) A (readA (T.now (j : Nat))).1.length (readA (T.now (j : Nat))).1
theorem SdsR.step {b : Nat} {T : TM} {i : Nat} {v : Value} {w w' : World} (h : SdsR b T i v w) (hm : ∀ k, b ≤ k → k < w.heap.size → w'.heap[k]? = w.heap[k]?) : SdsR b T i v w' := by
 obtain ⟨sdl, h1, h2, h3⟩ := h
 refine ⟨sdl, Kd.R_step h1 hm, h2, fun j hj => ?_⟩
 obtain ⟨A, c, h4, h5, h6⟩ := h3 j hj
 exact ⟨A, c, h4, h5, Kd.F_step h6 (fun k hk hlt => hm k hk.1 hlt)⟩
theorem SdsR.below {b : Nat} {T : TM} {i : Nat} {v : Value} {w w' : World} (h : SdsR b T i v w) (hb : Below w.heap.size w w') : SdsR b T i v w' := h.step (fun k _ hlt => hb.block k hlt)
theorem SdsR.nil (b : Nat) (T : TM) (w : World) : SdsR b T 0 (.slice none 0 0) w := ⟨[], Kd.R_nil _ _ _ _ _, rfl, fun j hj => by omega⟩
theorem SdsR.lt {b : Nat} {T : TM} {i : Nat} {v : Value} {w : World} (h : SdsR b T i v w) : ∀ k, v.ownBlock = some k → k < w.heap.size := by
 obtain ⟨sdl, h1, _⟩ := h
 exact fun k hk => ((Kd.R_bound h1).1 k hk).2.2.1
theorem hinfoS : (Try.prog.info? 94).map (fun i => (i.zero, i.size, i.bytes)) = some (some (.agg #[.slice none 0 0, .int .i64 0, .int .i64 0]), 3, 40) := by kernel_rfl
/-- append(sides, s). -/
theorem sds_append {ops : Array Oper} {rest : List Oper} {o : Oper} {a : Act} {Q : Exit → Act → World → Prop} {w : World} {b d : Nat} {T : TM} {i : Nat} {v : Value} {A : Option Addr} {c : Nat} {S : List (List Int) × Nat × Nat} (hgd : o.guard = none) (s x : Operand)
  (ho : o.op = .call { callee := .builtin .append, args := #[s, x], argTypes := #[92, 92] })
  (hS : readA (T.now (i : Nat)) = S) (HS : SdsR b T i v w) (hs : a.eval s = v) (hx : a.eval x = .slice (some ⟨w.heap.size, 0, none⟩) 1 1) (hi : i ≤ 2) (hbd : b ≤ d) (hdw : d ≤ w.heap.size) (hvd : ∀ k, v.ownBlock = some k → k < d)
  (hc : S.1.length ≤ c) (hF : Kd.F (Kd.slice 5 (Kd.int .u8)) w (fun k => d ≤ k) A S.1.length S.1)
  (h : ∀ v1 w1, SdsR b T (i + 1) v1 w1 → Below b w w1 → (∀ k, d ≤ k → k < w.heap.size → w1.heap[k]? = w.heap[k]?) → wpList Try.prog ops Q rest (a.put o.dst v1) w1) :
  wpList Try.prog ops Q (o :: rest) a (w.alloc (.cells #[.slice A S.1.length c, .int .i64 (S.2.1 : Int), .int .i64 (S.2.2 : Int)] 94)) := by
 subst hS
 obtain ⟨sdl, h1, h2, h3⟩ := HS
 refine Kd.R_append (raw 3) (w0 := w) (W := w) 0 hgd s x 92 94 (.agg #[.slice none 0 0, .int .i64 0, .int .i64 0]) 40 ho Try.underlying92 hinfoS (by decide) (by decide) (by decide) v sdl (sideV A c (readA (T.now (i : Nat)))) (sideV A c (readA (T.now (i : Nat)))) (fun k => b ≤ k) (fun _ => False) hs hx ⟨rfl, rfl, fun u hu => ?_⟩ (fun _ hk => hk.elim) (fun k hk => Nat.le_trans hbd (Nat.le_trans hdw hk)) h1 (Below.refl 0 w) (Nat.zero_le _) (by omega) ?_
 ·simp only [List.mem_cons, List.mem_singleton, List.not_mem_nil, or_false] at hu
  rcases hu with rfl | rfl | rfl <;> rfl
 ·intro v1 w1 g1 _ g3 g4
  have hst : ∀ k, d ≤ k → k < w.heap.size → w1.heap[k]? = w.heap[k]? := fun k hk hlt => g3.block k hlt (fun he => by have := hvd k he.symm; omega)
  have g2 : Below b w w1 := ⟨g3.os, g3.tape, g3.output, g3.size, fun k hk => g3.block k (Nat.lt_of_lt_of_le hk (Nat.le_trans hbd hdw)) (fun he => Nat.lt_irrefl _ (Nat.lt_of_lt_of_le hk (h1.1 k he.symm)))⟩
  refine h v1 w1 ⟨sdl ++ [sideV A c (readA (T.now (i : Nat)))], g1, by simp [h2], fun j hj => ?_⟩ g2 hst
  by_cases e : j = i
  ·subst e
   refine ⟨A, c, by rw [List.getElem?_append_right (by omega), h2, Nat.sub_self]; rfl, hc, ?_⟩
   refine Kd.F_mono (Kd.F_step (Kd.F_bound hF) (fun k hk hlt => hst k hk.1 hlt)) (fun k hk => ⟨Nat.le_trans hbd hk.1, fun he => ?_⟩)
   rcases g4 with g4 | ⟨q, g4, g5⟩
   ·rw [g4] at he
    have := hvd k he.symm
    have := hk.1
    omega
   ·rw [g4] at he
    injection he with he
    have := hk.2
    omega
  ·obtain ⟨A', c', h4, h5, h6⟩ := h3 j (by omega)
   refine ⟨A', c', by rw [List.getElem?_append_left (by omega)]; exact h4, h5, ?_⟩
   refine Kd.F_mono (Kd.F_step (Kd.F_bound h6) (fun k hk hlt => g3.block k hlt hk.1.2)) (fun k hk => ⟨hk.1.1, fun he => ?_⟩)
   rcases g4 with g4 | ⟨q, g4, g5⟩
   ·exact hk.1.2 (he.trans g4)
   ·rw [g4] at he
    injection he with he
    have := hk.2
    omega
set_option maxHeartbeats 8000000 in
set_option maxRecDepth 100000 in
theorem rjournal_Open.no (w : World) (Fo : Nat → Prop) (g : Nat) (T : TM) (W : World) (ok : Nat → Prop) (hP : (RTape g T).P ok W) (hr : T.ready 0 ≠ 0) :
  Calls Try.prog 23 #[.pointer (some ⟨g, 0, none⟩)] W (ROpenPost w Fo g ok W (openM T)) := by
 have HM := Aside0.mk (show openM T = (T.ready 0, T, none) from by unfold openM; rw [if_pos hr])
 have HP := Aside0.mk hP
 have HRD := Aside0.mk hr
 obtain ⟨r, er⟩ : ∃ r, T.ready 0 = r := ⟨_, rfl⟩
 have HER := Aside0.mk er
 rw [er] at hr
 have b1 : (r != 0) = true := by simp [hr]
 have b2 : (r == 0) = false := by simp [hr]
 clear hP hr er
 go_enter Try.func23, Try.ntmps23
 go_wp2_with fail
 go_loopw [8] (fun s8 wr => s8 = .int .i64 0 ∧ Aside0 (Below W.heap.size W wr)) (fun s8 _ => 0)
 case atStart => exact ⟨rfl, ⟨below_alloc (Below.refl _ _) _⟩⟩
 case round =>
  obtain ⟨rfl, HB⟩ := hrel
  go_wp2_with fail
  refine (rtape_Read.no g T 0 wr ok ((RTape g T).on HP.out HB.out) HRD.out).mono ?_
  rintro e w1 ⟨rfl, rfl⟩
  rw [HER.out]
  go_wp2_with fail
  go_ret2
  unfold ROpenPost
  rw [HM.out, HER.out]
  exact ⟨rfl, Turned.from HB.out (Turned.refl ((RTape g T).on (Res.bound _ HP.out) HB.out))⟩
/-- What the loop of 'Open' has reached. -/
def ROpn (W : World) (T : TM) (g i : Nat) (v5 v6 v7 : Value) (wr : World) : Prop :=
 ∃ (p G : Int) (tw : Bool) (fr : Int), sdD T i = (p, G, tw, fr) ∧ v5 = .int .i64 fr ∧ v7 = .bool tw ∧ Below W.heap.size W wr ∧ OkD T i ∧ SdsR (W.heap.size + 1) T i v6 wr ∧
 wr.heap[W.heap.size]? = some (.cells #[.pointer (some ⟨g, 0, none⟩), .int .i64 p, .int .i64 G, .slice none 0 0, .int .i64 0, .bool false] 91 (0, 0))
theorem OkD.succ {T : TM} {i : Nat} (h : OkD T i) (h1 : (readA (T.now (i : Nat))).2.2 ≠ 2) (h2 : (countM (readA (T.now (i : Nat))).1).1 = true) : OkD T (i + 1) := fun j hj => by
 by_cases e : j = i
 ·subst e; exact ⟨h1, h2⟩
 ·exact h j (by omega)
set_option maxHeartbeats 32000000 in
set_option maxRecDepth 100000 in
theorem rjournal_Open.yes (w : World) (Fo : Nat → Prop) (g : Nat) (T : TM) (N : Nat) (hT : T.Ok N) (hN : N + 9000 ≤ 1000000000) (W : World) (ok : Nat → Prop) (hP : (RTape g T).P ok W) (hr : T.ready 0 = 0) (hby : T.By) :
  Calls Try.prog 23 #[.pointer (some ⟨g, 0, none⟩)] W (ROpenPost w Fo g ok W (openM T)) := by
 have HT := Aside0.mk hT
 have HNN := Aside0.mk hN
 have HBY := Aside0.mk hby
 have HPB := Aside0.mk (Res.bound _ hP)
 have HRDY := Aside0.mk hr
 clear hP hr hT hN hby
 have hu91 := Try.underlying91
 have hu94 := Try.underlying94
 go_enter Try.func23, Try.ntmps23
 go_wp2_with fail
 go_loopw [5, 6, 7, 8] (fun s5 s6 s7 s8 wr => ∃ i : Nat, i ≤ 2 ∧ s8 = .int .i64 (i : Int) ∧ Aside0 (ROpn W T g i s5 s6 s7 wr)) (fun s5 s6 s7 s8 _ => (3 - (intOf s8).toNat))
 case atStart => exact ⟨0, by omega, rfl, ⟨_, _, _, _, rfl, rfl, rfl, below_alloc (Below.refl _ _) _, fun j hj => by omega, SdsR.nil _ _ _, heap_alloc_new _ _⟩⟩
 case round =>
  obtain ⟨i, hi, rfl, HR⟩ := hrel
  obtain ⟨p, G, tw, fr, hsd, rfl, rfl, hB, hO, hS, hJ⟩ := HR.out
  have HSD := Aside0.mk hsd
  have hsm := sdD_small T N HT.out i hi
  rw [hsd] at hsm
  have hfr0 : 0 ≤ fr := hsm.2.2.1
  have hfr1 : fr ≤ 131072 := by have := hsm.2.2.2; simp only at this; omega
  have HPS := Aside0.mk (And.intro hsm.1 hsm.2.1)
  clear hsd hsm
  have HB := Aside0.mk hB
  have HO := Aside0.mk hO
  have HS := Aside0.mk hS
  have HJ := Aside0.mk hJ
  clear HR hB hO hS hJ
  by_cases hin : i < 2
  ·have b1 : decide ((i : Int) < 2) = true := decide_eq_true (by omega)
   have HRDI := Aside0.mk (show T.ready (i : Int) = 0 from by
    have h0 := HRDY.out
    unfold TM.ready at h0 ⊢
    rw [if_neg (by omega)]
    rw [if_neg (by decide)] at h0
    exact h0)
   go_wp2_with fail
   refine (rtape_Read.yes g T N HT.out (by have := HNN.out; omega) i hin wr (fun k => ok k ∧ k < W.heap.size) (Res.on _ HPB.out HB.out) HRDI.out).mono ?_
   rintro e w1 ⟨v1, rfl, hR1, hB1⟩
   obtain ⟨Ar, cr, ev1⟩ := Kd.R_slice hR1
   subst ev1
   have HB1 := Aside0.mk hB1
   have HV1 := Aside0.mk (show Kd.V (Kd.int .u8) 5 w1 w1.heap.size (fun k => wr.heap.size ≤ k) (.slice Ar (T.now (i : Nat)).length cr) (T.now (i : Nat)) from Kd.R_V hR1)
   clear hR1 hB1
   go_wp2_with fail
   obtain ⟨kf, hkf⟩ := read15 (T.now (i : Nat)) (HBY.out.now (by omega)) (Nat.le_trans (HT.out.now_len _ (by omega)) (by decide))
   refine (liveryref17_Read.calls kf (fun k => wr.heap.size ≤ k) Ar cr (T.now (i : Nat)) _ _ _ w1 HV1.out hkf).mono ?_
   rintro e w2 ⟨v2, rfl, hN2, hB2⟩
   have hV2 := Kd.N_V (base' := 0) hN2
   obtain ⟨A2, c2, ev2⟩ := Kd.V_slice hV2
   subst ev2
   have HSZ := Aside0.mk HB1.out.size
   have HF2 := Aside0.mk (show Kd.F (Kd.slice 5 (Kd.int .u8)) w2 (fun k => wr.heap.size ≤ k) A2 (readA (T.now (i : Nat))).1.length (readA (T.now (i : Nat))).1 from Kd.F_mono (Kd.V_at hV2).2.2 (fun k hk => hk.elim id (fun h => Nat.le_trans HSZ.out h)))
   have HC2 := Aside0.mk (Kd.V_at hV2).2.1
   have HB2 := Aside0.mk (below_step HB1.out hB2)
   clear hN2 hV2 hB2 hkf HV1
   obtain ⟨S, eS⟩ : ∃ S, readA (T.now (i : Nat)) = S := ⟨_, rfl⟩
   rw [eS]
   have HES := Aside0.mk eS
   rw [eS] at HF2 HC2
   clear eS
   obtain ⟨w3, e3⟩ : ∃ w3 : World, w3 = w2.alloc (.cells #[.slice A2 S.1.length c2, .int .i64 (S.2.1 : Int), .int .i64 (S.2.2 : Int)] 94) := ⟨_, rfl⟩
   have HB3 := Aside0.mk (show Below w2.heap.size w2 w3 from by rw [e3]; exact below_alloc (Below.refl _ _) _)
   have HX3 := Aside0.mk (show w3.heap[w2.heap.size]? = some (.cells #[.slice A2 S.1.length c2, .int .i64 (S.2.1 : Int), .int .i64 (S.2.2 : Int)] 94 (0, 0)) from by rw [e3]; exact heap_alloc_new w2 _)
   have HS3 := Aside0.mk (show SdsR (W.heap.size + 1) T i u6 (w2.alloc (.cells #[.slice A2 S.1.length c2, .int .i64 (S.2.1 : Int), .int .i64 (S.2.2 : Int)] 94)) from by rw [← e3]; exact HS.out.below (below_step HB2.out HB3.out))
   have HE3 := Aside0.mk e3
   have HLT := Aside0.mk HS.out.lt
   have HJL := Aside0.mk (blk_lt HJ.out)
   clear e3
   have HLN := Aside0.mk (show S.1.length ≤ 65536 from by rw [← HES.out]; exact Nat.le_trans (readJ_len _ _) (HT.out.now_len _ (by omega)))
   go_wp2_with (at_builtin; refine sds_append (d := wr.heap.size) (A := A2) (c := c2) rfl (.tmp 35) (.tmp 37) rfl HES.out HS3.out rfl (by rw [heap_size_alloc2]; first | done | rfl) (by omega) HJL.out (by rw [← HE3.out]; exact Nat.le_trans HB2.out.size HB3.out.size) HLT.out HC2.out (by rw [← HE3.out]; exact Kd.F_below HF2.out HB3.out) ?_)
   intro v4 w4 h4 hb4 hst4
   rw [← HE3.out] at hb4 hst4
   have HX4 := Aside0.mk ((hst4 _ HB2.out.size (Nat.lt_succ_self _)).trans HX3.out)
   have HJ4 := Aside0.mk ((hb4.block _ (Nat.lt_succ_self _)).trans (((below_step HB2.out HB3.out).block _ (blk_lt HJ.out)).trans HJ.out))
   have HB4 := Aside0.mk (show Below W.heap.size W w4 from (below_step (below_step HB.out HB2.out) HB3.out).trans (hb4.mono (Nat.le_succ _)))
   have HF4 := Aside0.mk (show Kd.C (Kd.slice 5 (Kd.int .u8)) w4 A2 S.1.length S.1 from Kd.F_now (Kd.F_step (Kd.F_bound (Kd.F_below HF2.out HB3.out)) (fun k hk hlt => hst4 k hk.1 (by rw [HE3.out, heap_size_alloc2] at hlt; exact hlt))))
   have HS4 := Aside0.mk h4
   clear h4 hb4 hst4 HS3 HS HX3 HE3 HB3 HLT HJL HJ HF2 HB2 HB1 HB HC2
   obtain ⟨y0, y1, y2, _⟩ := blk_all3 HX4.out
   have hln := HLN.out
   by_cases hE : S.2.2 = 2
   ·have bE : ((S.2.2 : Int) == 2) = true := by simp; omega
    have HM := Aside0.mk (open_bad (T := T) HRDY.out hin (.inl (by rw [HES.out]; exact hE)))
    clear hE
    go_wp2_with fail
    go_ret2
    unfold ROpenPost
    rw [HM.out]
    exact ⟨rfl, Turned.from HB4.out (Turned.refl ((RTape g T).on HPB.out HB4.out))⟩
   have bE : ((S.2.2 : Int) == 2) = false := by simp; omega
   have HE := Aside0.mk hE
   clear hE
   obtain ⟨L, z, en⟩ := S
   simp only at y0 y1 y2 bE hln HE HF4 HLN
   cases L with
   | nil =>
    have HD := Aside0.mk (show sdD T (i + 1) = (p, G, tw, fr) from by
     show stepD (sdD T i) (i : Int) (readA (T.now (i : Nat))).1 = _
     rw [HSD.out, HES.out]
     rfl)
    go_wp2_with fail
    go_roundw
    case rel => exact ⟨i + 1, by omega, by simp, ⟨p, G, tw, fr, HD.out, by simp, rfl, HB4.out, HO.out.succ (by rw [HES.out]; exact HE.out) (by rw [HES.out]; rfl), HS4.out, HJ4.out⟩⟩
    case measure => simp [intOf]; omega
   | cons r L' =>
    have HRB := Aside0.mk (show okB r = true ∧ r.length ≤ 8192 from by
     have h0 := readA_recs (T.now (i : Nat)) (HBY.out.now (by omega))
     rw [HES.out] at h0
     exact h0 r (by simp))
    have hlr : 1 ≤ (r :: L').length := by simp
    obtain ⟨n, en_⟩ : ∃ n, (r :: L').length = n := ⟨_, rfl⟩
    have HEN := Aside0.mk en_
    have HST := Aside0.mk (show stepD (p, G, tw, fr) (i : Int) (r :: L') = if (headM r).2.1 ≤ (n : Int) - 1 then (if G < (headM r).1 then (i : Int) else p, if G < (headM r).1 then (headM r).1 else G, tw || ((headM r).1 == G), fr + (n : Int)) else (p, G, tw, fr + (n : Int)) from by
     have e1 : (n : Int) - 1 = (L'.length : Int) := by rw [← en_, List.length_cons]; omega
     have e2 : (n : Int) = (L'.length : Int) + 1 := by omega
     rw [e1, e2]
     rfl)
    have HD := Aside0.mk (show sdD T (i + 1) = stepD (p, G, tw, fr) (i : Int) (r :: L') from by
     show stepD (sdD T i) (i : Int) (readA (T.now (i : Nat))).1 = _
     rw [HSD.out, HES.out])
    rw [HST.out] at HD
    have HCM := Aside0.mk (show countM (r :: L') = if (headM r).2.2 ≠ 0 then (false, 0) else if (headM r).2.1 < (n : Int) then (true, (headM r).1) else (true, 0) from by rw [← en_]; rfl)
    rw [en_] at hln hlr y0
    have b0 : ((n : Int) == 0) = false := by simp; omega
    clear HST
    go_wp2_with fail
    rw [← HEN.out]
    refine (rside_head.calls A2 c2 r L' (z : Int) (en : Int) w4 HF4.out HRB.out.1 HRB.out.2).mono ?_
    rintro e w5 ⟨rfl, hb5⟩
    rw [HEN.out]
    obtain ⟨g1, n1, q1, eh⟩ : ∃ g1 n1 q1, headM r = (g1, n1, q1) := ⟨_, _, _, rfl⟩
    rw [eh] at HD HCM ⊢
    simp only at HD HCM ⊢
    have HX5 := Aside0.mk ((hb5.block _ (blk_lt HX4.out)).trans HX4.out)
    have HJ5 := Aside0.mk ((hb5.block _ (blk_lt HJ4.out)).trans HJ4.out)
    have HB5 := Aside0.mk (below_step HB4.out hb5)
    have HS5 := Aside0.mk (HS4.out.below hb5)
    clear hb5 HX4 HJ4 HB4 HS4 HF4 eh y0 y1 y2
    rw [HEN.out] at HX5
    obtain ⟨y0, y1, y2, _⟩ := blk_all3 HX5.out
    obtain ⟨x0, x1, x2, x3, x4, x5, f0, f1, f2, f3, f4, f5⟩ := blk_all6 HJ5.out
    by_cases hq : q1 = 0
    case neg =>
     have bq : (q1 == 0) = false := by simp [hq]
     have HM := Aside0.mk (open_bad (T := T) HRDY.out hin (.inr (by rw [HES.out]; show (countM (r :: L')).1 = false; rw [HCM.out, if_pos hq])))
     rw [bq]
     clear hq
     go_wp2_with fail
     go_ret2
     unfold ROpenPost
     rw [HM.out]
     exact ⟨rfl, Turned.from HB5.out (Turned.refl ((RTape g T).on HPB.out HB5.out))⟩
    have HCT := Aside0.mk (show (countM (r :: L')).1 = true from by rw [HCM.out, if_neg (by omega)]; split <;> rfl)
    subst hq
    rw [show ((0 : Int) == 0) = true from rfl]
    by_cases hn : n1 ≤ (n : Int) - 1
    case neg =>
     have c1 : decide ((n : Int) - 1 ≥ n1) = false := decide_eq_false (by omega)
     have c2 : decide (n1 ≤ (n : Int) - 1) = false := decide_eq_false hn
     rw [if_neg hn] at HD
     clear hn
     go_wp2_with fail
     go_roundw
     case rel => exact ⟨i + 1, by omega, by simp, ⟨p, G, tw, fr + n, HD.out, by simp, rfl, HB5.out, HO.out.succ (by rw [HES.out]; exact HE.out) (by rw [HES.out]; exact HCT.out), HS5.out, HJ5.out⟩⟩
     case measure => simp [intOf]; omega
    have c1 : decide ((n : Int) - 1 ≥ n1) = true := decide_eq_true (by omega)
    have c2 : decide (n1 ≤ (n : Int) - 1) = true := decide_eq_true hn
    rw [if_pos hn] at HD
    clear hn
    obtain ⟨bg, ebg⟩ : ∃ b, (g1 == G) = b := ⟨_, rfl⟩
    rw [ebg] at HD
    by_cases hg : G < g1
    ·have d1 : decide (g1 > G) = true := decide_eq_true hg
     have d2 : decide (G < g1) = true := decide_eq_true hg
     rw [if_pos hg, if_pos hg] at HD
     clear hg
     cases tw with
     | true =>
      go_wp2_with fail
      go_roundw
      case rel => exact ⟨i + 1, by omega, by simp, ⟨(i : Int), g1, true, fr + n, HD.out, by simp, by simp, below_set (below_set HB5.out (Nat.le_refl _)) (Nat.le_refl _), HO.out.succ (by rw [HES.out]; exact HE.out) (by rw [HES.out]; exact HCT.out), (HS5.out.step (fun k hk _ => Below.heap_setCell w5 ⟨W.heap.size, 1, none⟩ _ k (fun e => Nat.not_succ_le_self _ (e ▸ hk)))).step (fun k hk _ => Below.heap_setCell _ ⟨W.heap.size, 2, none⟩ _ k (fun e => Nat.not_succ_le_self _ (e ▸ hk))), blk_put (blk_put HJ5.out 1 _ rfl) 2 _ rfl⟩⟩
      case measure => simp [intOf]; omega
     | false =>
      go_wp2_with fail
      go_roundw
      case rel => exact ⟨i + 1, by omega, by simp, ⟨(i : Int), g1, bg, fr + n, HD.out, by simp, by simp, below_set (below_set HB5.out (Nat.le_refl _)) (Nat.le_refl _), HO.out.succ (by rw [HES.out]; exact HE.out) (by rw [HES.out]; exact HCT.out), (HS5.out.step (fun k hk _ => Below.heap_setCell w5 ⟨W.heap.size, 1, none⟩ _ k (fun e => Nat.not_succ_le_self _ (e ▸ hk)))).step (fun k hk _ => Below.heap_setCell _ ⟨W.heap.size, 2, none⟩ _ k (fun e => Nat.not_succ_le_self _ (e ▸ hk))), blk_put (blk_put HJ5.out 1 _ rfl) 2 _ rfl⟩⟩
      case measure => simp [intOf]; omega
    ·have d1 : decide (g1 > G) = false := decide_eq_false hg
     have d2 : decide (G < g1) = false := decide_eq_false hg
     rw [if_neg hg, if_neg hg] at HD
     clear hg
     cases tw with
     | true =>
      go_wp2_with fail
      go_roundw
      case rel => exact ⟨i + 1, by omega, by simp, ⟨p, G, true, fr + n, HD.out, by simp, by simp, HB5.out, HO.out.succ (by rw [HES.out]; exact HE.out) (by rw [HES.out]; exact HCT.out), HS5.out, HJ5.out⟩⟩
      case measure => simp [intOf]; omega
     | false =>
      go_wp2_with fail
      go_roundw
      case rel => exact ⟨i + 1, by omega, by simp, ⟨p, G, bg, fr + n, HD.out, by simp, by simp, HB5.out, HO.out.succ (by rw [HES.out]; exact HE.out) (by rw [HES.out]; exact HCT.out), HS5.out, HJ5.out⟩⟩
      case measure => simp [intOf]; omega
  ·have ei : i = 2 := by omega
   subst ei
   have b1 : decide (((2 : Nat) : Int) < 2) = false := rfl
   obtain ⟨hM, hside⟩ := open_ok HRDY.out HO.out
   rw [HSD.out] at hM hside
   simp only at hM hside
   have HM := Aside0.mk hM
   clear hM hi hin
   obtain ⟨x0, x1, x2, x3, x4, x5, f0, f1, f2, f3, f4, f5⟩ := blk_all6 HJ.out
   cases tw with
   | true =>
    have HM1 := Aside0.mk (HM.out.trans (if_pos (.inl rfl)))
    clear hside
    go_wp2_with fail
    go_ret2
    unfold ROpenPost
    rw [HM1.out]
    exact ⟨rfl, Turned.from HB.out (Turned.refl ((RTape g T).on HPB.out HB.out))⟩
   | false =>
    rcases hside with rfl | ⟨hp, hL⟩
    ·have d1 : decide ((-1 : Int) < 0) = true := rfl
     by_cases hf : 0 < fr
     ·have d2 : decide (fr > 0) = true := decide_eq_true hf
      have d3 : decide (0 < fr) = true := decide_eq_true hf
      have HM1 := Aside0.mk (HM.out.trans (if_pos (.inr ⟨by decide, hf⟩)))
      clear hf
      go_wp2_with fail
      go_ret2
      unfold ROpenPost
      rw [HM1.out]
      exact ⟨rfl, Turned.from HB.out (Turned.refl ((RTape g T).on HPB.out HB.out))⟩
     ·have d2 : decide (fr > 0) = false := decide_eq_false hf
      have d3 : decide (0 < fr) = false := decide_eq_false hf
      have HM1 := Aside0.mk ((HM.out.trans (if_neg (fun h => h.elim (fun h => by cases h) (fun h => hf h.2)))).trans (if_pos (by decide)))
      clear hf
      go_wp2_with fail
      refine (rmade.calls w Fo g T N HT.out HNN.out wr _ ((RTape g T).on HPB.out HB.out)).mono ?_
      obtain ⟨e1, T1, oj, em⟩ : ∃ a b c, madeM T = (a, b, c) := ⟨_, _, _, rfl⟩
      rw [em] at HM1 ⊢
      cases oj with
      | none =>
       rintro e w4 ⟨rfl, ht⟩
       have HT4 := Aside0.mk ht
       clear ht em
       go_wp2_with fail
       go_ret2
       unfold ROpenPost
       rw [HM1.out]
       exact ⟨rfl, Turned.from HB.out HT4.out⟩
      | some J4 =>
       rintro e w4 ⟨gk4, rfl, ht⟩
       have HT4 := Aside0.mk ht
       clear ht em
       go_wp2_with fail
       go_ret2
       unfold ROpenPost
       rw [HM1.out]
       exact ⟨gk4, rfl, Turned.from HB.out HT4.out⟩
    ·obtain ⟨q, rfl, hq⟩ : ∃ q : Nat, p = (q : Int) ∧ q < 2 := by
      rcases hp with rfl | rfl
      ·exact ⟨0, rfl, by decide⟩
      ·exact ⟨1, rfl, by decide⟩
     have d1 : decide ((q : Int) < 0) = false := decide_eq_false (by omega)
     have HM1 := Aside0.mk ((HM.out.trans (if_neg (fun h => h.elim (fun h => by cases h) (fun h => by omega)))).trans (if_neg (by omega)))
     obtain ⟨sdl, h1, h2, h3⟩ := HS.out
     obtain ⟨A3, c3, h4, h5, h6⟩ := h3 q hq
     obtain ⟨Ad, cd, ev6⟩ := Kd.R_slice h1
     subst ev6
     obtain ⟨ad, cs, ead, _, hK, hcs⟩ := Kd.C_get (Kd.R_reads' h1).2.2 [] (q : Int) (by omega) (by omega)
     have ecs : cs = sideV A3 c3 (readA (T.now (q : Nat))) := by
      have := hK.1
      rw [this, Int.toNat_natCast, List.getD_eq_getElem?_getD, h4]
      rfl
     subst ead ecs
     rw [Int.toNat_natCast] at hcs
     have hcs' : ∀ (j : Nat) (u : Value), (sideV A3 c3 (readA (T.now (q : Nat))))[j]? = some u → wr.cell? (ad.add (q * 3 + j)) = some u := hcs
     obtain ⟨S, eS⟩ : ∃ S, readA (T.now (q : Nat)) = S := ⟨_, rfl⟩
     rw [eS] at hcs' h5 h6 HM1 hL
     have z0 : wr.cell? (ad.add (q * 3)) = some (.slice A3 S.1.length c3) := hcs' 0 _ rfl
     have z1 : wr.cell? ⟨(ad.add (q * 3)).block, (ad.add (q * 3)).off + 1, none⟩ = some (.int .i64 (S.2.1 : Int)) := by rw [← add_field _ _ 1 (by omega)]; exact hcs' 1 _ rfl
     have z2 : wr.cell? ⟨(ad.add (q * 3)).block, (ad.add (q * 3)).off + 2, none⟩ = some (.int .i64 (S.2.2 : Int)) := by rw [← add_field _ _ 2 (by omega)]; exact hcs' 2 _ rfl
     have HC3 := Aside0.mk h5
     have HF3 := Aside0.mk (Kd.F_mono (ok' := fun k => W.heap.size + 1 ≤ k) h6 (fun k hk => hk.1))
     rw [h2] at *
     have q1 : decide ((q : Int) < 2) = true := decide_eq_true (by omega)
     have q2 : (q : Int) < 2 := by omega
     obtain ⟨L, z, en⟩ := S
     simp only at z0 z1 z2 HC3 HF3 hL HM1
     clear h1 h2 h3 h4 h5 h6 hK hcs hcs' eS hp
     have hcd := hcut_fromR 1 A3 L.length c3 hL
     obtain ⟨Ac, eAc⟩ : ∃ x, (if c3 = 1 then A3 else A3.map (·.add (1 * 1))) = x := ⟨_, rfl⟩
     rw [eAc] at hcd
     rw [show ((1 : Nat) : Int) = 1 from rfl] at hcd
     have HAC := Aside0.mk eAc
     clear eAc
     have HNE := Aside0.mk (show W.heap.size < wr.heap.size from blk_lt HJ.out)
     have h1L : (1 : Int) ≤ (L.length : Int) := by omega
     go_upto_region 30 with fail
     (try simp only [Act.put, List.setIfInBounds_toArray, List.set_cons_zero, List.set_cons_succ])
     obtain ⟨w3, e3⟩ : ∃ w3 : World, w3 = wr.alloc (.cells #[.slice A3 L.length c3, .int .i64 (z : Int), .int .i64 (en : Int)] 94) := ⟨_, rfl⟩
     have HB3 := Aside0.mk (show Below wr.heap.size wr w3 from by rw [e3]; exact below_alloc (Below.refl _ _) _)
     have HX3 := Aside0.mk (show w3.heap[wr.heap.size]? = some (.cells #[.slice A3 L.length c3, .int .i64 (z : Int), .int .i64 (en : Int)] 94 (0, 0)) from by rw [e3]; exact heap_alloc_new wr _)
     have HJ3 := Aside0.mk ((HB3.out.block _ (blk_lt HJ.out)).trans HJ.out)
     rw [← e3]
     clear e3 x0 x1 x2 x3 x4 x5 f0 f1 f2 f3 f4 f5 z0 z1 z2
     obtain ⟨x0, x1, x2, x3, x4, x5, f0, f1, f2, f3, f4, f5⟩ := blk_all6 HJ3.out
     obtain ⟨z0, z1, z2, _⟩ := blk_all3 HX3.out
     go_upto_region 31 with fail
     (try simp only [Act.put, List.setIfInBounds_toArray, List.set_cons_zero, List.set_cons_succ])
     have HJ4 := Aside0.mk (blk_put HJ3.out 3 (.slice Ac (L.length - 1) (c3 - 1)) rfl)
     have HX4 := Aside0.mk ((Below.heap_setCell w3 ⟨W.heap.size, 3, none⟩ (.slice Ac (L.length - 1) (c3 - 1)) wr.heap.size (by show wr.heap.size ≠ W.heap.size; have := HNE.out; omega)).trans HX3.out)
     obtain ⟨w4, e4⟩ : ∃ w4 : World, w4 = w3.setCell ⟨W.heap.size, 3, none⟩ (.slice Ac (L.length - 1) (c3 - 1)) := ⟨_, rfl⟩
     have HE4 := Aside0.mk e4
     rw [← e4] at HJ4 HX4 ⊢
     clear e4 x0 x1 x2 x3 x4 x5 f0 f1 f2 f3 f4 f5 z0 z1 z2 hcd
     obtain ⟨x0, x1, x2, x3, x4, x5, f0, f1, f2, f3, f4, f5⟩ := blk_all6 HJ4.out
     obtain ⟨z0, z1, z2, _⟩ := blk_all3 HX4.out
     go_upto_region 32 with fail
     (try simp only [Act.put, List.setIfInBounds_toArray, List.set_cons_zero, List.set_cons_succ])
     have HJ5 := Aside0.mk (blk_put HJ4.out 4 (.int .i64 (z : Int)) rfl)
     have HX5 := Aside0.mk ((Below.heap_setCell w4 ⟨W.heap.size, 4, none⟩ (.int .i64 (z : Int)) wr.heap.size (by show wr.heap.size ≠ W.heap.size; have := HNE.out; omega)).trans HX4.out)
     obtain ⟨w5, e5⟩ : ∃ w5 : World, w5 = w4.setCell ⟨W.heap.size, 4, none⟩ (.int .i64 (z : Int)) := ⟨_, rfl⟩
     have HE5 := Aside0.mk e5
     rw [← e5] at HJ5 HX5 ⊢
     clear e5 x0 x1 x2 x3 x4 x5 f0 f1 f2 f3 f4 f5 z0 z1 z2
     have HB5 := Aside0.mk (show Below W.heap.size W w5 from by rw [HE5.out, HE4.out]; exact below_set (below_set (below_step HB.out HB3.out) (Nat.le_refl _)) (Nat.le_refl _))
     have HST5 := Aside0.mk (show ∀ k, W.heap.size + 1 ≤ k → k < wr.heap.size → w5.heap[k]? = wr.heap[k]? from fun k hk hlt => by
      rw [HE5.out, HE4.out]
      exact (Below.heap_setCell _ ⟨W.heap.size, 4, none⟩ _ k (fun e => Nat.not_succ_le_self _ (e ▸ hk))).trans ((Below.heap_setCell w3 ⟨W.heap.size, 3, none⟩ _ k (fun e => Nat.not_succ_le_self _ (e ▸ hk))).trans (HB3.out.block k hlt)))
     have HRJ := Aside0.mk (show (RJour w Fo W.heap.size g ⟨(q : Int), G, L.drop 1, (z : Int), false⟩).P (fun k => W.heap.size ≤ k) w5 from
      rjour_mk (J := ⟨(q : Int), G, L.drop 1, (z : Int), false⟩) (A := Ac) (c := c3 - 1) (by have := HC3.out; simp only [List.length_drop]; omega) ⟨Nat.le_refl _, by rw [show (L.drop 1).length = L.length - 1 from List.length_drop]; exact HJ5.out, fun _ => 0, fun i R hi => by
       match i, hi with
       | 0, hi =>
        cases hi
        have hF := Kd.F_cut (m := 1) (c := c3) (Kd.F_step (Kd.F_bound HF3.out) (fun k hk hlt => HST5.out k hk.1 hlt)) hL HC3.out
        rw [show (Kd.slice 5 (Kd.int .u8)).sz = 1 from rfl, HAC.out] at hF
        exact fun W' ha hk => hF W' (fun k hk1 hlt => hk k ⟨⟨Nat.le_of_succ_le hk1.1, hlt⟩, fun e => Nat.not_succ_le_self _ (e ▸ hk1.1), rfl⟩ hlt)⟩)
     have HTJ := Aside0.mk (sep_new ((RTape g T).mono (ok' := ok) (fun k hk => hk.1) HPB.out) HB5.out HRJ.out)
     obtain ⟨x0, x1, x2, x3, x4, x5, f0, f1, f2, f3, f4, f5⟩ := blk_all6 HJ5.out
     obtain ⟨z0, z1, z2, _⟩ := blk_all3 HX5.out
     by_cases h1 : en = 1
     case neg =>
      have b2 : ((en : Int) == 1) = false := by simp; omega
      have HM2 := Aside0.mk (HM1.out.trans (if_neg h1))
      clear h1
      go_wp2_with fail
      go_ret2
      unfold ROpenPost
      rw [HM2.out]
      exact ⟨_, rfl, HTJ.out⟩
     have b2 : ((en : Int) == 1) = true := by simp; omega
     have HM2 := Aside0.mk (HM1.out.trans (if_pos h1))
     clear h1
     go_wp2_with fail
     obtain ⟨w6, e6⟩ : ∃ w6 : World, w6 = w5.drew := ⟨_, rfl⟩
     have HD6 := Aside0.mk (show Below w5.heap.size w5 w6 from by rw [e6]; exact below_drew1 (Below.refl _ _))
     have HT6 := Aside0.mk (HTJ.out.on HD6.out)
     obtain ⟨oka, htp, _, hback⟩ := sep_left HT6.out.2
     have HTP := Aside0.mk htp
     have HBK := Aside0.mk @hback
     have k1 := pw_cell_below HD6.out x1
     have k2 := pw_cell_below HD6.out z1
     clear htp hback x0 x1 x2 x3 x4 x5 f0 f1 f2 f3 f4 f5 z0 z1 z2
     refine start_ (n := 9) (S := fun w' => w'.cell? ⟨W.heap.size, 1, none⟩ = some (.int .i64 (q : Int)) ∧ w'.cell? ⟨wr.heap.size, 1, none⟩ = some (.int .i64 (z : Int))) (ds := [7, 8]) #[false, false, false, false, false, false, false, false, false] (by kernel_rfl) rfl rfl ⟨(by rw [← e6]; exact k1), (by rw [← e6]; exact k2)⟩ (fun hHeld => ?_)
     rw [← e6] at hHeld ⊢
     clear e6
     refine pure_ (i := 0) (N := some 130) (v := ?_) (a' := ?_) #[true, false, false, false, false, false, false, false, false] rfl rfl (by kernel_rfl) (fun _ _ _ h => h) (Or.inl ⟨by rfl, ?_⟩) ?_ ?_
     rotate_left
     ·intro w'
      go_simp
      with_reducible rfl
     rotate_left
     ·simp only [Act.put, List.setIfInBounds_toArray, List.set_cons_zero, List.set_cons_succ, i64_w, i32_w]
      rfl
     refine pure_ (i := 1) (N := some 131) (v := ?_) (a' := ?_) #[true, true, false, false, false, false, false, false, false] rfl rfl (by kernel_rfl) (fun _ _ _ h => h) (Or.inl ⟨by rfl, ?_⟩) ?_ ?_
     rotate_left
     ·intro w'
      go_simp
      with_reducible rfl
     rotate_left
     ·simp only [Act.put, List.setIfInBounds_toArray, List.set_cons_zero, List.set_cons_succ, i64_w, i32_w]
      rfl
     refine pure_ (i := 2) (N := some 132) (v := ?_) (a' := ?_) #[true, true, true, false, false, false, false, false, false] rfl rfl (by kernel_rfl) (fun _ _ _ h => h) (Or.inl ⟨by rfl, ?_⟩) ?_ ?_
     rotate_left
     ·intro w'
      go_simp
      with_reducible rfl
     rotate_left
     ·simp only [Act.put, List.setIfInBounds_toArray, List.set_cons_zero, List.set_cons_succ, i64_w, i32_w]
      rfl
     refine pure_ (i := 3) (N := some 133) (v := ?_) (a' := ?_) #[true, true, true, true, false, false, false, false, false] rfl rfl (by kernel_rfl) (fun _ _ _ h => h) (Or.inl ⟨by rfl, ?_⟩) ?_ ?_
     rotate_left
     ·intro w'
      go_simp
      with_reducible rfl
     rotate_left
     ·simp only [Act.put, List.setIfInBounds_toArray, List.set_cons_zero, List.set_cons_succ, i64_w, i32_w]
      rfl
     refine pure_ (i := 5) (N := some 135) (v := ?_) (a' := ?_) #[true, true, true, true, false, true, false, false, false] rfl rfl (by kernel_rfl) (fun _ _ _ h => h) (Or.inl ⟨by rfl, ?_⟩) ?_ ?_
     rotate_left
     ·intro w'
      go_simp
      with_reducible rfl
     rotate_left
     ·simp only [Act.put, List.setIfInBounds_toArray, List.set_cons_zero, List.set_cons_succ, i64_w, i32_w]
      rfl
     refine take_ (i := 4) (N := some 134) (v := ?_) (a' := ?_) #[true, true, true, true, true, true, false, false, false] rfl rfl (by kernel_rfl) (fun _ _ _ h => h) (Or.inl ⟨by rfl, ?_⟩) hHeld ?_ ?_
     rotate_left
     ·rintro w' ⟨s0, s1⟩
      go_simp
      with_reducible rfl
     rotate_left
     ·simp only [Act.put, List.setIfInBounds_toArray, List.set_cons_zero, List.set_cons_succ, i64_w, i32_w]
      rfl
     refine take_ (i := 6) (N := some 136) (v := ?_) (a' := ?_) #[true, true, true, true, true, true, true, false, false] rfl rfl (by kernel_rfl) (fun _ _ _ h => h) (Or.inl ⟨by rfl, ?_⟩) hHeld ?_ ?_
     rotate_left
     ·rintro w' ⟨s0, s1⟩
      go_simp
      with_reducible rfl
     rotate_left
     ·simp only [Act.put, List.setIfInBounds_toArray, List.set_cons_zero, List.set_cons_succ, i64_w, i32_w]
      rfl
     refine last_ (i := 7) (N := some 137) #[true, true, true, true, true, true, true, true, false] rfl rfl (by kernel_rfl) (by decide) (fun K hK => ?_)
     refine goes_ Try.func57 (by kernel_rfl) rfl #[.pointer (some ⟨g, 0, none⟩), .int .i64 (q : Int), .int .i64 (z : Int)] (by rfl) rfl rfl (by simp only [List.map_toArray, List.map_cons, List.map_nil]; rfl) ?_
     with_reducible refine ((rtape_Trim.calls g T N HT.out (by have := HNN.out; omega) (q : Int) (z : Int) w6 _ HTP.out)).mono ?_
     rintro e w7 ⟨rfl, ht7⟩
     have HT7 := Aside0.mk (HT6.out.then_ (HBK.out ht7).1 (HBK.out ht7).2)
     clear ht7
     refine ⟨_, rfl, ?_⟩
     refine hK.out _ _ ?_
     clear hK K
     refine norm_ (a' := ?_) ?_ ?_
     rotate_left
     ·show Act.put _ (some 137) _ = _
      simp only [Act.put, List.setIfInBounds_toArray, List.set_cons_zero, List.set_cons_succ, i64_w, i32_w]
      rfl
     refine pure_ (i := 8) (N := some 16) (v := ?_) (a' := ?_) #[true, true, true, true, true, true, true, true, true] rfl rfl (by kernel_rfl) (fun _ _ _ h => h) (Or.inl ⟨by rfl, ?_⟩) ?_ ?_
     rotate_left
     ·intro w'
      go_simp
      with_reducible rfl
     rotate_left
     ·simp only [Act.put, List.setIfInBounds_toArray, List.set_cons_zero, List.set_cons_succ, i64_w, i32_w]
      rfl
     refine done_ (by kernel_rfl) ?_
     have HTO1 := Aside0.mk (TM.trim_ok HT.out (q : Int) (z : Int))
     obtain ⟨T1, eT⟩ : ∃ x, T.trim (q : Int) (z : Int) = x := ⟨_, rfl⟩
     obtain ⟨e1, ee⟩ : ∃ x, T.trimE (q : Int) (z : Int) = x := ⟨_, rfl⟩
     rw [eT] at HT7 HTO1 HM2
     rw [ee] at HM2 ⊢
     clear eT ee k1 k2
     by_cases g1 : e1 ≠ 0
     ·have c1 : (e1 != 0) = true := by simp [g1]
      have c2 : (e1 == 0) = false := by simp [g1]
      have HME := Aside0.mk (HM2.out.trans (if_pos g1))
      clear g1
      go_wp2_with fail
      go_ret2
      unfold ROpenPost
      rw [HME.out]
      exact ⟨rfl, HT7.out.1, sep_drop HT7.out.2⟩
     have c1 : (e1 != 0) = false := by simpa using g1
     have c2 : (e1 == 0) = true := by simpa using g1
     have HM3 := Aside0.mk (HM2.out.trans (if_neg g1))
     have he0 : e1 = 0 := by omega
     subst he0
     clear g1
     obtain ⟨okb, htq, _, hback2⟩ := sep_left HT7.out.2
     have HTQ := Aside0.mk htq
     have HBL := Aside0.mk @hback2
     clear htq hback2
     go_wp2_with fail
     refine (rtape_Sync.calls g T1 (N + 1) HTO1.out (by have := HNN.out; omega) w7 _ HTQ.out).mono ?_
     rintro e w8 ⟨rfl, ht8⟩
     have HT8 := Aside0.mk (HT7.out.then_ (HBL.out ht8).1 (HBL.out ht8).2)
     obtain ⟨T2, eT⟩ : ∃ x, T1.sync = x := ⟨_, rfl⟩
     obtain ⟨e2, ee⟩ : ∃ x, T1.ready 0 = x := ⟨_, rfl⟩
     rw [eT] at HT8 HM3
     rw [ee] at HM3 ⊢
     clear ht8 eT ee c1 c2
     by_cases g2 : e2 ≠ 0
     ·have c1 : (e2 != 0) = true := by simp [g2]
      have c2 : (e2 == 0) = false := by simp [g2]
      have HME := Aside0.mk (HM3.out.trans (if_pos g2))
      clear g2
      go_wp2_with fail
      go_ret2
      unfold ROpenPost
      rw [HME.out]
      exact ⟨rfl, HT8.out.1, sep_drop HT8.out.2⟩
     have c1 : (e2 != 0) = false := by simpa using g2
     have c2 : (e2 == 0) = true := by simpa using g2
     have HM4 := Aside0.mk (HM3.out.trans (if_neg g2))
     have he0 : e2 = 0 := by omega
     subst he0
     clear g2
     go_wp2_with fail
     go_ret2
     unfold ROpenPost
     rw [HM4.out]
     exact ⟨_, rfl, HT8.out⟩
theorem rjournal_Open.calls (w : World) (Fo : Nat → Prop) (g : Nat) (T : TM) (N : Nat) (hT : T.Ok N) (hN : N + 9000 ≤ 1000000000) (W : World) (ok : Nat → Prop) (hP : (RTape g T).P ok W) (hby : T.By) :
  Calls Try.prog 23 #[.pointer (some ⟨g, 0, none⟩)] W (ROpenPost w Fo g ok W (openM T)) := by
 by_cases hr : T.ready 0 = 0
 ·exact rjournal_Open.yes w Fo g T N hT hN W ok hP hr hby
 ·exact rjournal_Open.no w Fo g T W ok hP hr
end Go.Proofs.Ytmfmoddaejoekaa.P
