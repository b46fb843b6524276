/- Contracts, typed by hand and by a program: the program's tape: Write, Trim, Clear. -/
import Derived.Test.YtmfmoddaejoekaaHTapeG
set_option linter.unusedVariables false
set_option linter.unusedSimpArgs false
namespace Go.Proofs.Ytmfmoddaejoekaa.P
open Go.RowKit Go.Proofs.YtmfmoddaejoekaaW.PrintWords Go.Proofs.YtmfmoddaejoekaaW.PrintLast Go.Proofs.YtmfmoddaejoekaaW.PrintMore
theorem Turned.of_bound {ok : Nat → Prop} {W W' : World} {R : Res} (h : Turned (fun k => ok k ∧ k < W.heap.size) W W' R) : Turned ok W W' R := ⟨h.1.mono (fun k _ hk => hk.1), R.mono (fun k hk => hk.imp (·.1) id) h.2⟩
theorem Turned.from {ok : Nat → Prop} {W W1 W2 : World} {R : Res} (hb : Below W.heap.size W W1) (h : Turned (fun k => ok k ∧ k < W.heap.size) W1 W2 R) : Turned ok W W2 R :=
 ⟨(Keeps.of_below hb ok).then_ h.1 (fun k hk => .inl hk.1), R.mono (fun k hk => hk.elim (fun h => .inl h.1) (fun h2 => .inr (Nat.le_trans hb.size h2))) h.2⟩
theorem unit_lit {W : World} {g : Nat} {u : Un} (h : W.heap[g]? = some (.cells #[.int .i64 u.f0, .int .i64 u.f1, .int .u8 u.f2] 84 (0, 0))) : (k89).C W (some ⟨g, 0, none⟩) 1 [u] := by
 refine ⟨rfl, by decide, fun _ => ⟨_, rfl, fun j p hj => ?_⟩⟩
 match j, hj with
 | 0, hj =>
  cases hj
  refine ⟨_, rfl, k89_mk W u, fun i x hx => ?_⟩
  rw [add_plain, blk_cell h, Nat.zero_mul, Nat.zero_add]
  match i, hx with
  | 0, hx => exact hx
  | 1, hx => exact hx
  | 2, hx => exact hx
theorem tape_Write.no (g : Nat) (T : TM) (i : Int) (A : Option Addr) (c : Nat) (data : List Int) (W : World) (ok : Nat → Prop) (hP : (PTape g T).P ok W) (hr : T.ready i ≠ 0) :
  Calls Try.prog 19 #[.pointer (some ⟨g, 0, none⟩), .int .i64 i, .slice A data.length c] W fun e W' => e = .returned (.int .i64 (T.ready i)) ∧ W = W' := by
 have HC := Aside0.mk (tape_ready.calls g T i W ok hP)
 obtain ⟨r, er⟩ : ∃ r, T.ready i = r := ⟨_, rfl⟩
 rw [er] at hr HC ⊢
 have b1 : (r != 0) = true := by simp [hr]
 have b2 : (r == 0) = false := by simp [hr]
 clear hP er
 go_enter Try.func19, Try.ntmps19
 go_wp2_with fail
 refine HC.out.mono ?_
 rintro e w' ⟨rfl, rfl⟩
 go_wp2_with fail
 go_ret
 exact ⟨rfl, rfl⟩
theorem tape_Trim.no (g : Nat) (T : TM) (i n : Int) (W : World) (ok : Nat → Prop) (hP : (PTape g T).P ok W) (hr : T.ready i ≠ 0) :
  Calls Try.prog 36 #[.pointer (some ⟨g, 0, none⟩), .int .i64 i, .int .i64 n] W fun e W' => e = .returned (.int .i64 (T.ready i)) ∧ W = W' := by
 have HC := Aside0.mk (tape_ready.calls g T i W ok hP)
 obtain ⟨r, er⟩ : ∃ r, T.ready i = r := ⟨_, rfl⟩
 rw [er] at hr HC ⊢
 have b1 : (r != 0) = true := by simp [hr]
 have b2 : (r == 0) = false := by simp [hr]
 clear hP er
 go_enter Try.func36, Try.ntmps36
 go_wp2_with fail
 refine HC.out.mono ?_
 rintro e w' ⟨rfl, rfl⟩
 go_wp2_with fail
 go_ret
 exact ⟨rfl, rfl⟩
set_option maxHeartbeats 4000000 in
set_option maxRecDepth 100000 in
theorem tape_Write.yes0 (g : Nat) (T : TM) (N : Nat) (hT : T.Ok N) (hN : N ≤ 1000000000) (A : Option Addr) (c : Nat) (data : List Int) (W : World) (ok : Nat → Prop) (hP : (PTape g T).P ok W) (hQ : ∀ W', Keeps W W' ok → Kd.C (Kd.int .u8) W' A data.length data) (hdl : data.length ≤ 1000000) (hr : T.ready 0 = 0) :
  Calls Try.prog 19 #[.pointer (some ⟨g, 0, none⟩), .int .i64 0, .slice A data.length c] W fun e W' => e = .returned (.int .i64 (T.writeE 0 data)) ∧ Turned ok W W' (PTape g (T.write 0 data)) := by
 have HC := Aside0.mk (tape_ready.calls g T 0 W ok hP)
 rw [hr] at HC
 have hln := hT.now_len 0 (by decide)
 have HT := Aside0.mk hT
 have HP := Aside0.mk hP
 have HQ := Aside0.mk hQ
 have HWE := Aside0.mk (show T.writeE 0 data = if 65536 < (T.now 0).length + data.length then 42 else 0 by unfold TM.writeE; rw [if_neg (by omega)])
 obtain ⟨v0, v1, m0, m1, vu, x, hx, hC⟩ := ptape_open hP
 obtain ⟨oks, hs, _⟩ := obj_get hC 2 rfl
 obtain ⟨Am, cm, rfl⟩ := side_slice hs
 obtain ⟨x0, x1, x2, x3, x4, x5, x6, _⟩ := blk_all7 (tape_blk hC)
 have HR := Aside0.mk hr
 clear hP hC hs hx hT hr hQ
 by_cases h1 : 65536 < (T.now 0).length + data.length
 ·have b1 : decide (65536 - ((T.now 0).length : Int) < (data.length : Int)) = true := decide_eq_true (by omega)
  have w1 : wrap64 (65536 - ((T.now 0).length : Int)) = 65536 - ((T.now 0).length : Int) := by unfold wrap64; omega
  have HE := Aside0.mk (show T.writeE 0 data = 42 by rw [HWE.out, if_pos h1])
  have HW := Aside0.mk (show T.write 0 data = T by unfold TM.write; rw [if_neg (by rw [HE.out]; decide)])
  clear h1 HWE
  go_enter Try.func19, Try.ntmps19
  go_wp2_with fail
  refine HC.out.mono ?_
  rintro e w' ⟨rfl, rfl⟩
  go_wp2_with fail
  go_ret
  exact ⟨by rw [HE.out]; rfl, by rw [HW.out]; exact Turned.refl HP.out⟩
 ·have b1 : decide (65536 - ((T.now 0).length : Int) < (data.length : Int)) = false := decide_eq_false (by omega)
  have w1 : wrap64 (65536 - ((T.now 0).length : Int)) = 65536 - ((T.now 0).length : Int) := by unfold wrap64; omega
  have HE := Aside0.mk (show T.writeE 0 data = 0 by rw [HWE.out, if_neg h1])
  have HW := Aside0.mk (show T.write 0 data = T.does (TM.units 0 data) by unfold TM.write; rw [if_pos HE.out])
  have HLG := Aside0.mk (show legal (T.now 0) (T.now 1) (TM.units 0 data) from TM.legal_units 0 (by decide) data _ _ (by have := HT.out.now_len 0 (by decide); simp only [if_true, if_false, show ((1 : Int) = 0) = False by decide]; omega) (by have := HT.out.now_len 1 (by decide); simp only [if_true, if_false, show ((1 : Int) = 0) = False by decide]; omega))
  have HPB := Aside0.mk (Res.bound _ HP.out)
  have HQB := Aside0.mk (show ∀ W', Below W.heap.size W W' → Kd.C (Kd.int .u8) W' A data.length data from fun W' hb => HQ.out W' (Keeps.of_below hb _))
  clear h1 HWE
  go_enter Try.func19, Try.ntmps19
  go_wp2_with fail
  refine HC.out.mono ?_
  rintro e w' ⟨rfl, rfl⟩
  go_wp2_with fail
  clear x0 x1 x2 x3 x4 x5 x6 w1 b1
  go_loopw [8, 30] (fun s8 s30 wr => ∃ j : Nat, j ≤ data.length ∧ s30 = .int .i64 (j : Int) ∧ Aside0 ((k89).R 84 wr 0 (fun k => W.heap.size ≤ k) s8 (TM.units 0 (data.take j))) ∧ Aside0 (Below W.heap.size W wr)) (fun _ s30 _ => (data.length + 1 - (intOf s30).toNat))
  case atStart => exact ⟨0, Nat.zero_le _, rfl, ⟨Kd.R_nil _ _ _ _ _⟩, ⟨Below.refl _ _⟩⟩
  case round =>
   obtain ⟨j, hj, rfl, HR8, HB8⟩ := hrel
   by_cases hjl : j < data.length
   ·have b1 : decide ((j : Int) < (data.length : Int)) = true := decide_eq_true (by omega)
    obtain ⟨ad, eA, hc0⟩ := Kd.at_int (HQB.out wr HB8.out) (j : Int) (by omega) (by omega)
    subst eA
    rw [Int.toNat_natCast] at hc0
    obtain ⟨b, eb⟩ : ∃ b, rd data (j : Int) = b := ⟨_, rfl⟩
    rw [eb] at hc0
    have HTK := Aside0.mk (show TM.units 0 (data.take (j + 1)) = TM.units 0 (data.take j) ++ [⟨0, -1, b⟩] by
     unfold TM.units
     rw [List.take_add_one, List.getElem?_eq_getElem hjl, Option.toList_some, List.map_append, ← eb]
     simp [rd, hjl])
    have HLN := Aside0.mk (show (TM.units 0 (data.take j)).length ≤ 1000000 by unfold TM.units; rw [List.length_map, List.length_take]; omega)
    clear eb
    go_wp2_with (at_builtin; refine Kd.R_append k89 (w0 := wr) 0 rfl (.tmp 34) (.tmp 38) 60 84 (.agg #[.int .i64 0, .int .i64 0, .int .u8 0]) 24 rfl Try.underlying60 hinfoU rfl (by decide) (by decide) _ (TM.units 0 (data.take j)) ⟨0, -1, b⟩ [.int .i64 0, .int .i64 (-1), .int .u8 b] (fun k => W.heap.size ≤ k) (fun _ => False) rfl rfl ?aM (fun _ h => h.elim) ?aF ?aO ?aB ?aS ?aL ?_)
    case aM => exact k89_mkM wr 0 _ ⟨0, -1, b⟩
    case aF => exact fun k hk => Nat.le_trans HB8.out.size hk
    case aO => exact HR8.out
    case aB => exact Below.refl _ _
    case aS => exact Nat.zero_le _
    case aL => have := HLN.out; omega
    intro v1 w1 hR _ hg hat
    have hR1 := Aside0.mk (HTK.out.symm ▸ hR)
    have hB1 := Aside0.mk (show Below W.heap.size W w1 from (Keeps.of_below HB8.out (fun _ => False)).then_ ((Keeps.of_grown hg).mono (S' := fun k => W.heap.size ≤ k) (fun k _ hk => HR8.out.1 k hk.symm)) (fun k hk => .inr hk) |>.belowF)
    clear hR hg hat HR8 HB8 HTK hc0 b1
    go_wp2_with fail
    go_roundw
    case rel => exact ⟨j + 1, by omega, by simp, hR1, hB1⟩
    case measure => simp [intOf]; omega
   ·obtain rfl : j = data.length := by omega
    rw [List.take_length] at HR8
    have b1 : decide ((data.length : Int) < (data.length : Int)) = false := decide_eq_false (by omega)
    obtain ⟨A9, c9, e9⟩ := Kd.R_slice HR8.out
    subst e9
    have HUL := Aside0.mk (show (TM.units 0 data).length ≤ 1000000 by unfold TM.units; rw [List.length_map]; omega)
    clear hj hjl
    go_wp2_with fail
    refine (tape_does.calls g T N HT.out hN A9 c9 (TM.units 0 data) wr (fun k => ok k ∧ k < W.heap.size) (Res.on _ HPB.out HB8.out) (fun W' hk => (Kd.R_reads' (Kd.R_step HR8.out (fun k hk2 hlt => hk.block k hlt (fun hh => by have := hh.2; omega)))).2.2) HUL.out (Kd.R_reads' HR8.out).2.1 HLG.out).mono ?_
    rintro e w2 ⟨rfl, ht⟩
    have HT2 := Aside0.mk (Turned.from HB8.out ht)
    clear ht
    go_wp2_with fail
    go_ret
    exact ⟨by rw [HE.out]; rfl, by rw [HW.out]; exact HT2.out⟩
set_option maxHeartbeats 4000000 in
set_option maxRecDepth 100000 in
theorem tape_Write.yes1 (g : Nat) (T : TM) (N : Nat) (hT : T.Ok N) (hN : N ≤ 1000000000) (A : Option Addr) (c : Nat) (data : List Int) (W : World) (ok : Nat → Prop) (hP : (PTape g T).P ok W) (hQ : ∀ W', Keeps W W' ok → Kd.C (Kd.int .u8) W' A data.length data) (hdl : data.length ≤ 1000000) (hr : T.ready 1 = 0) :
  Calls Try.prog 19 #[.pointer (some ⟨g, 0, none⟩), .int .i64 1, .slice A data.length c] W fun e W' => e = .returned (.int .i64 (T.writeE 1 data)) ∧ Turned ok W W' (PTape g (T.write 1 data)) := by
 have HC := Aside0.mk (tape_ready.calls g T 1 W ok hP)
 rw [hr] at HC
 have hln := hT.now_len 1 (by decide)
 have HT := Aside0.mk hT
 have HP := Aside0.mk hP
 have HQ := Aside0.mk hQ
 have HWE := Aside0.mk (show T.writeE 1 data = if 65536 < (T.now 1).length + data.length then 42 else 0 by unfold TM.writeE; rw [if_neg (by omega)])
 obtain ⟨v0, v1, m0, m1, vu, x, hx, hC⟩ := ptape_open hP
 obtain ⟨oks, hs, _⟩ := obj_get hC 3 rfl
 obtain ⟨Am, cm, rfl⟩ := side_slice hs
 obtain ⟨x0, x1, x2, x3, x4, x5, x6, _⟩ := blk_all7 (tape_blk hC)
 have HR := Aside0.mk hr
 clear hP hC hs hx hT hr hQ
 by_cases h1 : 65536 < (T.now 1).length + data.length
 ·have b1 : decide (65536 - ((T.now 1).length : Int) < (data.length : Int)) = true := decide_eq_true (by omega)
  have w1 : wrap64 (65536 - ((T.now 1).length : Int)) = 65536 - ((T.now 1).length : Int) := by unfold wrap64; omega
  have HE := Aside0.mk (show T.writeE 1 data = 42 by rw [HWE.out, if_pos h1])
  have HW := Aside0.mk (show T.write 1 data = T by unfold TM.write; rw [if_neg (by rw [HE.out]; decide)])
  clear h1 HWE
  go_enter Try.func19, Try.ntmps19
  go_wp2_with fail
  refine HC.out.mono ?_
  rintro e w' ⟨rfl, rfl⟩
  go_wp2_with fail
  go_ret
  exact ⟨by rw [HE.out]; rfl, by rw [HW.out]; exact Turned.refl HP.out⟩
 ·have b1 : decide (65536 - ((T.now 1).length : Int) < (data.length : Int)) = false := decide_eq_false (by omega)
  have w1 : wrap64 (65536 - ((T.now 1).length : Int)) = 65536 - ((T.now 1).length : Int) := by unfold wrap64; omega
  have HE := Aside0.mk (show T.writeE 1 data = 0 by rw [HWE.out, if_neg h1])
  have HW := Aside0.mk (show T.write 1 data = T.does (TM.units 1 data) by unfold TM.write; rw [if_pos HE.out])
  have HLG := Aside0.mk (show legal (T.now 0) (T.now 1) (TM.units 1 data) from TM.legal_units 1 (by decide) data _ _ (by have := HT.out.now_len 0 (by decide); simp only [if_true, if_false, show ((1 : Int) = 0) = False by decide]; omega) (by have := HT.out.now_len 1 (by decide); simp only [if_true, if_false, show ((1 : Int) = 0) = False by decide]; omega))
  have HPB := Aside0.mk (Res.bound _ HP.out)
  have HQB := Aside0.mk (show ∀ W', Below W.heap.size W W' → Kd.C (Kd.int .u8) W' A data.length data from fun W' hb => HQ.out W' (Keeps.of_below hb _))
  clear h1 HWE
  go_enter Try.func19, Try.ntmps19
  go_wp2_with fail
  refine HC.out.mono ?_
  rintro e w' ⟨rfl, rfl⟩
  go_wp2_with fail
  clear x0 x1 x2 x3 x4 x5 x6 w1 b1
  go_loopw [8, 30] (fun s8 s30 wr => ∃ j : Nat, j ≤ data.length ∧ s30 = .int .i64 (j : Int) ∧ Aside0 ((k89).R 84 wr 0 (fun k => W.heap.size ≤ k) s8 (TM.units 1 (data.take j))) ∧ Aside0 (Below W.heap.size W wr)) (fun _ s30 _ => (data.length + 1 - (intOf s30).toNat))
  case atStart => exact ⟨0, Nat.zero_le _, rfl, ⟨Kd.R_nil _ _ _ _ _⟩, ⟨Below.refl _ _⟩⟩
  case round =>
   obtain ⟨j, hj, rfl, HR8, HB8⟩ := hrel
   by_cases hjl : j < data.length
   ·have b1 : decide ((j : Int) < (data.length : Int)) = true := decide_eq_true (by omega)
    obtain ⟨ad, eA, hc0⟩ := Kd.at_int (HQB.out wr HB8.out) (j : Int) (by omega) (by omega)
    subst eA
    rw [Int.toNat_natCast] at hc0
    obtain ⟨b, eb⟩ : ∃ b, rd data (j : Int) = b := ⟨_, rfl⟩
    rw [eb] at hc0
    have HTK := Aside0.mk (show TM.units 1 (data.take (j + 1)) = TM.units 1 (data.take j) ++ [⟨1, -1, b⟩] by
     unfold TM.units
     rw [List.take_add_one, List.getElem?_eq_getElem hjl, Option.toList_some, List.map_append, ← eb]
     simp [rd, hjl])
    have HLN := Aside0.mk (show (TM.units 1 (data.take j)).length ≤ 1000000 by unfold TM.units; rw [List.length_map, List.length_take]; omega)
    clear eb
    go_wp2_with (at_builtin; refine Kd.R_append k89 (w0 := wr) 0 rfl (.tmp 34) (.tmp 38) 60 84 (.agg #[.int .i64 0, .int .i64 0, .int .u8 0]) 24 rfl Try.underlying60 hinfoU rfl (by decide) (by decide) _ (TM.units 1 (data.take j)) ⟨1, -1, b⟩ [.int .i64 1, .int .i64 (-1), .int .u8 b] (fun k => W.heap.size ≤ k) (fun _ => False) rfl rfl ?aM (fun _ h => h.elim) ?aF ?aO ?aB ?aS ?aL ?_)
    case aM => exact k89_mkM wr 0 _ ⟨1, -1, b⟩
    case aF => exact fun k hk => Nat.le_trans HB8.out.size hk
    case aO => exact HR8.out
    case aB => exact Below.refl _ _
    case aS => exact Nat.zero_le _
    case aL => have := HLN.out; omega
    intro v1 w1 hR _ hg hat
    have hR1 := Aside0.mk (HTK.out.symm ▸ hR)
    have hB1 := Aside0.mk (show Below W.heap.size W w1 from (Keeps.of_below HB8.out (fun _ => False)).then_ ((Keeps.of_grown hg).mono (S' := fun k => W.heap.size ≤ k) (fun k _ hk => HR8.out.1 k hk.symm)) (fun k hk => .inr hk) |>.belowF)
    clear hR hg hat HR8 HB8 HTK hc0 b1
    go_wp2_with fail
    go_roundw
    case rel => exact ⟨j + 1, by omega, by simp, hR1, hB1⟩
    case measure => simp [intOf]; omega
   ·obtain rfl : j = data.length := by omega
    rw [List.take_length] at HR8
    have b1 : decide ((data.length : Int) < (data.length : Int)) = false := decide_eq_false (by omega)
    obtain ⟨A9, c9, e9⟩ := Kd.R_slice HR8.out
    subst e9
    have HUL := Aside0.mk (show (TM.units 1 data).length ≤ 1000000 by unfold TM.units; rw [List.length_map]; omega)
    clear hj hjl
    go_wp2_with fail
    refine (tape_does.calls g T N HT.out hN A9 c9 (TM.units 1 data) wr (fun k => ok k ∧ k < W.heap.size) (Res.on _ HPB.out HB8.out) (fun W' hk => (Kd.R_reads' (Kd.R_step HR8.out (fun k hk2 hlt => hk.block k hlt (fun hh => by have := hh.2; omega)))).2.2) HUL.out (Kd.R_reads' HR8.out).2.1 HLG.out).mono ?_
    rintro e w2 ⟨rfl, ht⟩
    have HT2 := Aside0.mk (Turned.from HB8.out ht)
    clear ht
    go_wp2_with fail
    go_ret
    exact ⟨by rw [HE.out]; rfl, by rw [HW.out]; exact HT2.out⟩
set_option maxHeartbeats 4000000 in
set_option maxRecDepth 100000 in
theorem tape_Trim.yes0 (g : Nat) (T : TM) (N : Nat) (hT : T.Ok N) (hN : N ≤ 1000000000) (n : Int) (W : World) (ok : Nat → Prop) (hP : (PTape g T).P ok W) (hr : T.ready 0 = 0) :
  Calls Try.prog 36 #[.pointer (some ⟨g, 0, none⟩), .int .i64 0, .int .i64 n] W fun e W' => e = .returned (.int .i64 (T.trimE 0 n)) ∧ Turned ok W W' (PTape g (T.trim 0 n)) := by
 have HC := Aside0.mk (tape_ready.calls g T 0 W ok hP)
 rw [hr] at HC
 have HOK := Aside0.mk hT
 have HP := Aside0.mk hP
 have HWE := Aside0.mk (show T.trimE 0 n = if n < 0 ∨ ((T.now 0).length : Int) < n then 1 else 0 by unfold TM.trimE; rw [if_neg (by omega)])
 obtain ⟨v0, v1, m0, m1, vu, x, hx, hC⟩ := ptape_open hP
 obtain ⟨oks, hs, _⟩ := obj_get hC 2 rfl
 obtain ⟨Am, cm, rfl⟩ := side_slice hs
 obtain ⟨x0, x1, x2, x3, x4, x5, x6, _⟩ := blk_all7 (tape_blk hC)
 clear hP hC hs hx hT hr
 by_cases h0 : n < 0
 ·have b0 : decide (n < 0) = true := decide_eq_true h0
  have HE := Aside0.mk (show T.trimE 0 n = 1 by rw [HWE.out, if_pos (.inl h0)])
  have HW := Aside0.mk (show T.trim 0 n = T by unfold TM.trim; rw [if_neg (by rw [HE.out]; decide)])
  clear h0 HWE
  go_enter Try.func36, Try.ntmps36
  go_wp2_with fail
  refine HC.out.mono ?_
  rintro e w' ⟨rfl, rfl⟩
  go_wp2_with fail
  go_ret
  exact ⟨by rw [HE.out]; rfl, by rw [HW.out]; exact Turned.refl HP.out⟩
 have b0 : decide (n < 0) = false := decide_eq_false h0
 by_cases h1 : ((T.now 0).length : Int) < n
 ·have b1 : decide (((T.now 0).length : Int) < n) = true := decide_eq_true h1
  have HE := Aside0.mk (show T.trimE 0 n = 1 by rw [HWE.out, if_pos (.inr h1)])
  have HW := Aside0.mk (show T.trim 0 n = T by unfold TM.trim; rw [if_neg (by rw [HE.out]; decide)])
  clear h0 h1 HWE
  go_enter Try.func36, Try.ntmps36
  go_wp2_with fail
  refine HC.out.mono ?_
  rintro e w' ⟨rfl, rfl⟩
  go_wp2_with fail
  go_ret
  exact ⟨by rw [HE.out]; rfl, by rw [HW.out]; exact Turned.refl HP.out⟩
 have b1 : decide (((T.now 0).length : Int) < n) = false := decide_eq_false h1
 have HE := Aside0.mk (show T.trimE 0 n = 0 by rw [HWE.out, if_neg (by omega)])
 have HW := Aside0.mk (show T.trim 0 n = T.does [⟨0, n, 0⟩] by unfold TM.trim; rw [if_pos HE.out])
 have HLG := Aside0.mk (show legal (T.now 0) (T.now 1) [⟨0, n, 0⟩] from by
  have l0 := HOK.out.now_len 0 (by decide)
  have l1 := HOK.out.now_len 1 (by decide)
  refine ⟨l0, l1, by simp, fun _ => ?_, ?_, ?_⟩
  ·simp only [if_true, if_false, show ((1 : Int) = 0) = False by decide]; omega
  ·simp only [unit1]
   split
   ·split
    ·rw [List.length_take]; omega
    ·omega
   ·exact l0
  ·simp only [unit1]
   split
   ·split
    ·rw [List.length_take]; omega
    ·omega
   ·exact l1)
 have HPB := Aside0.mk (Res.bound _ HP.out)
 clear h0 h1 HWE
 go_enter Try.func36, Try.ntmps36
 go_wp2_with fail
 refine HC.out.mono ?_
 rintro e w' ⟨rfl, rfl⟩
 go_wp2_with fail
 obtain ⟨w1, e1⟩ : ∃ w1, w1 = W.alloc (.cells #[.int .i64 0, .int .i64 n, .int .u8 0] 84) := ⟨_, rfl⟩
 rw [← e1]
 have HB1 := Aside0.mk (show Below W.heap.size W w1 by rw [e1]; exact below_alloc (Below.refl _ _) _)
 have HX1 := Aside0.mk (show w1.heap[W.heap.size]? = some (.cells #[.int .i64 0, .int .i64 n, .int .u8 0] 84 (0, 0)) by rw [e1]; exact heap_alloc_new W _)
 refine (tape_does.calls g T N HOK.out hN (some ⟨W.heap.size, 0, none⟩) 1 [⟨0, n, 0⟩] w1 (fun k => ok k ∧ k < W.heap.size) (Res.on _ HPB.out HB1.out) (fun W' hk => unit_lit (u := ⟨0, n, 0⟩) ((hk.block _ (blk_lt HX1.out) (fun hh => by have := hh.2; omega)).trans HX1.out)) (by simp) (by simp) HLG.out).mono ?_
 rintro e w2 ⟨rfl, ht⟩
 have HT2 := Aside0.mk (Turned.from HB1.out ht)
 clear ht e1
 go_wp2_with fail
 go_ret
 exact ⟨by rw [HE.out]; rfl, by rw [HW.out]; exact HT2.out⟩
set_option maxHeartbeats 4000000 in
set_option maxRecDepth 100000 in
theorem tape_Trim.yes1 (g : Nat) (T : TM) (N : Nat) (hT : T.Ok N) (hN : N ≤ 1000000000) (n : Int) (W : World) (ok : Nat → Prop) (hP : (PTape g T).P ok W) (hr : T.ready 1 = 0) :
  Calls Try.prog 36 #[.pointer (some ⟨g, 0, none⟩), .int .i64 1, .int .i64 n] W fun e W' => e = .returned (.int .i64 (T.trimE 1 n)) ∧ Turned ok W W' (PTape g (T.trim 1 n)) := by
 have HC := Aside0.mk (tape_ready.calls g T 1 W ok hP)
 rw [hr] at HC
 have HOK := Aside0.mk hT
 have HP := Aside0.mk hP
 have HWE := Aside0.mk (show T.trimE 1 n = if n < 0 ∨ ((T.now 1).length : Int) < n then 1 else 0 by unfold TM.trimE; rw [if_neg (by omega)])
 obtain ⟨v0, v1, m0, m1, vu, x, hx, hC⟩ := ptape_open hP
 obtain ⟨oks, hs, _⟩ := obj_get hC 3 rfl
 obtain ⟨Am, cm, rfl⟩ := side_slice hs
 obtain ⟨x0, x1, x2, x3, x4, x5, x6, _⟩ := blk_all7 (tape_blk hC)
 clear hP hC hs hx hT hr
 by_cases h0 : n < 0
 ·have b0 : decide (n < 0) = true := decide_eq_true h0
  have HE := Aside0.mk (show T.trimE 1 n = 1 by rw [HWE.out, if_pos (.inl h0)])
  have HW := Aside0.mk (show T.trim 1 n = T by unfold TM.trim; rw [if_neg (by rw [HE.out]; decide)])
  clear h0 HWE
  go_enter Try.func36, Try.ntmps36
  go_wp2_with fail
  refine HC.out.mono ?_
  rintro e w' ⟨rfl, rfl⟩
  go_wp2_with fail
  go_ret
  exact ⟨by rw [HE.out]; rfl, by rw [HW.out]; exact Turned.refl HP.out⟩
 have b0 : decide (n < 0) = false := decide_eq_false h0
 by_cases h1 : ((T.now 1).length : Int) < n
 ·have b1 : decide (((T.now 1).length : Int) < n) = true := decide_eq_true h1
  have HE := Aside0.mk (show T.trimE 1 n = 1 by rw [HWE.out, if_pos (.inr h1)])
  have HW := Aside0.mk (show T.trim 1 n = T by unfold TM.trim; rw [if_neg (by rw [HE.out]; decide)])
  clear h0 h1 HWE
  go_enter Try.func36, Try.ntmps36
  go_wp2_with fail
  refine HC.out.mono ?_
  rintro e w' ⟨rfl, rfl⟩
  go_wp2_with fail
  go_ret
  exact ⟨by rw [HE.out]; rfl, by rw [HW.out]; exact Turned.refl HP.out⟩
 have b1 : decide (((T.now 1).length : Int) < n) = false := decide_eq_false h1
 have HE := Aside0.mk (show T.trimE 1 n = 0 by rw [HWE.out, if_neg (by omega)])
 have HW := Aside0.mk (show T.trim 1 n = T.does [⟨1, n, 0⟩] by unfold TM.trim; rw [if_pos HE.out])
 have HLG := Aside0.mk (show legal (T.now 0) (T.now 1) [⟨1, n, 0⟩] from by
  have l0 := HOK.out.now_len 0 (by decide)
  have l1 := HOK.out.now_len 1 (by decide)
  refine ⟨l0, l1, by simp, fun _ => ?_, ?_, ?_⟩
  ·simp only [if_true, if_false, show ((1 : Int) = 0) = False by decide]; omega
  ·simp only [unit1]
   split
   ·split
    ·rw [List.length_take]; omega
    ·omega
   ·exact l0
  ·simp only [unit1]
   split
   ·split
    ·rw [List.length_take]; omega
    ·omega
   ·exact l1)
 have HPB := Aside0.mk (Res.bound _ HP.out)
 clear h0 h1 HWE
 go_enter Try.func36, Try.ntmps36
 go_wp2_with fail
 refine HC.out.mono ?_
 rintro e w' ⟨rfl, rfl⟩
 go_wp2_with fail
 obtain ⟨w1, e1⟩ : ∃ w1, w1 = W.alloc (.cells #[.int .i64 1, .int .i64 n, .int .u8 0] 84) := ⟨_, rfl⟩
 rw [← e1]
 have HB1 := Aside0.mk (show Below W.heap.size W w1 by rw [e1]; exact below_alloc (Below.refl _ _) _)
 have HX1 := Aside0.mk (show w1.heap[W.heap.size]? = some (.cells #[.int .i64 1, .int .i64 n, .int .u8 0] 84 (0, 0)) by rw [e1]; exact heap_alloc_new W _)
 refine (tape_does.calls g T N HOK.out hN (some ⟨W.heap.size, 0, none⟩) 1 [⟨1, n, 0⟩] w1 (fun k => ok k ∧ k < W.heap.size) (Res.on _ HPB.out HB1.out) (fun W' hk => unit_lit (u := ⟨1, n, 0⟩) ((hk.block _ (blk_lt HX1.out) (fun hh => by have := hh.2; omega)).trans HX1.out)) (by simp) (by simp) HLG.out).mono ?_
 rintro e w2 ⟨rfl, ht⟩
 have HT2 := Aside0.mk (Turned.from HB1.out ht)
 clear ht e1
 go_wp2_with fail
 go_ret
 exact ⟨by rw [HE.out]; rfl, by rw [HW.out]; exact HT2.out⟩
theorem tape_Write.calls (g : Nat) (T : TM) (N : Nat) (hT : T.Ok N) (hN : N ≤ 1000000000) (i : Int) (A : Option Addr) (c : Nat) (data : List Int) (W : World) (ok : Nat → Prop) (hP : (PTape g T).P ok W) (hQ : ∀ W', Keeps W W' ok → Kd.C (Kd.int .u8) W' A data.length data) (hdl : data.length ≤ 1000000) :
  Calls Try.prog 19 #[.pointer (some ⟨g, 0, none⟩), .int .i64 i, .slice A data.length c] W fun e W' => e = .returned (.int .i64 (T.writeE i data)) ∧ Turned ok W W' (PTape g (T.write i data)) := by
 by_cases hr : T.ready i = 0
 ·rcases (TM.ready_pos hT hr).1 with rfl | rfl
  ·exact tape_Write.yes0 g T N hT hN A c data W ok hP hQ hdl hr
  ·exact tape_Write.yes1 g T N hT hN A c data W ok hP hQ hdl hr
 ·have he : T.writeE i data = T.ready i := by unfold TM.writeE; rw [if_pos hr]
  have ht : T.write i data = T := by unfold TM.write; rw [if_neg (by rw [he]; exact hr)]
  rw [he, ht]
  exact (tape_Write.no g T i A c data W ok hP hr).mono fun e W' hh => ⟨hh.1, hh.2 ▸ Turned.refl hP⟩
theorem tape_Trim.calls (g : Nat) (T : TM) (N : Nat) (hT : T.Ok N) (hN : N ≤ 1000000000) (i n : Int) (W : World) (ok : Nat → Prop) (hP : (PTape g T).P ok W) :
  Calls Try.prog 36 #[.pointer (some ⟨g, 0, none⟩), .int .i64 i, .int .i64 n] W fun e W' => e = .returned (.int .i64 (T.trimE i n)) ∧ Turned ok W W' (PTape g (T.trim i n)) := by
 by_cases hr : T.ready i = 0
 ·rcases (TM.ready_pos hT hr).1 with rfl | rfl
  ·exact tape_Trim.yes0 g T N hT hN n W ok hP hr
  ·exact tape_Trim.yes1 g T N hT hN n W ok hP hr
 ·have he : T.trimE i n = T.ready i := by unfold TM.trimE; rw [if_pos hr]
  have ht : T.trim i n = T := by unfold TM.trim; rw [if_neg (by rw [he]; exact hr)]
  rw [he, ht]
  exact (tape_Trim.no g T i n W ok hP hr).mono fun e W' hh => ⟨hh.1, hh.2 ▸ Turned.refl hP⟩
theorem tape_Clear.calls (g : Nat) (T : TM) (N : Nat) (hT : T.Ok N) (hN : N ≤ 1000000000) (i : Int) (W : World) (ok : Nat → Prop) (hP : (PTape g T).P ok W) :
  Calls Try.prog 44 #[.pointer (some ⟨g, 0, none⟩), .int .i64 i] W fun e W' => e = .returned (.int .i64 (T.trimE i 0)) ∧ Turned ok W W' (PTape g (T.trim i 0)) := by
 have HC := Aside0.mk (tape_Trim.calls g T N hT hN i 0 W ok hP)
 clear hT hP
 go_enter Try.func44, Try.ntmps44
 go_wp2_with fail
 refine HC.out.mono ?_
 rintro e w' ⟨rfl, ht⟩
 have HT := Aside0.mk ht
 clear ht HC
 go_wp2_with fail
 go_ret
 exact ⟨rfl, HT.out⟩
end Go.Proofs.Ytmfmoddaejoekaa.P
