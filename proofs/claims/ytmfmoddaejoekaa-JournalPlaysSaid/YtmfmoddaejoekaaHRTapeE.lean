/- Contracts, typed by hand and by a program: the document's tape: Write. -/
import Derived.Test.YtmfmoddaejoekaaHRTapeD
set_option linter.unusedVariables false
set_option linter.unusedSimpArgs false
namespace Go.Proofs.Ytmfmoddaejoekaa.P
open Go.RowKit Go.Proofs.YtmfmoddaejoekaaW.PrintWords Go.Proofs.YtmfmoddaejoekaaW.PrintLast Go.Proofs.YtmfmoddaejoekaaW.PrintMore
theorem rtape_Write.no (g : Nat) (T : TM) (i : Int) (A : Option Addr) (c : Nat) (data : List Int) (W : World) (ok : Nat → Prop) (hP : (RTape g T).P ok W) (hr : T.ready i ≠ 0) :
  Calls Try.prog 21 #[.pointer (some ⟨g, 0, none⟩), .int .i64 i, .slice A data.length c] W fun e W' => e = .returned (.int .i64 (T.ready i)) ∧ W = W' := by
 have HR := Aside0.mk (rtape_ready.calls g T i W ok hP)
 obtain ⟨r, er⟩ : ∃ r, T.ready i = r := ⟨_, rfl⟩
 rw [er] at hr HR ⊢
 have b1 : (r != 0) = true := by simpa using hr
 clear hP er hr
 go_enter Try.func21, Try.ntmps21
 go_wp2_with fail
 refine HR.out.mono ?_
 rintro e w' ⟨rfl, rfl⟩
 go_wp2_with fail
 go_ret
 exact ⟨rfl, rfl⟩
theorem units_snoc (p : Int) (data : List Int) (j : Nat) (hj : j < data.length) (b : Int) (hb : rd data (j : Int) = b) : TM.units p (data.take (j + 1)) = TM.units p (data.take j) ++ [⟨p, -1, b⟩] := by
 have e : data[j] = b := by rw [← hb]; simp [rd, hj]
 unfold TM.units
 rw [List.take_succ_eq_append_getElem hj, List.map_append, e]
 rfl
set_option maxHeartbeats 8000000 in
set_option maxRecDepth 100000 in
theorem rtape_Write.yes (g : Nat) (T : TM) (N : Nat) (hT : T.Ok N) (hN : N ≤ 1000000000) (p : Nat) (hp : p < 2) (A : Option Addr) (c : Nat) (data : List Int) (W : World) (ok : Nat → Prop) (hP : (RTape g T).P ok W) (hQ : ∀ W', Keeps W W' ok → Kd.C (Kd.int .u8) W' A data.length data) (hdl : data.length ≤ 1000000) (hr : T.ready p = 0) :
  Calls Try.prog 21 #[.pointer (some ⟨g, 0, none⟩), .int .i64 (p : Int), .slice A data.length c] W fun e W' => e = .returned (.int .i64 (T.writeE p data)) ∧ Turned ok W W' (RTape g (T.write p data)) := by
 have HR := Aside0.mk (rtape_ready.calls g T p W ok hP)
 rw [hr] at HR
 have HN := Aside0.mk (rtape_Now.calls g T N hT hN p hp W ok hP)
 have hnl : (T.now p).length ≤ 65536 := hT.now_len p (by omega)
 have hul : T.us.length ≤ 1000000000 := Nat.le_trans hT.2.1 hN
 have hE := TM.writeE_ready (data := data) hr
 obtain ⟨m, em⟩ : ∃ m, (T.now p).length = m := ⟨_, rfl⟩
 rw [em] at hnl hE
 have HP := Aside0.mk hP
 have HT := Aside0.mk hT
 have HM := Aside0.mk em
 have HQ := Aside0.mk hQ
 clear hP hr hT em hQ
 by_cases h2 : 65536 < m + data.length
 ·have HE := Aside0.mk (show T.writeE p data = 42 by rw [hE, if_pos h2])
  have b2 : decide ((m : Int) + (data.length : Int) > 65536) = true := decide_eq_true (by omega)
  have b3 : decide (65536 < (m : Int) + (data.length : Int)) = true := decide_eq_true (by omega)
  clear hE h2
  go_enter Try.func21, Try.ntmps21
  go_wp2_with fail
  refine HR.out.mono ?_
  rintro e w' ⟨rfl, rfl⟩
  go_wp2_with fail
  refine HN.out.mono ?_
  rintro e w7 ⟨v7, rfl, hR7, hB7⟩
  obtain ⟨A7, c7, ev7⟩ := Kd.R_slice hR7
  subst ev7
  rw [HM.out]
  have HB7 := Aside0.mk hB7
  clear hR7 hB7
  go_wp2_with fail
  go_ret
  refine ⟨by rw [HE.out]; rfl, ?_⟩
  rw [TM.write_no (by rw [HE.out]; decide)]
  exact (Turned.refl HP.out).on HB7.out
 have HE := Aside0.mk (show T.writeE p data = 0 by rw [hE, if_neg h2])
 have b2 : decide ((m : Int) + (data.length : Int) > 65536) = false := decide_eq_false (by omega)
 have b3 : decide (65536 < (m : Int) + (data.length : Int)) = false := decide_eq_false (by omega)
 clear hE h2
 go_enter Try.func21, Try.ntmps21
 go_wp2_with fail
 refine HR.out.mono ?_
 rintro e w' ⟨rfl, rfl⟩
 go_wp2_with fail
 refine HN.out.mono ?_
 rintro e w7 ⟨v7, rfl, hR7, hB7⟩
 obtain ⟨A7, c7, ev7⟩ := Kd.R_slice hR7
 subst ev7
 rw [HM.out]
 have HT7 := Aside0.mk ((Turned.refl ((RTape g T).bound HP.out)).on hB7)
 clear hR7 hB7
 go_wp2_with fail
 refine (rtape_burn.calls g T (trim_ready0 HT.out) w7 _ HT7.out.2).mono ?_
 rintro e w8 ⟨rfl, ht8⟩
 have HT8 := Aside0.mk (HT7.out.then_ ht8.1 ht8.2)
 have HL := Aside0.mk (show Turned (fun k => ok k ∧ k < W.heap.size) W w8 (RTape g (T.does (TM.units p (data.take 0)))) from by
  have e0 : T.does (TM.units p (data.take 0)) = T.burn := by
   unfold TM.does
   rw [List.take_zero]
   show { T.burn with us := T.us ++ [] } = T.burn
   rw [List.append_nil]
   rfl
  rw [e0]
  exact HT8.out)
 clear ht8 HT7 HT8 HN HR HM
 go_wp2_with fail
 go_loopw [8] (fun s8 wr => ∃ j : Nat, j ≤ data.length ∧ s8 = .int .i64 (j : Int) ∧ Aside0 (Turned (fun k => ok k ∧ k < W.heap.size) W wr (RTape g (T.does (TM.units p (data.take j)))))) (fun s8 _ => (data.length + 1 - (intOf s8).toNat))
 case atStart => exact ⟨0, Nat.zero_le _, rfl, HL⟩
 case round =>
  obtain ⟨j, hj, rfl, HLJ⟩ := hrel
  clear HL
  by_cases hjn : j < data.length
  ·have b1 : decide ((j : Int) < (data.length : Int)) = true := decide_eq_true (by omega)
   have hQr := HQ.out wr (HLJ.out.1.mono (fun k _ hk => hk.1))
   obtain ⟨ad, eA, hd0⟩ := Kd.at_int hQr (j : Int) (by omega) (by omega)
   subst eA
   rw [Int.toNat_natCast] at hd0
   obtain ⟨b, eb⟩ : ∃ b, rd data (j : Int) = b := ⟨_, rfl⟩
   rw [eb] at hd0
   have HSN := Aside0.mk (units_snoc (p : Int) data j hjn b eb)
   have HEB := Aside0.mk eb
   obtain ⟨w3, e3⟩ : ∃ w3 : World, w3 = wr.drew := ⟨_, rfl⟩
   have HD3 := Aside0.mk (show Below wr.heap.size wr w3 from by rw [e3]; exact below_drew1 (Below.refl _ _))
   have HL3 := Aside0.mk (HLJ.out.on HD3.out)
   have hd1 := pw_cell_below HD3.out hd0
   obtain ⟨v0, vu, hC⟩ := rtape_open HL3.out.2
   obtain ⟨oku, hu, hult, hback⟩ := rtape_add hC
   have husl : (TM.units p (data.take j)).length ≤ data.length := by
    unfold TM.units
    rw [List.length_map, List.length_take]
    omega
   obtain ⟨us, eus⟩ : ∃ us, (T.does (TM.units p (data.take j))).us = us := ⟨_, rfl⟩
   have HUS := Aside0.mk (show us.length ≤ 1001000000 from by
    rw [← eus]
    show (T.us ++ TM.units p (data.take j)).length ≤ _
    rw [List.length_append]
    omega)
   have HEU := Aside0.mk eus
   have hg0 := rtape_blk hC
   rw [eus] at hu
   obtain ⟨Au, cu, evu⟩ := Kd.R_slice hu
   subst evu
   obtain ⟨q2, q3, eq2, eq3⟩ : ∃ q2 q3, (T.does (TM.units p (data.take j))).burns = q2 ∧ (T.does (TM.units p (data.take j))).left = q3 := ⟨_, _, rfl, rfl⟩
   have HU := Aside0.mk hu
   have HBK := Aside0.mk @hback
   have hg1 : w3.cell? ⟨g, 1, none⟩ = some (.slice Au us.length cu) := by rw [blk_cell hg0]; rfl
   have HUX := Aside0.mk (show ∀ k, oku k → (ok k ∧ k < W.heap.size) ∨ W.heap.size ≤ k from fun k hk => (hult k hk).1)
   have HDK := Aside0.mk (show ∀ w9, Keeps w3 w9 (fun k => (ok k ∧ k < W.heap.size) ∨ W.heap.size ≤ k) → w9.cell? (ad.add j) = some (.int .u8 b) from fun w9 hk => by
    have h9 := HQ.out w9 ((HL3.out.1.then_ hk (fun k hk => hk)).mono (fun k _ hk => hk.1))
    obtain ⟨ad9, eA9, hd9⟩ := Kd.at_int h9 (j : Int) (by omega) (by omega)
    cases eA9
    rw [Int.toNat_natCast, HEB.out] at hd9
    exact hd9)
   clear hC hu hback hult husl eus hQr hd0 eb hg0
   go_wp2_with fail
   refine start_ (n := 16) (S := fun w' => w'.cell? ⟨g, 1, none⟩ = some (.slice Au us.length cu) ∧ w'.cell? (ad.add j) = some (.int .u8 b)) (ds := [15]) #[false, false, false, false, false, false, false, false, false, false, false, false, false, false, false, false] (by kernel_rfl) rfl rfl ⟨(by rw [← e3]; exact hg1), (by rw [← e3]; exact hd1)⟩ (fun hHeld => ?_)
   rw [← e3] at hHeld ⊢
   clear e3
   refine pure_ (i := 0) (N := some 31) (v := ?_) (a' := ?_) #[true, false, false, false, false, false, false, false, false, false, false, false, false, false, false, false] rfl rfl (by kernel_rfl) (fun _ _ _ h => h) (Or.inl ⟨by rfl, ?_⟩) ?_ ?_
   rotate_left
   ·intro w'
    go_simp
    with_reducible rfl
   rotate_left
   ·simp only [Act.put, List.setIfInBounds_toArray, List.set_cons_zero, List.set_cons_succ, i64_w, i32_w]
    rfl
   refine pure_ (i := 1) (N := some 32) (v := ?_) (a' := ?_) #[true, true, false, false, false, false, false, false, false, false, false, false, false, false, false, false] rfl rfl (by kernel_rfl) (fun _ _ _ h => h) (Or.inl ⟨by rfl, ?_⟩) ?_ ?_
   rotate_left
   ·intro w'
    go_simp
    with_reducible rfl
   rotate_left
   ·simp only [Act.put, List.setIfInBounds_toArray, List.set_cons_zero, List.set_cons_succ, i64_w, i32_w]
    rfl
   refine pure_ (i := 2) (N := some 33) (v := ?_) (a' := ?_) #[true, true, true, false, false, false, false, false, false, false, false, false, false, false, false, false] rfl rfl (by kernel_rfl) (fun _ _ _ h => h) (Or.inl ⟨by rfl, ?_⟩) ?_ ?_
   rotate_left
   ·intro w'
    go_simp
    with_reducible rfl
   rotate_left
   ·simp only [Act.put, List.setIfInBounds_toArray, List.set_cons_zero, List.set_cons_succ, i64_w, i32_w]
    rfl
   refine pure_ (i := 3) (N := some 34) (v := ?_) (a' := ?_) #[true, true, true, true, false, false, false, false, false, false, false, false, false, false, false, false] rfl rfl (by kernel_rfl) (fun _ _ _ h => h) (Or.inl ⟨by rfl, ?_⟩) ?_ ?_
   rotate_left
   ·intro w'
    go_simp
    with_reducible rfl
   rotate_left
   ·simp only [Act.put, List.setIfInBounds_toArray, List.set_cons_zero, List.set_cons_succ, i64_w, i32_w]
    rfl
   refine pure_ (i := 5) (N := some 36) (v := ?_) (a' := ?_) #[true, true, true, true, false, true, false, false, false, false, false, false, false, false, false, false] rfl rfl (by kernel_rfl) (fun _ _ _ h => h) (Or.inl ⟨by rfl, ?_⟩) ?_ ?_
   rotate_left
   ·intro w'
    go_simp
    with_reducible rfl
   rotate_left
   ·simp only [Act.put, List.setIfInBounds_toArray, List.set_cons_zero, List.set_cons_succ, i64_w, i32_w]
    rfl
   refine pure_ (i := 6) (N := some 37) (v := ?_) (a' := ?_) #[true, true, true, true, false, true, true, false, false, false, false, false, false, false, false, false] rfl rfl (by kernel_rfl) (fun _ _ _ h => h) (Or.inl ⟨by rfl, ?_⟩) ?_ ?_
   rotate_left
   ·intro w'
    go_simp
    with_reducible rfl
   rotate_left
   ·simp only [Act.put, List.setIfInBounds_toArray, List.set_cons_zero, List.set_cons_succ, i64_w, i32_w]
    rfl
   refine pure_ (i := 7) (N := some 38) (v := ?_) (a' := ?_) #[true, true, true, true, false, true, true, true, false, false, false, false, false, false, false, false] rfl rfl (by kernel_rfl) (fun _ _ _ h => h) (Or.inl ⟨by rfl, ?_⟩) ?_ ?_
   rotate_left
   ·intro w'
    go_simp
    with_reducible rfl
   rotate_left
   ·simp only [Act.put, List.setIfInBounds_toArray, List.set_cons_zero, List.set_cons_succ, i64_w, i32_w]
    rfl
   refine pure_ (i := 8) (N := some 39) (v := ?_) (a' := ?_) #[true, true, true, true, false, true, true, true, true, false, false, false, false, false, false, false] rfl rfl (by kernel_rfl) (fun _ _ _ h => h) (Or.inl ⟨by rfl, ?_⟩) ?_ ?_
   rotate_left
   ·intro w'
    go_simp
    with_reducible rfl
   rotate_left
   ·simp only [Act.put, List.setIfInBounds_toArray, List.set_cons_zero, List.set_cons_succ, i64_w, i32_w]
    rfl
   refine take_ (i := 4) (N := some 35) (v := ?_) (a' := ?_) #[true, true, true, true, true, true, true, true, true, false, false, false, false, false, false, false] rfl rfl (by kernel_rfl) (fun _ _ _ h => h) (Or.inl ⟨by rfl, ?_⟩) hHeld ?_ ?_
   rotate_left
   ·rintro w' ⟨s0, s1⟩
    go_simp
    with_reducible rfl
   rotate_left
   ·simp only [Act.put, List.setIfInBounds_toArray, List.set_cons_zero, List.set_cons_succ, i64_w, i32_w]
    rfl
   refine take_ (i := 9) (N := some 40) (v := ?_) (a' := ?_) #[true, true, true, true, true, true, true, true, true, true, false, false, false, false, false, false] rfl rfl (by kernel_rfl) (fun _ _ _ h => h) (Or.inl ⟨by rfl, ?_⟩) hHeld ?_ ?_
   rotate_left
   ·rintro w' ⟨s0, s1⟩
    go_simp
    with_reducible rfl
   rotate_left
   ·simp only [Act.put, List.setIfInBounds_toArray, List.set_cons_zero, List.set_cons_succ, i64_w, i32_w]
    rfl
   refine pure_ (i := 10) (N := some 41) (v := ?_) (a' := ?_) #[true, true, true, true, true, true, true, true, true, true, true, false, false, false, false, false] rfl rfl (by kernel_rfl) (fun _ _ _ h => h) (Or.inl ⟨by rfl, ?_⟩) ?_ ?_
   rotate_left
   ·intro w'
    go_simp
    with_reducible rfl
   rotate_left
   ·simp only [Act.put, List.setIfInBounds_toArray, List.set_cons_zero, List.set_cons_succ, i64_w, i32_w]
    rfl
   refine one_ (i := 11) (N := some 42) #[true, true, true, true, true, true, true, true, true, true, true, true, false, false, false, false] rfl rfl (by kernel_rfl) (by decide) (fun K hK => ?_)
   refine value_ (w1 := ?_) (v := ?_) (by rfl) rfl ?_ ?_
   rotate_left 2
   ·go_simp
    constructor
    ·rfl
    ·rfl
   refine hK.out _ _ ⟨(pw_cell_below (below_alloc (Below.refl _ _) _) hg1), (pw_cell_below (below_alloc (Below.refl _ _) _) hd1)⟩ (fun hHeld => ?_)
   clear hK K
   refine norm_ (a' := ?_) ?_ ?_
   rotate_left
   ·show Act.put _ (some 42) _ = _
    simp only [Act.put, List.setIfInBounds_toArray, List.set_cons_zero, List.set_cons_succ, i64_w, i32_w]
    rfl
   refine one_ (i := 12) (N := some 43) #[true, true, true, true, true, true, true, true, true, true, true, true, true, false, false, false] rfl rfl (by kernel_rfl) (by decide) (fun K hK => ?_)
   refine Kd.R_append_step k89 (w0 := w3) 0 (by rfl) (.tmp 35) (.tmp 42) 80 89 (.agg #[.int .i64 0, .int .i64 0, .int .u8 0]) 24 rfl Try.underlying80 hinfoD rfl (by decide) (by decide) (.slice Au us.length cu) us ⟨(p : Int), -1, b⟩ [.int .i64 (p : Int), .int .i64 (-1), .int .u8 b] (fun k => oku k ∨ w3.heap.size ≤ k) (fun _ => False) rfl rfl ?aM ?aK ?aF (Kd.R_mono HU.out (fun k hk => .inl hk)) (Below.refl _ _) (Nat.zero_le _) ?aL ?_
   case aM => exact k89_mkM w3 0 _ ⟨(p : Int), -1, b⟩
   case aK => exact fun k hk => hk.elim
   case aF => exact fun k hk => .inr hk
   case aL => have := HUS.out; omega
   intro v9 w9 hR9 _ hg9 _
   obtain ⟨us9, eus9⟩ : ∃ us9, us ++ [(⟨(p : Int), -1, b⟩ : Un)] = us9 := ⟨_, rfl⟩
   rw [eus9] at hR9
   have HE9 := Aside0.mk eus9
   clear eus9
   obtain ⟨A9, c9, ev9⟩ := Kd.R_slice hR9
   subst ev9
   have ht9 := HBK.out (show Turned oku w3 w9 (UnD (.slice A9 us9.length c9) us9) from ⟨(Keeps.of_grown hg9).mono (fun k _ hk => HU.out.1 k hk.symm), hR9⟩)
   have HT9 := Aside0.mk ht9.2
   have hB9 := ht9.1
   have hd9 := HDK.out w9 ((Keeps.of_grown hg9).mono (fun k _ hk => HUX.out k (HU.out.1 k hk.symm)))
   have hfz9 : w9.frozen? ⟨g, 1, none⟩ = false := blk_frozen hB9 1
   clear ht9 hR9 hg9
   refine hK.out _ _ ⟨(by rw [blk_cell hB9]; rfl), hd9⟩ (fun hHeld => ?_)
   clear hK K
   refine norm_ (a' := ?_) ?_ ?_
   rotate_left
   ·show Act.put _ (some 43) _ = _
    simp only [Act.put, List.setIfInBounds_toArray, List.set_cons_zero, List.set_cons_succ, i64_w, i32_w]
    rfl
   refine pure_ (i := 13) (N := some 44) (v := ?_) (a' := ?_) #[true, true, true, true, true, true, true, true, true, true, true, true, true, true, false, false] rfl rfl (by kernel_rfl) (fun _ _ _ h => h) (Or.inl ⟨by rfl, ?_⟩) ?_ ?_
   rotate_left
   ·intro w'
    go_simp
    with_reducible rfl
   rotate_left
   ·simp only [Act.put, List.setIfInBounds_toArray, List.set_cons_zero, List.set_cons_succ, i64_w, i32_w]
    rfl
   refine pure_ (i := 14) (N := some 45) (v := ?_) (a' := ?_) #[true, true, true, true, true, true, true, true, true, true, true, true, true, true, true, false] rfl rfl (by kernel_rfl) (fun _ _ _ h => h) (Or.inl ⟨by rfl, ?_⟩) ?_ ?_
   rotate_left
   ·intro w'
    go_simp
    with_reducible rfl
   rotate_left
   ·simp only [Act.put, List.setIfInBounds_toArray, List.set_cons_zero, List.set_cons_succ, i64_w, i32_w]
    rfl
   refine last_ (i := 15) (N := none) #[true, true, true, true, true, true, true, true, true, true, true, true, true, true, true, true] rfl rfl (by kernel_rfl) (by decide) (fun K hK => ?_)
   refine skip_ (w1 := ?_) (by rfl) rfl ?_ ?_
   rotate_left
   ·go_simp
    rfl
   refine hK.out _ _ ?_
   clear hK K
   refine done_ (by kernel_rfl) ?_
   go_wp2_with fail
   go_roundw
   case rel =>
    refine ⟨j + 1, by omega, by simp, ⟨?_⟩⟩
    have h10 := HL3.out.then_ HT9.out.1 ((RTapeC g v0 (.slice A9 us9.length c9) _ _ us9 _ _).mono (fun k hk => hk) HT9.out.2)
    have e9 : (T.does (TM.units p (data.take (j + 1)))).us = us9 := by
     show T.us ++ TM.units p (data.take (j + 1)) = us9
     rw [HSN.out, ← HE9.out, ← HEU.out]
     show _ = (T.us ++ TM.units p (data.take j)) ++ _
     rw [List.append_assoc]
    refine ⟨h10.1, (RTape g _).mono (fun k hk => hk) (rtape_mk (T := T.does (TM.units p (data.take (j + 1)))) (v0 := v0) (vu := .slice A9 us9.length c9) ?_)⟩
    rw [e9]
    exact h10.2
   case measure => simp [intOf]; omega
  ·have ejn : data.length = j := by omega
   subst ejn
   have b1 : decide ((data.length : Int) < (data.length : Int)) = false := decide_eq_false (by omega)
   have HFIN := Aside0.mk HLJ.out
   clear HLJ
   go_wp2_with fail
   go_ret
   refine ⟨by rw [HE.out]; rfl, ?_⟩
   rw [TM.write_yes HE.out]
   have h := HFIN.out
   rw [List.take_length] at h
   exact Turned.of_bound h
theorem rtape_Write.calls (g : Nat) (T : TM) (N : Nat) (hT : T.Ok N) (hN : N ≤ 1000000000) (i : Int) (A : Option Addr) (c : Nat) (data : List Int) (W : World) (ok : Nat → Prop) (hP : (RTape g T).P ok W) (hQ : ∀ W', Keeps W W' ok → Kd.C (Kd.int .u8) W' A data.length data) (hdl : data.length ≤ 1000000) :
  Calls Try.prog 21 #[.pointer (some ⟨g, 0, none⟩), .int .i64 i, .slice A data.length c] W fun e W' => e = .returned (.int .i64 (T.writeE i data)) ∧ Turned ok W W' (RTape g (T.write i data)) := by
 by_cases hr : T.ready i = 0
 ·rcases (TM.ready_pos hT hr).1 with rfl | rfl
  ·exact rtape_Write.yes g T N hT hN 0 (by decide) A c data W ok hP hQ hdl hr
  ·exact rtape_Write.yes g T N hT hN 1 (by decide) A c data W ok hP hQ hdl hr
 ·have he : T.writeE i data = T.ready i := by unfold TM.writeE; rw [if_pos hr]
  rw [he, TM.write_no (by rw [he]; exact hr)]
  exact (rtape_Write.no g T i A c data W ok hP hr).mono fun e W' hh => ⟨hh.1, hh.2 ▸ Turned.refl hP⟩
end Go.Proofs.Ytmfmoddaejoekaa.P
