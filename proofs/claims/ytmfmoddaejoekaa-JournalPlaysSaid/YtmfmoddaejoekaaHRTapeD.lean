/- Texts of this claim, laid into one. -/
import Derived.Test.YtmfmoddaejoekaaHRTapeB
section
/- Contracts, typed by hand: the document's tape: burn, Read, Trim. -/
set_option linter.unusedVariables false
set_option linter.unusedSimpArgs false
namespace Go.Proofs.Ytmfmoddaejoekaa.P
open Go.RowKit Go.Proofs.YtmfmoddaejoekaaW.PrintWords Go.Proofs.YtmfmoddaejoekaaW.PrintLast Go.Proofs.YtmfmoddaejoekaaW.PrintMore
theorem hinfoD : (Try.prog.info? 89).map (fun i => (i.zero, i.size, i.bytes)) = some (some (.agg #[.int .i64 0, .int .i64 0, .int .u8 0]), 3, 24) := by kernel_rfl
theorem rtape_burned {g : Nat} {T : TM} {ok : Nat → Prop} {W : World} (h : (RTape g T).P ok W) (hb : T.burns = true) : Turned ok W (W.setCell ⟨g, 3, none⟩ (.int .i64 (T.left - 1))) (RTape g T.burn) := by
 obtain ⟨v0, vu, hC⟩ := rtape_open h
 have h1 := obj_set hC 3 (.int .i64 (T.left - 1))
 have e : T.burn = { T with left := T.left - 1 } := by unfold TM.burn; rw [if_pos hb]
 exact ⟨h1.2, (RTape g _).mono (fun k hk => .inl hk) (rtape_mk (by rw [e]; exact h1.1))⟩
set_option maxHeartbeats 2000000 in
theorem rtape_burn.calls (g : Nat) (T : TM) (hl : 0 ≤ T.left ∧ T.left ≤ 1099511627776 ∨ T.burns = false) (W : World) (ok : Nat → Prop) (hP : (RTape g T).P ok W) :
  Calls Try.prog 52 #[.pointer (some ⟨g, 0, none⟩)] W fun e W' => e = .returned (.tuple #[]) ∧ Turned ok W W' (RTape g T.burn) := by
 obtain ⟨v0, vu, hC⟩ := rtape_open hP
 obtain ⟨x0, x1, x2, x3, f0, f1, f2, f3⟩ := blk_all4 (rtape_blk hC)
 have HP := Aside0.mk hP
 clear hC hP
 obtain ⟨bu, eb⟩ : ∃ bu, T.burns = bu := ⟨_, rfl⟩
 rw [eb] at x2
 have HEB := Aside0.mk eb
 cases bu with
 | false =>
  clear eb hl
  go_enter Try.func52, Try.ntmps52
  go_wp2_with fail
  go_end0
  refine ⟨rfl, ?_⟩
  have e : T.burn = T := by
   unfold TM.burn
   rw [if_neg (by rw [HEB.out]; decide)]
  rw [e]
  exact Turned.refl HP.out
 | true =>
  have h0 : 0 ≤ T.left ∧ T.left ≤ 1099511627776 := hl.resolve_right (by rw [eb]; decide)
  obtain ⟨x, ex⟩ : ∃ x, T.left = x := ⟨_, rfl⟩
  have HEX := Aside0.mk ex
  rw [ex] at x3 h0
  have h01 := h0.1
  have h02 := h0.2
  clear eb hl ex h0
  go_enter Try.func52, Try.ntmps52
  go_wp2_with fail
  go_end0
  refine ⟨rfl, ?_⟩
  have := rtape_burned HP.out HEB.out
  rw [HEX.out] at this
  exact this
theorem rtape_Read.no (g : Nat) (T : TM) (i : Int) (W : World) (ok : Nat → Prop) (hP : (RTape g T).P ok W) (hr : T.ready i ≠ 0) :
  Calls Try.prog 53 #[.pointer (some ⟨g, 0, none⟩), .int .i64 i] W fun e W' => e = .returned (.tuple #[.slice none 0 0, .int .i64 (T.ready i)]) ∧ W = W' := by
 have HR := Aside0.mk (rtape_ready.calls g T i W ok hP)
 obtain ⟨r, er⟩ : ∃ r, T.ready i = r := ⟨_, rfl⟩
 rw [er] at hr HR ⊢
 have b1 : (r != 0) = true := by simpa using hr
 clear hP er hr
 go_enter Try.func53, Try.ntmps53
 go_wp2_with fail
 refine HR.out.mono ?_
 rintro e w' ⟨rfl, rfl⟩
 go_wp2_with fail
 first | go_ret2 | go_ret
 exact ⟨rfl, rfl⟩
theorem rtape_Read.yes (g : Nat) (T : TM) (N : Nat) (hT : T.Ok N) (hN : N ≤ 1000000000) (p : Nat) (hp : p < 2) (W : World) (ok : Nat → Prop) (hP : (RTape g T).P ok W) (hr : T.ready p = 0) :
  Calls Try.prog 53 #[.pointer (some ⟨g, 0, none⟩), .int .i64 (p : Int)] W fun e W' => ∃ v, e = .returned (.tuple #[v, .int .i64 0]) ∧ (Kd.int .u8).R 5 W' 0 (fun k => W.heap.size ≤ k) v (T.now p) ∧ Below W.heap.size W W' := by
 have HR := Aside0.mk (rtape_ready.calls g T p W ok hP)
 rw [hr] at HR
 have HN := Aside0.mk (rtape_Now.calls g T N hT hN p hp W ok hP)
 clear hP hT hr
 go_enter Try.func53, Try.ntmps53
 go_wp2_with fail
 refine HR.out.mono ?_
 rintro e w' ⟨rfl, rfl⟩
 go_wp2_with fail
 refine HN.out.mono ?_
 rintro e w7 ⟨v7, rfl, hR7, hB7⟩
 have HR7 := Aside0.mk hR7
 have HB7 := Aside0.mk hB7
 clear hR7 hB7
 go_wp2_with fail
 first | go_ret2 | go_ret
 exact ⟨_, rfl, HR7.out, HB7.out⟩
/-- Units are added. -/
theorem rtape_add {g : Nat} {v0 vu : Value} {a b : List Int} {us : List Un} {burns : Bool} {x : Int} {ok : Nat → Prop} {W : World} (h : (RTapeC g v0 vu a b us burns x).P ok W) :
  ∃ oku : Nat → Prop, (k89).R 89 W 0 oku vu us ∧ (∀ k, oku k → ok k ∧ k < W.heap.size) ∧ ∀ {W' : World} {v9 : Value} {us' : List Un}, Turned oku W W' (UnD v9 us') →
   W'.heap[g]? = some (.cells #[v0, vu, .bool burns, .int .i64 x] 82 (0, 0)) ∧ Turned ok W (W'.setCell ⟨g, 1, none⟩ v9) (RTapeC g v0 v9 a b us' burns x) := by
 obtain ⟨oku, h1, h2, h3⟩ := obj_turn h 1 rfl
 refine ⟨oku, h1, fun k hk => ⟨(h2 k hk).1, (h2 k hk).2.1⟩, fun {W' v9 us'} ht => ?_⟩
 have h4 := h3 ht
 refine ⟨obj_blk h4.2, ?_⟩
 have h5 := obj_set h4.2 1 v9
 exact h4.then_ h5.2 ((RTapeC g v0 v9 a b us' burns x).mono (fun k hk => .inl hk) h5.1)
theorem trim_ready0 {T : TM} {N : Nat} (hT : T.Ok N) : 0 ≤ T.left ∧ T.left ≤ 1099511627776 ∨ T.burns = false := by
 cases hb : T.burns with
 | false => exact .inr rfl
 | true => exact .inl (hT.1 hb)
theorem rtape_Trim.no (g : Nat) (T : TM) (i n : Int) (W : World) (ok : Nat → Prop) (hP : (RTape g T).P ok W) (hr : T.ready i ≠ 0) :
  Calls Try.prog 57 #[.pointer (some ⟨g, 0, none⟩), .int .i64 i, .int .i64 n] W fun e W' => e = .returned (.int .i64 (T.ready i)) ∧ W = W' := by
 have HR := Aside0.mk (rtape_ready.calls g T i W ok hP)
 obtain ⟨r, er⟩ : ∃ r, T.ready i = r := ⟨_, rfl⟩
 rw [er] at hr HR ⊢
 have b1 : (r != 0) = true := by simpa using hr
 clear hP er hr
 go_enter Try.func57, Try.ntmps57
 go_wp2_with fail
 refine HR.out.mono ?_
 rintro e w' ⟨rfl, rfl⟩
 go_wp2_with fail
 go_ret
 exact ⟨rfl, rfl⟩
set_option maxHeartbeats 4000000 in
theorem rtape_Trim.yes (g : Nat) (T : TM) (N : Nat) (hT : T.Ok N) (hN : N ≤ 1000000000) (p : Nat) (hp : p < 2) (n : Int) (W : World) (ok : Nat → Prop) (hP : (RTape g T).P ok W) (hr : T.ready p = 0) :
  Calls Try.prog 57 #[.pointer (some ⟨g, 0, none⟩), .int .i64 (p : Int), .int .i64 n] W fun e W' => e = .returned (.int .i64 (T.trimE p n)) ∧ Turned ok W W' (RTape g (T.trim p n)) := by
 have HR := Aside0.mk (rtape_ready.calls g T p W ok hP)
 rw [hr] at HR
 have HN := Aside0.mk (rtape_Now.calls g T N hT hN p hp W ok hP)
 have hnl : (T.now p).length ≤ 65536 := hT.now_len p (by omega)
 have hul : T.us.length ≤ 1000000000 := Nat.le_trans hT.2.1 hN
 have hE : T.trimE p n = if n < 0 ∨ ((T.now p).length : Int) < n then 1 else 0 := by unfold TM.trimE; rw [if_neg (by rw [hr]; decide)]
 obtain ⟨m, em⟩ : ∃ m, (T.now p).length = m := ⟨_, rfl⟩
 rw [em] at hnl hE
 have HP := Aside0.mk hP
 have HT := Aside0.mk hT
 have HM := Aside0.mk em
 clear hP hr hT
 by_cases h1 : n < 0
 ·have HE := Aside0.mk (show T.trimE p n = 1 by rw [hE, if_pos (.inl h1)])
  have b1 : decide (n < 0) = true := decide_eq_true h1
  clear hE h1 em
  go_enter Try.func57, Try.ntmps57
  go_wp2_with fail
  refine HR.out.mono ?_
  rintro e w' ⟨rfl, rfl⟩
  go_wp2_with fail
  go_ret
  refine ⟨by rw [HE.out]; rfl, ?_⟩
  rw [TM.trim_no (by rw [HE.out]; decide)]
  exact Turned.refl HP.out
 have b1 : decide (n < 0) = false := decide_eq_false h1
 by_cases h2 : (m : Int) < n
 ·have HE := Aside0.mk (show T.trimE p n = 1 by rw [hE, if_pos (.inr h2)])
  have b2 : decide ((m : Int) < n) = true := decide_eq_true h2
  have b3 : decide (n > (m : Int)) = true := decide_eq_true h2
  clear hE h1 h2 em
  go_enter Try.func57, Try.ntmps57
  go_wp2_with fail
  refine HR.out.mono ?_
  rintro e w' ⟨rfl, rfl⟩
  go_wp2_with fail
  refine HN.out.mono ?_
  rintro e w7 ⟨v7, rfl, hR7, hB7⟩
  obtain ⟨A7, c7, ev7⟩ := Kd.R_slice hR7
  subst ev7
  rw [HM.out]
  have HB7 := Aside0.mk hB7
  clear hR7 hB7
  go_wp2_with fail
  go_ret
  refine ⟨by rw [HE.out]; rfl, ?_⟩
  rw [TM.trim_no (by rw [HE.out]; decide)]
  exact (Turned.refl HP.out).on HB7.out
 ·have HE := Aside0.mk (show T.trimE p n = 0 by rw [hE, if_neg (by omega)])
  have b2 : decide ((m : Int) < n) = false := decide_eq_false h2
  have b3 : decide (n > (m : Int)) = false := decide_eq_false h2
  clear hE h1 h2 em
  go_enter Try.func57, Try.ntmps57
  go_wp2_with fail
  refine HR.out.mono ?_
  rintro e w' ⟨rfl, rfl⟩
  go_wp2_with fail
  refine HN.out.mono ?_
  rintro e w7 ⟨v7, rfl, hR7, hB7⟩
  obtain ⟨A7, c7, ev7⟩ := Kd.R_slice hR7
  subst ev7
  rw [HM.out]
  have HT7 := Aside0.mk ((Turned.refl ((RTape g T).bound HP.out)).on hB7)
  clear hR7 hB7
  go_wp2_with fail
  refine (rtape_burn.calls g T (trim_ready0 HT.out) w7 _ HT7.out.2).mono ?_
  rintro e w8 ⟨rfl, ht8⟩
  have HT8 := Aside0.mk (HT7.out.then_ ht8.1 ht8.2)
  clear ht8
  obtain ⟨v0, vu, hC⟩ := rtape_open HT8.out.2
  obtain ⟨oku, hu, hult, hback⟩ := rtape_add hC
  obtain ⟨Au, cu, evu⟩ := Kd.R_slice hu
  subst evu
  obtain ⟨y0, y1, y2, y3, _⟩ := blk_all4 (rtape_blk hC)
  have HU := Aside0.mk hu
  have HBK := Aside0.mk @hback
  have HUL := Aside0.mk hult
  have eus : T.burn.us = T.us := rfl
  have HUS := Aside0.mk hul
  clear hC hu hback hult hul
  go_wp2_with (at_builtin; refine Kd.R_append k89 (w0 := w8) 0 rfl (.tmp 30) (.tmp 34) 80 89 (.agg #[.int .i64 0, .int .i64 0, .int .u8 0]) 24 rfl Try.underlying80 hinfoD rfl (by decide) (by decide) (.slice Au T.us.length cu) T.us ⟨(p : Int), n, 0⟩ [.int .i64 (p : Int), .int .i64 n, .int .u8 0] (fun k => oku k ∨ w8.heap.size ≤ k) (fun _ => False) rfl rfl ?aM ?aK ?aF (Kd.R_mono HU.out (fun k hk => .inl hk)) (Below.refl _ _) (Nat.zero_le _) ?aL ?_)
  case aM => exact k89_mkM w8 0 _ ⟨(p : Int), n, 0⟩
  case aK => exact fun k hk => hk.elim
  case aF => exact fun k hk => .inr hk
  case aL => have := HUS.out; omega
  intro v9 w9 hR9 _ hg9 _
  obtain ⟨us9, eus9⟩ : ∃ us9, T.us ++ [(⟨(p : Int), n, 0⟩ : Un)] = us9 := ⟨_, rfl⟩
  rw [eus9] at hR9
  have HE9 := Aside0.mk eus9
  clear eus9
  obtain ⟨A9, c9, ev9⟩ := Kd.R_slice hR9
  subst ev9
  have ht9 := HBK.out (show Turned oku w8 w9 (UnD (.slice A9 us9.length c9) us9) from ⟨(Keeps.of_grown hg9).mono (fun k _ hk => HU.out.1 k hk.symm), hR9⟩)
  have HT9 := Aside0.mk ht9.2
  obtain ⟨z0, z1, z2, z3, f0, f1, f2, f3⟩ := blk_all4 ht9.1
  clear ht9 hR9 hg9 y0 y1 y2 y3
  go_wp2_with fail
  go_ret
  refine ⟨by rw [HE.out]; rfl, ?_⟩
  have h10 := HT8.out.then_ HT9.out.1 ((RTapeC g v0 (.slice A9 us9.length c9) T.s0 T.s1 us9 T.burn.burns T.burn.left).mono (fun k hk => hk) HT9.out.2)
  rw [TM.trim_yes HE.out]
  have eus9 := HE9.out
  subst eus9
  exact Turned.of_bound ⟨h10.1, (RTape g _).mono (fun k hk => hk) (rtape_mk h10.2)⟩
end Go.Proofs.Ytmfmoddaejoekaa.P
end
section
/- Contracts, typed by hand: the document's tape: Sync, Crash. -/
set_option linter.unusedVariables false
set_option linter.unusedSimpArgs false
namespace Go.Proofs.Ytmfmoddaejoekaa.P
open Go.RowKit Go.Proofs.YtmfmoddaejoekaaW.PrintWords Go.Proofs.YtmfmoddaejoekaaW.PrintLast Go.Proofs.YtmfmoddaejoekaaW.PrintMore
theorem rtape_Sync.no (g : Nat) (T : TM) (W : World) (ok : Nat → Prop) (hP : (RTape g T).P ok W) (hr : T.ready 0 ≠ 0) :
  Calls Try.prog 22 #[.pointer (some ⟨g, 0, none⟩)] W fun e W' => e = .returned (.int .i64 (T.ready 0)) ∧ W = W' := by
 have HR := Aside0.mk (rtape_ready.calls g T 0 W ok hP)
 obtain ⟨r, er⟩ : ∃ r, T.ready 0 = r := ⟨_, rfl⟩
 rw [er] at hr HR ⊢
 have b1 : (r != 0) = true := by simpa using hr
 clear hP er hr
 go_enter Try.func22, Try.ntmps22
 go_wp2_with fail
 refine HR.out.mono ?_
 rintro e w' ⟨rfl, rfl⟩
 go_wp2_with fail
 go_ret
 exact ⟨rfl, rfl⟩
theorem rtape_Now0 (g : Nat) (T : TM) (N : Nat) (hT : T.Ok N) (hN : N ≤ 1000000000) (W : World) (ok : Nat → Prop) (hP : (RTape g T).P ok W) :
  Calls Try.prog 51 #[.pointer (some ⟨g, 0, none⟩), .int .i64 0] W fun e W' => ∃ v, e = .returned v ∧ (Kd.int .u8).R 5 W' 0 (fun k => W.heap.size ≤ k) v (T.now 0) ∧ Below W.heap.size W W' := rtape_Now.calls g T N hT hN 0 (by decide) W ok hP
theorem rtape_Now1 (g : Nat) (T : TM) (N : Nat) (hT : T.Ok N) (hN : N ≤ 1000000000) (W : World) (ok : Nat → Prop) (hP : (RTape g T).P ok W) :
  Calls Try.prog 51 #[.pointer (some ⟨g, 0, none⟩), .int .i64 1] W fun e W' => ∃ v, e = .returned v ∧ (Kd.int .u8).R 5 W' 0 (fun k => W.heap.size ≤ k) v (T.now 1) ∧ Below W.heap.size W W' := rtape_Now.calls g T N hT hN 1 (by decide) W ok hP
theorem rtape_Done0 (g : Nat) (T : TM) (N : Nat) (hT : T.Ok N) (hN : N ≤ 1000000000) (n : Nat) (hn : n ≤ T.us.length) (W : World) (ok : Nat → Prop) (hP : (RTape g T).P ok W) :
  Calls Try.prog 62 #[.pointer (some ⟨g, 0, none⟩), .int .i64 0, .int .i64 (n : Int)] W fun e W' => ∃ v, e = .returned v ∧ (Kd.int .u8).R 5 W' 0 (fun k => W.heap.size ≤ k) v (afterU T.s0 0 (T.us.take n)) ∧ Below W.heap.size W W' := rtape_Done.calls g T N hT hN 0 n (by decide) hn W ok hP
theorem rtape_Done1 (g : Nat) (T : TM) (N : Nat) (hT : T.Ok N) (hN : N ≤ 1000000000) (n : Nat) (hn : n ≤ T.us.length) (W : World) (ok : Nat → Prop) (hP : (RTape g T).P ok W) :
  Calls Try.prog 62 #[.pointer (some ⟨g, 0, none⟩), .int .i64 1, .int .i64 (n : Int)] W fun e W' => ∃ v, e = .returned v ∧ (Kd.int .u8).R 5 W' 0 (fun k => W.heap.size ≤ k) v (afterU T.s1 1 (T.us.take n)) ∧ Below W.heap.size W W' := rtape_Done.calls g T N hT hN 1 n (by decide) hn W ok hP
theorem TM.burn_Ok {T : TM} {N : Nat} (hT : T.Ok N) (hr : T.ready 0 = 0) : T.burn.Ok N := ⟨TM.burn_ok hT.1 (TM.ready_pos hT hr).2, hT.2.1, hT.2.2⟩
/-- Both sides are new. -/
theorem rtape_sides {g : Nat} {v0 vu : Value} {a b a' b' : List Int} {us : List Un} {burns : Bool} {x : Int} {ok : Nat → Prop} {W W1 : World} {u0 u1 : Value} (h : (RTapeC g v0 vu a b us burns x).P ok W) (hb : Below W.heap.size W W1)
  (h0 : (Kd.int .u8).R 5 W1 0 (fun k => W.heap.size ≤ k) u0 a') (h1 : (Kd.int .u8).R 5 W1 0 (fun k => W.heap.size ≤ k) u1 b') :
  Turned ok W (((W1.alloc (.cells #[u0, u1] 30)).setCell ⟨g, 0, none⟩ (.slice (some ⟨W1.heap.size, 0, none⟩) 2 2)).setCell ⟨g, 1, none⟩ (.slice none 0 0)) (RTapeC g (.slice (some ⟨W1.heap.size, 0, none⟩) 2 2) (.slice none 0 0) a' b' [] burns x) := by
 have hr := two_rows h0 h1
 have hb2 : Below W.heap.size W (W1.alloc (.cells #[u0, u1] 30)) := below_alloc hb _
 have h2 := obj_new (R' := RowL (.slice (some ⟨W1.heap.size, 0, none⟩) 2 2) [a', b']) h 0 hb2 (Kd.R_mono hr (fun k hk => hk.elim id (fun hh => Nat.le_trans hb.size hh)))
 have h3 := obj_set h2.2 0 (.slice (some ⟨W1.heap.size, 0, none⟩) 2 2)
 have h4 := obj_less (R' := UnD (.slice none 0 0) []) h3.1 1 rfl (fun _ _ => Kd.R_nil _ _ _ _ _)
 have h5 := obj_set h4 1 (.slice none 0 0)
 have h6 := h2.then_ h3.2 ((RTapeC g _ vu a' b' us burns x).mono (fun k hk => .inl hk) h3.1)
 exact h6.then_ h5.2 ((RTapeC g _ _ a' b' [] burns x).mono (fun k hk => .inl hk) h5.1)
set_option maxHeartbeats 4000000 in
theorem rtape_Sync.yes (g : Nat) (T : TM) (N : Nat) (hT : T.Ok N) (hN : N ≤ 1000000000) (W : World) (ok : Nat → Prop) (hP : (RTape g T).P ok W) (hr : T.ready 0 = 0) :
  Calls Try.prog 22 #[.pointer (some ⟨g, 0, none⟩)] W fun e W' => e = .returned (.int .i64 0) ∧ Turned ok W W' (RTape g T.sync) := by
 have HR := Aside0.mk (rtape_ready.calls g T 0 W ok hP)
 rw [hr] at HR
 have HB := Aside0.mk (rtape_burn.calls g T (trim_ready0 hT) W _ ((RTape g T).bound hP))
 have HTB := Aside0.mk (TM.burn_Ok hT hr)
 have HY := Aside0.mk (TM.sync_yes hr)
 clear hP hr hT
 go_enter Try.func22, Try.ntmps22
 go_wp2_with fail
 refine HR.out.mono ?_
 rintro e w' ⟨rfl, rfl⟩
 go_wp2_with fail
 refine HB.out.mono ?_
 rintro e w8 ⟨rfl, ht8⟩
 have HT8 := Aside0.mk ht8
 clear ht8 HB HR
 go_wp2_with fail
 refine (rtape_Now0 g T.burn N HTB.out hN w8 _ HT8.out.2).mono ?_
 rintro e w9 ⟨u0, rfl, hR9, hB9⟩
 obtain ⟨B0, d0, ev0⟩ := Kd.R_slice hR9
 subst ev0
 have HR9 := Aside0.mk hR9
 have HB9 := Aside0.mk hB9
 clear hR9 hB9
 go_wp2_with fail
 refine (rtape_Now1 g T.burn N HTB.out hN w9 _ ((RTape g T.burn).on HT8.out.2 HB9.out)).mono ?_
 rintro e w10 ⟨u1, rfl, hR10, hB10⟩
 obtain ⟨B1, d1, ev1⟩ := Kd.R_slice hR10
 subst ev1
 obtain ⟨v0, vu, hC⟩ := rtape_open HT8.out.2
 have HFIN := Aside0.mk (rtape_sides hC (below_step HB9.out hB10) (Kd.R_mono (Kd.R_below HR9.out hB10) (fun k hk => hk)) (Kd.R_mono hR10 (fun k hk => Nat.le_trans HB9.out.size hk)))
 obtain ⟨y0, y1, y2, y3, f0, f1, f2, f3⟩ := blk_all4 (blk_below (blk_below (blk_below (rtape_blk hC) HB9.out) hB10) (below_alloc (Below.refl w10.heap.size w10) (.cells #[.slice B0 (T.burn.now 0).length d0, .slice B1 (T.burn.now 1).length d1] 30)))
 clear hR10 hB10 hC HR9 HB9
 obtain ⟨n0, e0⟩ : ∃ n, (T.burn.now 0).length = n := ⟨_, rfl⟩
 obtain ⟨n1, e1⟩ : ∃ n, (T.burn.now 1).length = n := ⟨_, rfl⟩
 rw [e0, e1] at HFIN y0 y1 y2 y3 f0 f1 f2 f3
 rw [e0, e1]
 clear e0 e1
 go_wp2_with fail
 go_ret
 refine ⟨rfl, ?_⟩
 rw [HY.out]
 have h10 := HT8.out.then_ HFIN.out.1 HFIN.out.2
 exact Turned.of_bound ⟨h10.1, (RTape g _).mono (fun k hk => hk) (rtape_mk (T := { T.burn with s0 := T.now 0, s1 := T.now 1, us := [] }) h10.2)⟩
theorem rtape_Sync.calls (g : Nat) (T : TM) (N : Nat) (hT : T.Ok N) (hN : N ≤ 1000000000) (W : World) (ok : Nat → Prop) (hP : (RTape g T).P ok W) :
  Calls Try.prog 22 #[.pointer (some ⟨g, 0, none⟩)] W fun e W' => e = .returned (.int .i64 (T.ready 0)) ∧ Turned ok W W' (RTape g T.sync) := by
 by_cases hr : T.ready 0 = 0
 ·rw [hr]; exact rtape_Sync.yes g T N hT hN W ok hP hr
 ·rw [TM.sync_no hr]
  exact (rtape_Sync.no g T W ok hP hr).mono fun e W' hh => ⟨hh.1, hh.2 ▸ Turned.refl hP⟩
theorem rtape_Trim.calls (g : Nat) (T : TM) (N : Nat) (hT : T.Ok N) (hN : N ≤ 1000000000) (i n : Int) (W : World) (ok : Nat → Prop) (hP : (RTape g T).P ok W) :
  Calls Try.prog 57 #[.pointer (some ⟨g, 0, none⟩), .int .i64 i, .int .i64 n] W fun e W' => e = .returned (.int .i64 (T.trimE i n)) ∧ Turned ok W W' (RTape g (T.trim i n)) := by
 by_cases hr : T.ready i = 0
 ·rcases (TM.ready_pos hT hr).1 with rfl | rfl
  ·exact rtape_Trim.yes g T N hT hN 0 (by decide) n W ok hP hr
  ·exact rtape_Trim.yes g T N hT hN 1 (by decide) n W ok hP hr
 ·have he : T.trimE i n = T.ready i := by unfold TM.trimE; rw [if_pos hr]
  rw [he, TM.trim_no (by rw [he]; exact hr)]
  exact (rtape_Trim.no g T i n W ok hP hr).mono fun e W' hh => ⟨hh.1, hh.2 ▸ Turned.refl hP⟩
/-- The power is lost. -/
theorem rtape_crashed {g : Nat} {T : TM} {v0 vu : Value} {ok : Nat → Prop} {W W1 : World} {u0 u1 : Value} {n : Int} (h : (RTapeC g v0 vu T.s0 T.s1 T.us T.burns T.left).P ok W) (hb : Below W.heap.size W W1)
  (h0 : (Kd.int .u8).R 5 W1 0 (fun k => W.heap.size ≤ k) u0 (T.crash n).s0) (h1 : (Kd.int .u8).R 5 W1 0 (fun k => W.heap.size ≤ k) u1 (T.crash n).s1) :
  Turned ok W (((((W1.alloc (.cells #[u0, u1] 30)).setCell ⟨g, 0, none⟩ (.slice (some ⟨W1.heap.size, 0, none⟩) 2 2)).setCell ⟨g, 1, none⟩ (.slice none 0 0)).setCell ⟨g, 2, none⟩ (.bool false)).setCell ⟨g, 3, none⟩ (.int .i64 0)) (RTape g (T.crash n)) := by
 have h2 := rtape_sides h hb h0 h1
 have h3 := obj_set h2.2 2 (.bool false)
 have h4 := obj_set h3.1 3 (.int .i64 0)
 have h5 := h2.then_ h3.2 ((RTapeC g _ _ (T.crash n).s0 (T.crash n).s1 [] false T.left).mono (fun k hk => .inl hk) h3.1)
 have h6 := h5.then_ h4.2 ((RTapeC g _ _ (T.crash n).s0 (T.crash n).s1 [] false 0).mono (fun k hk => .inl hk) h4.1)
 exact ⟨h6.1, (RTape g _).mono (fun k hk => hk) (rtape_mk (T := T.crash n) h6.2)⟩
set_option maxHeartbeats 4000000 in
theorem rtape_Crash.calls (g : Nat) (T : TM) (N : Nat) (hT : T.Ok N) (hN : N ≤ 1000000000) (n : Int) (hn1 : -9223372036854775808 ≤ n) (hn2 : n ≤ 9223372036854775807) (W : World) (ok : Nat → Prop) (hP : (RTape g T).P ok W) :
  Calls Try.prog 32 #[.pointer (some ⟨g, 0, none⟩), .int .i64 n] W fun e W' => e = .returned (.tuple #[]) ∧ Turned ok W W' (RTape g (T.crash n)) := by
 obtain ⟨v0, vu, hC⟩ := rtape_open hP
 obtain ⟨oku, hU0, _⟩ := obj_get hC 1 rfl
 obtain ⟨Au, cu, evu⟩ := Kd.R_slice (show (k89).R 89 W 0 oku vu T.us from hU0)
 subst evu
 obtain ⟨x0, x1, x2, x3, g0, g1, g2, g3⟩ := blk_all4 (rtape_blk hC)
 have hul : T.us.length ≤ 1000000000 := Nat.le_trans hT.2.1 hN
 obtain ⟨a, ea⟩ : ∃ a : Nat, (if n < 0 then -(n + 1) else n) = (a : Int) := ⟨(if n < 0 then -(n + 1) else n).toNat, by split <;> omega⟩
 have ham : a ≤ 9223372036854775807 := by
  by_cases h : n < 0
  ·rw [if_pos h] at ea; omega
  ·rw [if_neg h] at ea; omega
 obtain ⟨m, em⟩ : ∃ m, T.stays n = m := ⟨_, rfl⟩
 have em2 : m = a % (T.us.length + 1) := by rw [← em]; unfold TM.stays; rw [ea, Int.toNat_natCast]
 have hm : m ≤ T.us.length := by rw [em2]; have := Nat.mod_lt a (show 0 < T.us.length + 1 by omega); omega
 have hmod : Int.tmod (a : Int) ((T.us.length : Int) + 1) = (m : Int) := by
  rw [Int.tmod_eq_emod_of_nonneg (by omega), em2]
  simp
 have HCC := Aside0.mk hC
 have HT := Aside0.mk hT
 have HM := Aside0.mk (And.intro em hm)
 have HP := Aside0.mk hP
 obtain ⟨L, eL⟩ : ∃ L, T.us.length = L := ⟨_, rfl⟩
 rw [eL] at hmod x1 hul
 have hL1 : (L : Int) + 1 ≠ 0 := by omega
 clear hC hU0 hT hP em em2 hm eL
 by_cases h : n < 0
 ·have b1 : decide (n < 0) = true := decide_eq_true h
  have ea' : -(n + 1) = (a : Int) := by rw [if_pos h] at ea; exact ea
  have w1 : wrap64 (n + 1) = n + 1 := w64 (by omega) (by omega)
  have w2 : wrap64 (-(n + 1)) = (a : Int) := by rw [ea', w64 (by omega) (by omega)]
  have hl9 : -9223372036854775808 ≤ n + 1 ∧ n + 1 ≤ 9223372036854775807 := by omega
  clear ea
  go_enter Try.func32, Try.ntmps32
  go_wp2_with fail
  clear ea' w1 w2 hmod hl9 b1 h
  refine (rtape_Done0 g T N HT.out hN m HM.out.2 W ok HP.out).mono ?_
  rintro e w9 ⟨u0, rfl, hR9, hB9⟩
  obtain ⟨B0, d0, ev0⟩ := Kd.R_slice hR9
  subst ev0
  have HR9 := Aside0.mk hR9
  have HB9 := Aside0.mk hB9
  clear hR9 hB9
  go_wp2_with fail
  refine (rtape_Done1 g T N HT.out hN m HM.out.2 w9 _ ((RTape g T).on HP.out HB9.out)).mono ?_
  rintro e w10 ⟨u1, rfl, hR10, hB10⟩
  obtain ⟨B1, d1, ev1⟩ := Kd.R_slice hR10
  subst ev1
  have HFIN := Aside0.mk (rtape_crashed (n := n) HCC.out (below_step HB9.out hB10) (by show (Kd.int .u8).R _ _ _ _ _ (afterU T.s0 0 (T.us.take (T.stays n))); rw [HM.out.1]; exact Kd.R_mono (Kd.R_below HR9.out hB10) (fun k hk => hk)) (by show (Kd.int .u8).R _ _ _ _ _ (afterU T.s1 1 (T.us.take (T.stays n))); rw [HM.out.1]; exact Kd.R_mono hR10 (fun k hk => Nat.le_trans HB9.out.size hk)))
  obtain ⟨y0, y1, y2, y3, f0, f1, f2, f3⟩ := blk_all4 (blk_below (blk_below (blk_below (rtape_blk HCC.out) HB9.out) hB10) (below_alloc (Below.refl w10.heap.size w10) (.cells #[.slice B0 (afterU T.s0 0 (T.us.take m)).length d0, .slice B1 (afterU T.s1 1 (T.us.take m)).length d1] 30)))
  clear hR10 hB10 HR9 HB9 x0 x1 x2 x3 g0 g1 g2 g3
  obtain ⟨n0, e0⟩ : ∃ n0, (afterU T.s0 0 (T.us.take m)).length = n0 := ⟨_, rfl⟩
  obtain ⟨n1, e1⟩ : ∃ n1, (afterU T.s1 1 (T.us.take m)).length = n1 := ⟨_, rfl⟩
  rw [e0, e1] at HFIN y0 y1 y2 y3 f0 f1 f2 f3
  rw [e0, e1]
  clear e0 e1
  go_wp2_with fail
  go_end0
  exact ⟨rfl, HFIN.out⟩
 ·have b1 : decide (n < 0) = false := decide_eq_false h
  have ea' : n = (a : Int) := by rw [if_neg h] at ea; exact ea
  clear ea
  subst ea'
  clear h
  go_enter Try.func32, Try.ntmps32
  go_wp2_with fail
  clear hmod b1
  refine (rtape_Done0 g T N HT.out hN m HM.out.2 W ok HP.out).mono ?_
  rintro e w9 ⟨u0, rfl, hR9, hB9⟩
  obtain ⟨B0, d0, ev0⟩ := Kd.R_slice hR9
  subst ev0
  have HR9 := Aside0.mk hR9
  have HB9 := Aside0.mk hB9
  clear hR9 hB9
  go_wp2_with fail
  refine (rtape_Done1 g T N HT.out hN m HM.out.2 w9 _ ((RTape g T).on HP.out HB9.out)).mono ?_
  rintro e w10 ⟨u1, rfl, hR10, hB10⟩
  obtain ⟨B1, d1, ev1⟩ := Kd.R_slice hR10
  subst ev1
  have HFIN := Aside0.mk (rtape_crashed (n := (a : Int)) HCC.out (below_step HB9.out hB10) (by show (Kd.int .u8).R _ _ _ _ _ (afterU T.s0 0 (T.us.take (T.stays (a : Int)))); rw [HM.out.1]; exact Kd.R_mono (Kd.R_below HR9.out hB10) (fun k hk => hk)) (by show (Kd.int .u8).R _ _ _ _ _ (afterU T.s1 1 (T.us.take (T.stays (a : Int)))); rw [HM.out.1]; exact Kd.R_mono hR10 (fun k hk => Nat.le_trans HB9.out.size hk)))
  obtain ⟨y0, y1, y2, y3, f0, f1, f2, f3⟩ := blk_all4 (blk_below (blk_below (blk_below (rtape_blk HCC.out) HB9.out) hB10) (below_alloc (Below.refl w10.heap.size w10) (.cells #[.slice B0 (afterU T.s0 0 (T.us.take m)).length d0, .slice B1 (afterU T.s1 1 (T.us.take m)).length d1] 30)))
  clear hR10 hB10 HR9 HB9 x0 x1 x2 x3 g0 g1 g2 g3
  obtain ⟨n0, e0⟩ : ∃ n0, (afterU T.s0 0 (T.us.take m)).length = n0 := ⟨_, rfl⟩
  obtain ⟨n1, e1⟩ : ∃ n1, (afterU T.s1 1 (T.us.take m)).length = n1 := ⟨_, rfl⟩
  rw [e0, e1] at HFIN y0 y1 y2 y3 f0 f1 f2 f3
  rw [e0, e1]
  clear e0 e1
  go_wp2_with fail
  go_end0
  exact ⟨rfl, HFIN.out⟩
end Go.Proofs.Ytmfmoddaejoekaa.P
end
