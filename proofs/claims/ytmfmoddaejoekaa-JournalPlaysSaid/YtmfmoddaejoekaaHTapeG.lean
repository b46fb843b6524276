/- Contracts, typed by hand and by a program: the program's tape: units are done. -/
import Derived.Test.YtmfmoddaejoekaaHTapeF
set_option linter.unusedVariables false
set_option linter.unusedSimpArgs false
namespace Go.Proofs.Ytmfmoddaejoekaa.P
open Go.RowKit Go.Proofs.YtmfmoddaejoekaaW.PrintWords Go.Proofs.YtmfmoddaejoekaaW.PrintLast Go.Proofs.YtmfmoddaejoekaaW.PrintMore
theorem hinfoU : (Try.prog.info? 84).map (fun i => (i.zero, i.size, i.bytes)) = some (some (.agg #[.int .i64 0, .int .i64 0, .int .u8 0]), 3, 24) := by kernel_rfl
theorem list_set_same {α : Type} {Rs : List α} {i : Nat} {R : α} (hi : Rs[i]? = some R) : Rs.set i R = Rs := by
 apply List.ext_getElem?
 intro k
 by_cases e : i = k
 ·subst e
  rw [List.getElem?_set_self (List.getElem?_eq_some_iff.1 hi).1, hi]
 ·rw [List.getElem?_set_ne e]
/-- A unit is done to the sides that an object's parts i and j are. -/
theorem done.obj {g : Nat} {t : TypeId} {cs : List Value} {Rs : List Res} {m0 m1 : Value} {n0 n1 : List Int} {W : World} {ok : Nat → Prop} (h : (Res.obj g t cs Rs).P ok W) (i j : Nat) (hi : Rs[i]? = some (SideR m0 n0)) (hj : Rs[j]? = some (SideR m1 n1)) (hij : i ≠ j) (u : Un) (hu : u.f0 = 0 ∨ u.f0 = 1) (l0 : n0.length ≤ 65536) (l1 : n1.length ≤ 65536) (hc : 0 ≤ u.f1 → u.f1 ≤ ((if u.f0 = 0 then n0 else n1).length : Int)) :
  Calls Try.prog 59 #[.agg #[m0, m1], .agg #[.int .i64 u.f0, .int .i64 u.f1, .int .u8 u.f2]] W fun e W' => ∃ B0 k0 d0 B1 k1 d1, e = .returned (.agg #[.slice B0 k0 d0, .slice B1 k1 d1]) ∧ Turned ok W W' (Res.obj g t cs ((Rs.set i (SideR (.slice B0 k0 d0) (unit1 n0 0 u))).set j (SideR (.slice B1 k1 d1) (unit1 n1 1 u)))) := by
 obtain ⟨ok0, hR0, _, hb0⟩ := obj_turn h i hi
 obtain ⟨ok1, hR1, _, hb1⟩ := obj_turn h j hj
 obtain ⟨Z0, q0, z0⟩ := side_slice hR0
 obtain ⟨Z1, q1, z1⟩ := side_slice hR1
 subst z0 z1
 rcases hu with hu | hu
 ·refine (done.side0 _ _ n0 u W ok0 hR0 hu l0 (fun h0 => by have := hc h0; rwa [if_pos hu] at this) ⟨_, _, _, rfl⟩).mono fun e W' ⟨v', he, ⟨X, p, r, hv⟩, ht⟩ => ⟨X, p, r, Z1, n1.length, q1, by rw [he, hv], ?_⟩
  have e1 : unit1 n1 1 u = n1 := by unfold unit1; rw [if_neg (by omega)]
  rw [e1, list_set_same (by rw [List.getElem?_set_ne hij]; exact hj)]
  rw [hv] at ht
  exact hb0 ht
 ·refine (done.side1 _ _ n1 u W ok1 hR1 hu l1 (fun h0 => by have := hc h0; rwa [if_neg (by omega)] at this) ⟨_, _, _, rfl⟩).mono fun e W' ⟨v', he, ⟨X, p, r, hv⟩, ht⟩ => ⟨Z0, n0.length, q0, X, p, r, by rw [he, hv], ?_⟩
  have e1 : unit1 n0 0 u = n0 := by unfold unit1; rw [if_neg (by omega)]
  rw [e1, list_set_same hi]
  rw [hv] at ht
  exact hb1 ht
theorem tape_blk' {g : Nat} {v0 v1 m0 m1 vu bu y : Value} {Rs : List Res} {ok : Nat → Prop} {W : World} (h : (Res.obj g 62 [v0, v1, m0, m1, vu, bu, y] Rs).P ok W) : W.heap[g]? = some (.cells #[v0, v1, m0, m1, vu, bu, y] 62 (0, 0)) := obj_blk h
theorem legal_at {a b : List Int} {l : List Un} (h : legal a b l) (i : Nat) (hi : i < l.length) : legal (afterU a 0 (l.take i)) (afterU b 1 (l.take i)) (l.drop i) := by
 have h1 : legal a b (l.take i ++ l.drop i) := by rw [List.take_append_drop]; exact h
 exact (legal_append.1 h1).2
theorem afterU_take (a : List Int) (s : Int) (l : List Un) (i : Nat) (z : Un) (hi : i < l.length) : afterU a s (l.take (i + 1)) = unit1 (afterU a s (l.take i)) s (l.getD i z) := by
 rw [List.take_add_one, List.getElem?_eq_getElem hi, Option.toList_some, afterU_snoc]
 congr 1
 simp [hi]
set_option maxHeartbeats 8000000 in
set_option maxRecDepth 100000 in
theorem tape_does.calls (g : Nat) (T : TM) (N : Nat) (hT : T.Ok N) (hN : N ≤ 1000000000) (A : Option Addr) (c : Nat) (l : List Un) (W : World) (ok : Nat → Prop) (hP : (PTape g T).P ok W) (hQ : ∀ W', Keeps W W' ok → Kd.C k89 W' A l.length l) (hl : l.length ≤ 1000000) (hlc : l.length ≤ c) (hleg : legal (T.now 0) (T.now 1) l) :
  Calls Try.prog 48 #[.pointer (some ⟨g, 0, none⟩), .slice A l.length c] W fun e W' => e = .returned (.int .i64 0) ∧ Turned ok W W' (PTape g (T.does l)) := by
 obtain ⟨v0, v1, p0, p1, vu, x, hx, hC⟩ := ptape_open hP
 obtain ⟨n0, en0⟩ : ∃ n, T.now 0 = n := ⟨_, rfl⟩
 obtain ⟨n1, en1⟩ : ∃ n, T.now 1 = n := ⟨_, rfl⟩
 obtain ⟨a, ea⟩ : ∃ n, T.s0 = n := ⟨_, rfl⟩
 obtain ⟨b_, eb_⟩ : ∃ n, T.s1 = n := ⟨_, rfl⟩
 obtain ⟨us, eus⟩ : ∃ n, T.us = n := ⟨_, rfl⟩
 obtain ⟨bu, ebu⟩ : ∃ n, T.burns = n := ⟨_, rfl⟩
 rw [en0, en1] at hleg
 rw [en0, en1, ea, eb_, eus, ebu] at hC
 have husl : us.length ≤ 1000000000 := by have := hT.2.1; rw [eus] at this; omega
 have HEND := Aside0.mk (show ∀ ok W y, y = wrap64 (x - 1) → ∀ v0 v1 m0 m1 vu, (TapeC g v0 v1 m0 m1 vu a b_ (afterU n0 0 l) (afterU n1 1 l) (us ++ l) bu y).P ok W → (PTape g (T.does l)).P ok W from fun ok W y hy v0 v1 m0 m1 vu h => by
  have e0 : (T.does l).now 0 = afterU n0 0 l := by
   show afterU T.s0 0 (T.us ++ l) = _
   rw [afterU_append, ← en0]
   rfl
  have e1 : (T.does l).now 1 = afterU n1 1 l := by
   show afterU T.s1 1 (T.us ++ l) = _
   rw [afterU_append, ← en1]
   rfl
  refine ptape_mk (v0 := v0) (v1 := v1) (m0 := m0) (m1 := m1) (vu := vu) (x := y) (fun hb => ?_) ?_
  ·have hb' : T.burns = true := hb
   have h1 := hx hb'
   have h2 := hT.1 hb'
   show y = (if T.burns = true then T.left - 1 else T.left)
   rw [if_pos hb', hy, h1]
   unfold wrap64
   omega
  ·rw [e0, e1]
   show (TapeC g v0 v1 m0 m1 vu T.s0 T.s1 _ _ (T.us ++ l) T.burns y).P ok W
   rw [ea, eb_, eus, ebu]
   exact h)
 clear hT hx en0 en1 ea eb_ eus ebu hP
 obtain ⟨x0, x1, x2, x3, x4, x5, x6, f0, f1, f2, f3, f4, f5, f6⟩ := blk_all7 (tape_blk hC)
 have h1 := obj_set hC 6 (.int .i64 (wrap64 (x - 1)))
 have HQ := Aside0.mk hQ
 have HLEG := Aside0.mk hleg
 obtain ⟨y, ey⟩ : ∃ y, wrap64 (x - 1) = y := ⟨_, rfl⟩
 rw [ey] at h1
 obtain ⟨W1, eW1⟩ : ∃ W1, W1 = W.setCell ⟨g, 6, none⟩ (.int .i64 y) := ⟨_, rfl⟩
 rw [← eW1] at h1
 have HST := Aside0.mk (show Turned ok W W1 (TapeC g v0 v1 p0 p1 vu a b_ (afterU n0 0 (l.take 0)) (afterU n1 1 (l.take 0)) us bu y) from ⟨h1.2, Res.mono _ (fun k hk => .inl hk) h1.1⟩)
 clear hC h1 hQ hleg
 go_enter Try.func48, Try.ntmps48
 go_wp2_with fail
 rw [ey, ← eW1]
 clear x0 x1 x2 x3 x4 x5 x6 f0 f1 f2 f3 f4 f5 f6 eW1
 have hu59 := Try.underlying59
 have hu84 := Try.underlying84
 go_loopw [16] (fun s16 wr => ∃ (i : Nat) (m0 m1 : Value), i ≤ l.length ∧ s16 = .int .i64 (i : Int) ∧ Aside0 (Turned ok W wr (TapeC g v0 v1 m0 m1 vu a b_ (afterU n0 0 (l.take i)) (afterU n1 1 (l.take i)) us bu y))) (fun s16 _ => (l.length + 1 - (intOf s16).toNat))
 case atStart => exact ⟨0, p0, p1, Nat.zero_le _, rfl, HST⟩
 case round =>
  obtain ⟨i, m0, m1, hi, rfl, HSR⟩ := hrel
  clear HST
  by_cases hil : i < l.length
  ·have b1 : decide ((i : Int) < (l.length : Int)) = true := decide_eq_true (by omega)
   obtain ⟨ad, eA, hc0, hc1, hc2⟩ := at_T89 (HQ.out wr HSR.out.1) (i : Int) (by omega) (by omega)
   subst eA
   obtain ⟨u, eu⟩ : ∃ u, rd_T89 l (i : Int) = u := ⟨_, rfl⟩
   rw [eu] at hc0 hc1 hc2
   have hdrop := legal_at HLEG.out i hil
   have edrop : l.drop i = u :: l.drop (i + 1) := by
    rw [← eu, List.drop_eq_getElem_cons hil]
    congr 1
    show _ = l.getD (i : Int).toNat _
    simp [hil]
   rw [edrop] at hdrop
   have HU := Aside0.mk (show u.f0 = 0 ∨ u.f0 = 1 from hdrop.2.2.1)
   have HL0 := Aside0.mk hdrop.1
   have HL1 := Aside0.mk hdrop.2.1
   have HUC := Aside0.mk (show 0 ≤ u.f1 → u.f1 ≤ ((if u.f0 = 0 then afterU n0 0 (l.take i) else afterU n1 1 (l.take i)).length : Int) from hdrop.2.2.2.1)
   have HN0 := Aside0.mk (show afterU n0 0 (l.take (i + 1)) = unit1 (afterU n0 0 (l.take i)) 0 u by rw [← eu]; exact afterU_take n0 0 l i _ hil)
   have HN1 := Aside0.mk (show afterU n1 1 (l.take (i + 1)) = unit1 (afterU n1 1 (l.take i)) 1 u by rw [← eu]; exact afterU_take n1 1 l i _ hil)
   obtain ⟨a0, ea0⟩ : ∃ a, afterU n0 0 (l.take i) = a := ⟨_, rfl⟩
   obtain ⟨a1, ea1⟩ : ∃ a, afterU n1 1 (l.take i) = a := ⟨_, rfl⟩
   rw [ea0] at HSR HL0 HUC HN0
   rw [ea1] at HSR HL1 HUC HN1
   have HBG := Aside0.mk (tape_blk HSR.out.2)
   obtain ⟨y0, y1, y2, y3, y4, y5, y6, _⟩ := blk_all7 HBG.out
   clear hdrop edrop eu ea0 ea1
   rw [Int.toNat_natCast] at hc0 hc1 hc2
   go_wp2_with fail
   clear y0 y1 y2 y3 y4 y5 y6 hc0 hc1 hc2
   obtain ⟨w3, e3⟩ : ∃ w3, w3 = (wr.alloc (.cells #[.int .i64 u.f0, .int .i64 u.f1, .int .u8 u.f2] 84)).drew := ⟨_, rfl⟩
   have HB3 := Aside0.mk (show Below wr.heap.size wr w3 by rw [e3]; exact below_drew (below_alloc (Below.refl _ _) _))
   have hbx : w3.heap[wr.heap.size]? = some (.cells #[.int .i64 u.f0, .int .i64 u.f1, .int .u8 u.f2] 84 (0, 0)) := by rw [e3]; exact heap_alloc_new wr _
   have HC3 := Aside0.mk (show (TapeC g v0 v1 m0 m1 vu a b_ a0 a1 us bu y).P (fun k => (ok k ∨ W.heap.size ≤ k) ∧ k < wr.heap.size) w3 from Res.on _ (Res.bound _ HSR.out.2) HB3.out)
   have hg2 : w3.cell? ⟨g, 2, none⟩ = some m0 := by rw [blk_cell (tape_blk HC3.out)]; rfl
   have hg3 : w3.cell? ⟨g, 3, none⟩ = some m1 := by rw [blk_cell (tape_blk HC3.out)]; rfl
   have hb0 : w3.cell? ⟨wr.heap.size, 0, none⟩ = some (.int .i64 u.f0) := by rw [blk_cell hbx]; rfl
   have hb1 : w3.cell? ⟨wr.heap.size, 1, none⟩ = some (.int .i64 u.f1) := by rw [blk_cell hbx]; rfl
   have hb2 : w3.cell? ⟨wr.heap.size, 2, none⟩ = some (.int .u8 u.f2) := by rw [blk_cell hbx]; rfl
   have HBX4 : ∀ {w4 : World}, Keeps w3 w4 (fun k => (ok k ∨ W.heap.size ≤ k) ∧ k < wr.heap.size) → w4.heap[wr.heap.size]? = some (.cells #[.int .i64 u.f0, .int .i64 u.f1, .int .u8 u.f2] 84 (0, 0)) := fun hk => (hk.block wr.heap.size (blk_lt hbx) (fun hh => by have := hh.2; omega)).trans hbx
   clear hbx
   refine start_ (n := 10) (S := fun w' => w'.cell? ⟨g, 2, none⟩ = some m0 ∧ w'.cell? ⟨g, 3, none⟩ = some m1 ∧ w'.cell? ⟨wr.heap.size, 0, none⟩ = some (.int .i64 u.f0) ∧ w'.cell? ⟨wr.heap.size, 1, none⟩ = some (.int .i64 u.f1) ∧ w'.cell? ⟨wr.heap.size, 2, none⟩ = some (.int .u8 u.f2)) (ds := [9]) #[false, false, false, false, false, false, false, false, false, false] (by kernel_rfl) rfl rfl ⟨(by rw [← e3]; exact hg2), (by rw [← e3]; exact hg3), (by rw [← e3]; exact hb0), (by rw [← e3]; exact hb1), (by rw [← e3]; exact hb2)⟩ (fun hHeld => ?_)
   rw [← e3] at hHeld ⊢
   clear e3 hg2 hg3 hb0 hb1 hb2
   refine pure_ (i := 0) (N := some 20) (v := ?_) (a' := ?_) #[true, false, false, false, false, false, false, false, false, false] rfl rfl (by kernel_rfl) (fun _ _ _ h => h) (Or.inl ⟨by rfl, ?_⟩) ?_ ?_
   rotate_left
   ·intro w'
    go_simp
    with_reducible rfl
   rotate_left
   ·simp only [Act.put, List.setIfInBounds_toArray, List.set_cons_zero, List.set_cons_succ, i64_w, i32_w]
    rfl
   refine pure_ (i := 1) (N := some 21) (v := ?_) (a' := ?_) #[true, true, false, false, false, false, false, false, false, false] rfl rfl (by kernel_rfl) (fun _ _ _ h => h) (Or.inl ⟨by rfl, ?_⟩) ?_ ?_
   rotate_left
   ·intro w'
    go_simp
    with_reducible rfl
   rotate_left
   ·simp only [Act.put, List.setIfInBounds_toArray, List.set_cons_zero, List.set_cons_succ, i64_w, i32_w]
    rfl
   refine pure_ (i := 2) (N := some 22) (v := ?_) (a' := ?_) #[true, true, true, false, false, false, false, false, false, false] rfl rfl (by kernel_rfl) (fun _ _ _ h => h) (Or.inl ⟨by rfl, ?_⟩) ?_ ?_
   rotate_left
   ·intro w'
    go_simp
    with_reducible rfl
   rotate_left
   ·simp only [Act.put, List.setIfInBounds_toArray, List.set_cons_zero, List.set_cons_succ, i64_w, i32_w]
    rfl
   refine pure_ (i := 3) (N := some 23) (v := ?_) (a' := ?_) #[true, true, true, true, false, false, false, false, false, false] rfl rfl (by kernel_rfl) (fun _ _ _ h => h) (Or.inl ⟨by rfl, ?_⟩) ?_ ?_
   rotate_left
   ·intro w'
    go_simp
    with_reducible rfl
   rotate_left
   ·simp only [Act.put, List.setIfInBounds_toArray, List.set_cons_zero, List.set_cons_succ, i64_w, i32_w]
    rfl
   refine take_ (i := 4) (N := some 24) (v := ?_) (a' := ?_) #[true, true, true, true, true, false, false, false, false, false] rfl rfl (by kernel_rfl) (fun _ _ _ h => h) (Or.inl ⟨by rfl, ?_⟩) hHeld ?_ ?_
   rotate_left
   ·rintro w' ⟨s0, s1, s2, s3, s4⟩
    go_simp
    with_reducible rfl
   rotate_left
   ·simp only [Act.put, List.setIfInBounds_toArray, List.set_cons_zero, List.set_cons_succ, i64_w, i32_w]
    rfl
   refine take_ (i := 5) (N := some 25) (v := ?_) (a' := ?_) #[true, true, true, true, true, true, false, false, false, false] rfl rfl (by kernel_rfl) (fun _ _ _ h => h) (Or.inl ⟨by rfl, ?_⟩) hHeld ?_ ?_
   rotate_left
   ·rintro w' ⟨s0, s1, s2, s3, s4⟩
    go_simp
    with_reducible rfl
   rotate_left
   ·simp only [Act.put, List.setIfInBounds_toArray, List.set_cons_zero, List.set_cons_succ, i64_w, i32_w]
    rfl
   refine one_ (i := 6) (N := some 26) #[true, true, true, true, true, true, true, false, false, false] rfl rfl (by kernel_rfl) (by decide) (fun K hK => ?_)
   refine goes_ Try.func59 (by kernel_rfl) rfl #[.agg #[m0, m1], .agg #[.int .i64 u.f0, .int .i64 u.f1, .int .u8 u.f2]] (by rfl) rfl rfl (by simp only [List.map_toArray, List.map_cons, List.map_nil]; rfl) ?_
   with_reducible refine (done.obj HC3.out 2 3 rfl rfl (by decide) u HU.out HL0.out HL1.out HUC.out).mono ?_
   rintro e w4 ⟨B0, k0, d0, B1, k1, d1, rfl, ht⟩
   have HT4 := Aside0.mk ht
   clear ht
   have hfz2 : w4.frozen? ⟨g, 2, none⟩ = false := blk_frozen (tape_blk' HT4.out.2) 2
   have hfz3 : w4.frozen? ⟨g, 3, none⟩ = false := blk_frozen (tape_blk' HT4.out.2) 3
   refine ⟨_, rfl, ?_⟩
   refine hK.out _ _ ⟨(by rw [blk_cell (tape_blk' HT4.out.2)]; rfl), (by rw [blk_cell (tape_blk' HT4.out.2)]; rfl), (by rw [blk_cell (HBX4 (HT4.out.1))]; rfl), (by rw [blk_cell (HBX4 (HT4.out.1))]; rfl), (by rw [blk_cell (HBX4 (HT4.out.1))]; rfl)⟩ (fun hHeld => ?_)
   clear hK K
   refine norm_ (a' := ?_) ?_ ?_
   rotate_left
   ·show Act.put _ (some 26) _ = _
    simp only [Act.put, List.setIfInBounds_toArray, List.set_cons_zero, List.set_cons_succ, i64_w, i32_w]
    rfl
   refine pure_ (i := 7) (N := some 27) (v := ?_) (a' := ?_) #[true, true, true, true, true, true, true, true, false, false] rfl rfl (by kernel_rfl) (fun _ _ _ h => h) (Or.inl ⟨by rfl, ?_⟩) ?_ ?_
   rotate_left
   ·intro w'
    go_simp
    with_reducible rfl
   rotate_left
   ·simp only [Act.put, List.setIfInBounds_toArray, List.set_cons_zero, List.set_cons_succ, i64_w, i32_w]
    rfl
   refine pure_ (i := 8) (N := some 28) (v := ?_) (a' := ?_) #[true, true, true, true, true, true, true, true, true, false] rfl rfl (by kernel_rfl) (fun _ _ _ h => h) (Or.inl ⟨by rfl, ?_⟩) ?_ ?_
   rotate_left
   ·intro w'
    go_simp
    with_reducible rfl
   rotate_left
   ·simp only [Act.put, List.setIfInBounds_toArray, List.set_cons_zero, List.set_cons_succ, i64_w, i32_w]
    rfl
   refine last_ (i := 9) (N := none) #[true, true, true, true, true, true, true, true, true, true] rfl rfl (by kernel_rfl) (by decide) (fun K hK => ?_)
   refine skip_ (w1 := ?_) (by rfl) rfl ?_ ?_
   rotate_left
   ·go_simp
    rfl
   refine hK.out _ _ ?_
   clear hK K
   refine done_ (by kernel_rfl) ?_
   obtain ⟨w5, e5⟩ : ∃ w5, w5 = (w4.setCell ⟨g, 2, none⟩ (.slice B0 k0 d0)).setCell ⟨g, 3, none⟩ (.slice B1 k1 d1) := ⟨_, rfl⟩
   rw [← e5]
   have HS5 := Aside0.mk (show Turned ok W w5 (TapeC g v0 v1 (.slice B0 k0 d0) (.slice B1 k1 d1) vu a b_ (afterU n0 0 (l.take (i + 1))) (afterU n1 1 (l.take (i + 1))) us bu y) from by
    rw [HN0.out, HN1.out, e5]
    have h2 := obj_set HT4.out.2 2 (.slice B0 k0 d0)
    have h3 := obj_set h2.1 3 (.slice B1 k1 d1)
    have hm : ∀ k, ((ok k ∨ W.heap.size ≤ k) ∧ k < wr.heap.size) ∨ w3.heap.size ≤ k → ok k ∨ W.heap.size ≤ k := fun k hk => hk.elim (fun h => h.1) (fun h => .inr (by have := HSR.out.1.size; have := HB3.out.size; omega))
    refine (HSR.out.on HB3.out).then_ (((HT4.out.1.mono (fun k _ hk => hk.1)).then_ h2.2 (fun k hk => .inl (hm k hk))).then_ h3.2 (fun k hk => .inl (hm k hk))) (Res.mono _ (fun k hk => .inl (hm k hk)) h3.1))
   clear e5 HT4 hfz2 hfz3 hHeld HBX4 HC3 HB3 HSR HBG HU HL0 HL1 HUC HN0 HN1
   go_wp2_with fail
   go_roundw
   case rel => exact ⟨i + 1, _, _, by omega, by simp, HS5⟩
   case measure => simp [intOf]; omega
  ·obtain rfl : i = l.length := by omega
   rw [List.take_length] at HSR
   obtain ⟨oku, hu, _, hback⟩ := obj_turn HSR.out.2 4 rfl
   have hu' : (k89).R 84 wr 0 oku vu us := hu
   obtain ⟨Au, cu, eu⟩ := Kd.R_slice hu'
   subst eu
   obtain ⟨y0, y1, y2, y3, y4, y5, y6, z0, z1, z2, z3, z4, z5, z6⟩ := blk_all7 (tape_blk HSR.out.2)
   have b1 : decide ((l.length : Int) < (l.length : Int)) = false := decide_eq_false (by omega)
   have HUR := Aside0.mk hu'
   have HBK := Aside0.mk @hback
   have HKC := Aside0.mk (HQ.out wr HSR.out.1)
   have hbg := tape_blk HSR.out.2
   have HGN := Aside0.mk (show ∀ k, (Value.slice Au us.length cu).ownBlock = some k → oku k from hu'.1)
   have HGK := Aside0.mk hbg
   clear hu hu' hback hi hil hbg
   go_wp2_with (at_builtin; refine Kd.R_append_rows k89 (Rr := (k89).K wr) (w0 := wr) 0 rfl (.tmp 34) (.tmp 35) 60 84 (.agg #[.int .i64 0, .int .i64 0, .int .u8 0]) 24 rfl Try.underlying60 hinfoU rfl (by decide) (by decide) (.slice Au us.length cu) us l A l.length c (fun k => oku k ∨ wr.heap.size ≤ k) (fun _ => False) rfl rfl ?aO ?aR (fun _ _ h => h) (fun _ h => h.elim) (fun _ h => .inr h) ?aB ?aS ?aL ?_)
   case aO => exact Kd.R_mono HUR.out (fun k hk => .inl hk)
   case aR => exact HKC.out
   case aB => exact Below.refl _ _
   case aS => exact Nat.zero_le _
   case aL => omega
   intro v1_ w1 hR _ hg _
   obtain ⟨A9, c9, e9⟩ := Kd.R_slice hR
   subst e9
   have HT1 := Aside0.mk (HBK.out (show Turned oku wr w1 (UnR (.slice A9 (us ++ l).length c9) (us ++ l)) from ⟨(Keeps.of_grown hg).mono (fun k _ hk => HGN.out k hk.symm), hR⟩))
   have hbg := tape_blk' HT1.out.2
   obtain ⟨q0, q1, q2, q3, q4, q5, q6, r0, r1, r2, r3, r4, r5, r6⟩ := blk_all7 hbg
   clear hR hg hbg
   go_wp2_with fail
   go_ret
   refine ⟨rfl, ?_⟩
   have h2 := obj_set HT1.out.2 4 (.slice A9 (us ++ l).length c9)
   rw [List.length_append] at h2
   have hm : ∀ k, (ok k ∨ W.heap.size ≤ k) ∨ wr.heap.size ≤ k → ok k ∨ W.heap.size ≤ k := fun k hk => hk.elim id (fun h => .inr (Nat.le_trans HSR.out.1.size h))
   exact HSR.out.then_ (HT1.out.1.then_ h2.2 (fun k hk => .inl (hm k hk))) (HEND.out _ _ y ey.symm _ _ _ _ _ (Res.mono _ (fun k hk => .inl (hm k hk)) h2.1))
end Go.Proofs.Ytmfmoddaejoekaa.P
