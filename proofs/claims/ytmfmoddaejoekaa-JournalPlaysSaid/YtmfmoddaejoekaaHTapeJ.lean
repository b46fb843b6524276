/- Contracts, typed by hand and by a program: the program's tape: Crash. -/
import Derived.Test.YtmfmoddaejoekaaHTapeI
set_option linter.unusedVariables false
set_option linter.unusedSimpArgs false
namespace Go.Proofs.Ytmfmoddaejoekaa.P
open Go.RowKit Go.Proofs.YtmfmoddaejoekaaW.PrintWords Go.Proofs.YtmfmoddaejoekaaW.PrintLast Go.Proofs.YtmfmoddaejoekaaW.PrintMore
theorem hcutU (A : Option Addr) (n c m : Nat) (hm : m ≤ n) (hc : n ≤ c) : ∀ W : World, (Instr.slice 60 (.slice A n c) none (some (.int .i64 (m : Int))) none).run Try.prog W = .ok (.slice A m c) W := by
 obtain ⟨i0, hi, _, _, _⟩ := info_parts hinfoU
 have := cut_to (P := Try.prog) 60 84 .i64 Try.underlying60 hi A n c (m : Int) (by omega) (by omega) hc
 simpa using this
theorem side_lens {b t : Nat} {M0 M1 : Option Addr} {p0 e0 p1 e1 : Nat} {l0 l1 : List Int} {cs : List Value} {ok : Nat → Prop} {W : World} (h : (Res.obj b t cs [SideR (.slice M0 p0 e0) l0, SideR (.slice M1 p1 e1) l1]).P ok W) : p0 = l0.length ∧ p1 = l1.length := by
 obtain ⟨_, h0, _⟩ := obj_get h 0 rfl
 obtain ⟨_, h1, _⟩ := obj_get h 1 rfl
 exact ⟨(side_reads h0).1, (side_reads h1).1⟩
set_option maxHeartbeats 8000000 in
set_option maxRecDepth 100000 in
theorem tape_Crash.neg (g : Nat) (T : TM) (N : Nat) (hT : T.Ok N) (hN : N ≤ 1000000000) (n : Int) (hn : n < 0) (hn2 : -9223372036854775808 ≤ n) (W : World) (ok : Nat → Prop) (hP : (PTape g T).P ok W) :
  Calls Try.prog 27 #[.pointer (some ⟨g, 0, none⟩), .int .i64 n] W fun e W' => e = .returned (.tuple #[]) ∧ Turned ok W W' (PTape g (T.crash n)) := by
 obtain ⟨v0, v1, m0, m1, vu, x, hx, hC⟩ := ptape_open hP
 obtain ⟨ok0, hs0, _⟩ := obj_get hC 0 rfl
 obtain ⟨ok1, hs1, _⟩ := obj_get hC 1 rfl
 obtain ⟨oku, hu, _⟩ := obj_get hC 4 rfl
 obtain ⟨A0, c0, rfl⟩ := side_slice hs0
 obtain ⟨A1, c1, rfl⟩ := side_slice hs1
 obtain ⟨Au, cu, rfl⟩ := Kd.R_slice (show (k89).R 84 W 0 oku vu T.us from hu)
 have HF0 := Aside0.mk (Kd.F_now (side_reads hs0).2.2)
 have HF1 := Aside0.mk (Kd.F_now (side_reads hs1).2.2)
 have HU := Aside0.mk (Kd.R_reads' (show (k89).R 84 W 0 oku _ T.us from hu)).2
 have HLG := Aside0.mk hT.2.2
 have hl0 := (legal_len hT.2.2).1
 have hl1 := (legal_len hT.2.2).2
 have hul : T.us.length ≤ 1000000000 := Nat.le_trans hT.2.1 hN
 have HCB := Aside0.mk (Res.bound _ hC)
 obtain ⟨x0, x1, x2, x3, x4, x5, x6, _⟩ := blk_all7 (tape_blk hC)
 have b0 : decide (n < 0) = true := decide_eq_true hn
 have w0 : wrap64 (n + 1) = n + 1 := by unfold wrap64; omega
 have w1 : wrap64 (-(n + 1)) = -(n + 1) := by unfold wrap64; omega
 have w2 : wrap64 ((T.us.length : Int) + 1) = (T.us.length : Int) + 1 := by unfold wrap64; omega
 have z2 : ((T.us.length : Int) + 1 == 0) = false := by simp; omega
 obtain ⟨q, eq_⟩ : ∃ q, T.stays n = q := ⟨_, rfl⟩
 have hq : q ≤ T.us.length := by rw [← eq_]; unfold TM.stays; have := Nat.mod_lt ((if n < 0 then -(n + 1) else n).toNat) (show 0 < T.us.length + 1 by omega); omega
 have w3 : wrap64 (Int.tmod (-(n + 1)) ((T.us.length : Int) + 1)) = (q : Int) := by
  have h1 : Int.tmod (-(n + 1)) ((T.us.length : Int) + 1) = (q : Int) := by
   rw [← eq_]
   unfold TM.stays
   rw [if_pos hn]
   rw [Int.tmod_eq_emod_of_nonneg (by omega)]
   rw [Int.natCast_emod, Int.toNat_of_nonneg (by omega)]
   rfl
  rw [h1]
  unfold wrap64
  omega
 have w3' : Int.tmod (-(n + 1)) ((T.us.length : Int) + 1) = (q : Int) := by
  rw [← eq_]
  unfold TM.stays
  rw [if_pos hn]
  rw [Int.tmod_eq_emod_of_nonneg (by omega)]
  rw [Int.natCast_emod, Int.toNat_of_nonneg (by omega)]
  rfl
 have HE := Aside0.mk (show T.crash n = ⟨afterU T.s0 0 (T.us.take q), afterU T.s1 1 (T.us.take q), [], false, 0⟩ by unfold TM.crash; rw [eq_])
 have hcut := hcutU Au T.us.length cu q hq HU.out.1
 clear hP hC hs0 hs1 hu hT hx hn hn2 eq_
 go_enter Try.func27, Try.ntmps27
 go_wp2_with fail
 refine (copied.calls A0 c0 T.s0 A1 c1 T.s1 W HF0.out HF1.out (by omega) (by omega)).mono ?_
 rintro e w2_ ⟨B0, d0, B1, d1, m, rfl, hm, hR0, hR1, hB⟩
 have HR0 := Aside0.mk hR0
 have HR1 := Aside0.mk hR1
 have HB := Aside0.mk hB
 have HM := Aside0.mk hm
 clear x0 x1 x2 x3 x4 x5 x6 hR0 hR1 hB hm
 have hu59 := Try.underlying59
 have hu84 := Try.underlying84
 go_wp2_with fail
 obtain ⟨b, eb⟩ : ∃ b, b = w2_.heap.size := ⟨_, rfl⟩
 have HBE := Aside0.mk eb
 obtain ⟨w3_, e3⟩ : ∃ w3_, w3_ = w2_.alloc (.cells #[.slice B0 T.s0.length d0, .slice B1 T.s1.length d1] 59) := ⟨_, rfl⟩
 rw [← e3, ← eb]
 have HBB := Aside0.mk (show Below W.heap.size W w3_ by rw [e3]; exact below_alloc HB.out _)
 have HOB := Aside0.mk (show (Res.obj b 59 [.slice B0 T.s0.length d0, .slice B1 T.s1.length d1] [SideR (.slice B0 T.s0.length d0) (afterU T.s0 0 (T.us.take 0)), SideR (.slice B1 T.s1.length d1) (afterU T.s1 1 (T.us.take 0))]).P (fun k => W.heap.size ≤ k) w3_ from by
  have hbl := HB.out.size
  refine ⟨by omega, by rw [e3, eb]; exact heap_alloc_new _ _, fun k => if k < m then 0 else 1, fun i R hi => ?_⟩
  match i, hi with
  | 0, hi =>
   cases hi
   refine Res.mono _ (fun k hk => ⟨⟨hk.1.1, ?_⟩, ?_, if_pos hk.1.2⟩) (Res.on _ (Res.bound _ HR0.out) (show Below w2_.heap.size w2_ w3_ by rw [e3]; exact below_alloc (Below.refl _ _) _))
   ·rw [e3, heap_size_alloc2]; have := hk.2; omega
   ·have := hk.2; omega
  | 1, hi =>
   cases hi
   refine Res.mono _ (fun k hk => ⟨⟨Nat.le_trans HM.out hk.1, ?_⟩, ?_, if_neg (by have := hk.1; omega)⟩) (Res.on _ (Res.bound _ HR1.out) (show Below w2_.heap.size w2_ w3_ by rw [e3]; exact below_alloc (Below.refl _ _) _))
   ·rw [e3, heap_size_alloc2]; have := hk.2; omega
   ·have := hk.2; omega)
 have HTG3 := Aside0.mk ((HBB.out.block _ (blk_lt (tape_blk HCB.out))).trans (tape_blk HCB.out))
 have hx4 : w3_.cell? ⟨g, 4, none⟩ = some (.slice Au T.us.length cu) := by rw [blk_cell HTG3.out]; rfl
 clear e3 eb
 go_quiet (fail)
 go_wp2_with fail
 clear hx4
 go_loopw [31] (fun s31 wr => ∃ (j : Nat) (M0 : Option Addr) (p0 e0 : Nat) (M1 : Option Addr) (p1 e1 : Nat), j ≤ q ∧ s31 = .int .i64 (j : Int) ∧ Aside0 ((Res.obj b 59 [.slice M0 p0 e0, .slice M1 p1 e1] [SideR (.slice M0 p0 e0) (afterU T.s0 0 (T.us.take j)), SideR (.slice M1 p1 e1) (afterU T.s1 1 (T.us.take j))]).P (fun k => W.heap.size ≤ k) wr) ∧ Aside0 (Below W.heap.size W wr)) (fun s31 _ => (q + 1 - (intOf s31).toNat))
 case atStart => exact ⟨0, B0, T.s0.length, d0, B1, T.s1.length, d1, Nat.zero_le _, rfl, ⟨Res.on _ HOB.out (pw_below_drewN (Below.refl _ _) _)⟩, ⟨pw_below_drewN HBB.out _⟩⟩
 case round =>
  obtain ⟨j, M0, p0, e0, M1, p1, e1, hj, rfl, HSR, HBR⟩ := hrel
  clear HOB HBB
  by_cases hjq : j < q
  ·have b1 : decide ((j : Int) < (q : Int)) = true := decide_eq_true (by omega)
   have hil : j < T.us.length := by omega
   obtain ⟨ad, eA, hc0, hc1, hc2⟩ := at_T89 (Kd.C_below HU.out.2 HBR.out) (j : Int) (by omega) (by omega)
   subst eA
   obtain ⟨u, eu⟩ : ∃ u, rd_T89 T.us (j : Int) = u := ⟨_, rfl⟩
   rw [eu] at hc0 hc1 hc2
   have hdrop := legal_at HLG.out j hil
   have edrop : T.us.drop j = u :: T.us.drop (j + 1) := by
    rw [← eu, List.drop_eq_getElem_cons hil]
    congr 1
    show _ = T.us.getD (j : Int).toNat _
    simp [hil]
   rw [edrop] at hdrop
   have HU0 := Aside0.mk (show u.f0 = 0 ∨ u.f0 = 1 from hdrop.2.2.1)
   have HL0 := Aside0.mk hdrop.1
   have HL1 := Aside0.mk hdrop.2.1
   have HUC := Aside0.mk (show 0 ≤ u.f1 → u.f1 ≤ ((if u.f0 = 0 then afterU T.s0 0 (T.us.take j) else afterU T.s1 1 (T.us.take j)).length : Int) from hdrop.2.2.2.1)
   have HN0 := Aside0.mk (show afterU T.s0 0 (T.us.take (j + 1)) = unit1 (afterU T.s0 0 (T.us.take j)) 0 u by rw [← eu]; exact afterU_take T.s0 0 T.us j _ hil)
   have HN1 := Aside0.mk (show afterU T.s1 1 (T.us.take (j + 1)) = unit1 (afterU T.s1 1 (T.us.take j)) 1 u by rw [← eu]; exact afterU_take T.s1 1 T.us j _ hil)
   obtain ⟨a0, ea0⟩ : ∃ a, afterU T.s0 0 (T.us.take j) = a := ⟨_, rfl⟩
   obtain ⟨a1, ea1⟩ : ∃ a, afterU T.s1 1 (T.us.take j) = a := ⟨_, rfl⟩
   rw [ea0] at HSR HL0 HUC HN0
   rw [ea1] at HSR HL1 HUC HN1
   obtain ⟨y0, y1, _⟩ := blk_all2 (obj_blk HSR.out)
   clear hdrop edrop eu ea0 ea1
   rw [Int.toNat_natCast] at hc0 hc1 hc2
   have y0' := pw_cell_below (below_alloc (Below.refl wr.heap.size wr) (.cells #[.int .i64 u.f0, .int .i64 u.f1, .int .u8 u.f2] 84)) y0
   have y1' := pw_cell_below (below_alloc (Below.refl wr.heap.size wr) (.cells #[.int .i64 u.f0, .int .i64 u.f1, .int .u8 u.f2] 84)) y1
   clear y0 y1
   go_wp2_with fail
   have HBA := Aside0.mk (below_alloc (Below.refl wr.heap.size wr) (.cells #[.int .i64 u.f0, .int .i64 u.f1, .int .u8 u.f2] 84))
   refine (done.obj (Res.on _ HSR.out HBA.out) 0 1 rfl rfl (by decide) u HU0.out HL0.out HL1.out HUC.out).mono ?_
   rintro e w4 ⟨C0, k0, f0, C1, k1, f1, rfl, ht⟩
   have HT := Aside0.mk ht
   obtain ⟨r0, r1, t0, t1⟩ := blk_all2 (obj_blk ht.2)
   clear ht y0' y1' hc0 hc1 hc2
   go_wp2_with fail
   go_roundw
   case rel =>
    have h2 := obj_set HT.out.2 0 (.slice C0 k0 f0)
    have h3 := obj_set h2.1 1 (.slice C1 k1 f1)
    have hsz : W.heap.size ≤ (wr.alloc (.cells #[.int .i64 u.f0, .int .i64 u.f1, .int .u8 u.f2] 84)).heap.size := Nat.le_trans HBR.out.size HBA.out.size
    refine ⟨j + 1, C0, k0, f0, C1, k1, f1, by omega, by simp, ⟨?_⟩, ⟨?_⟩⟩
    ·rw [HN0.out, HN1.out]
     exact Res.mono _ (fun k hk => hk.elim id (fun h => Nat.le_trans hsz h)) h3.1
    ·have k1 := ((HT.out.1.then_ h2.2 (fun k hk => hk)).then_ h3.2 (fun k hk => hk))
     exact ((Keeps.of_below (below_step HBR.out HBA.out) (fun _ => False)).then_ k1 (fun k hk => .inr hk)).belowF
   case measure => simp [intOf]; omega
  ·obtain rfl : j = q := by omega
   have b1 : decide ((j : Int) < (j : Int)) = false := decide_eq_false (by omega)
   obtain ⟨ep0, ep1⟩ := side_lens HSR.out
   subst ep0 ep1
   have HKL := Aside0.mk (show (afterU T.s0 0 (T.us.take j)).length ≤ 1000000 ∧ (afterU T.s1 1 (T.us.take j)).length ≤ 1000000 from by
    have h1 : legal T.s0 T.s1 (T.us.take j ++ T.us.drop j) := by rw [List.take_append_drop]; exact HLG.out
    have h2 := legal_len (legal_append.1 h1).2
    omega)
   go_wp2_with fail
   obtain ⟨w8, e8⟩ : ∃ w8, w8 = wr.drew := ⟨_, rfl⟩
   have HBW := Aside0.mk (show Below wr.heap.size wr w8 by rw [e8]; exact below_drew (Below.refl _ _))
   have HS8 := Aside0.mk (Res.on _ HSR.out HBW.out)
   have HB9 := Aside0.mk (below_step HBR.out HBW.out)
   obtain ⟨hx0, hx1, _⟩ := blk_all2 (obj_blk HS8.out)
   obtain ⟨oka, hka, _⟩ := obj_get HS8.out 0 rfl
   obtain ⟨okb, hkb, _⟩ := obj_get HS8.out 1 rfl
   have HK0 := Aside0.mk (Kd.F_now (side_reads hka).2.2)
   have HK1 := Aside0.mk (Kd.F_now (side_reads hkb).2.2)
   have HTG := Aside0.mk ((HB9.out.block _ (blk_lt (tape_blk HCB.out))).trans (tape_blk HCB.out))
   clear hka hkb
   refine start_ (n := 7) (S := fun w' => w'.cell? ⟨b, 0, none⟩ = some (.slice M0 (afterU T.s0 0 (T.us.take j)).length e0) ∧ w'.cell? ⟨b, 1, none⟩ = some (.slice M1 (afterU T.s1 1 (T.us.take j)).length e1)) (ds := [6]) #[false, false, false, false, false, false, false] (by kernel_rfl) rfl rfl ⟨(by rw [← e8]; exact hx0), (by rw [← e8]; exact hx1)⟩ (fun hHeld => ?_)
   rw [← e8] at hHeld ⊢
   clear e8
   refine pure_ (i := 0) (N := some 39) (v := ?_) (a' := ?_) #[true, false, false, false, false, false, false] rfl rfl (by kernel_rfl) (fun _ _ _ h => h) (Or.inl ⟨by rfl, ?_⟩) ?_ ?_
   rotate_left
   ·intro w'
    go_simp
    with_reducible rfl
   rotate_left
   ·simp only [Act.put, List.setIfInBounds_toArray, List.set_cons_zero, List.set_cons_succ, i64_w, i32_w]
    rfl
   refine take_ (i := 1) (N := some 40) (v := ?_) (a' := ?_) #[true, true, false, false, false, false, false] rfl rfl (by kernel_rfl) (fun _ _ _ h => h) (Or.inl ⟨by rfl, ?_⟩) hHeld ?_ ?_
   rotate_left
   ·rintro w' ⟨s0, s1⟩
    go_simp
    with_reducible rfl
   rotate_left
   ·simp only [Act.put, List.setIfInBounds_toArray, List.set_cons_zero, List.set_cons_succ, i64_w, i32_w]
    rfl
   refine take_ (i := 2) (N := some 41) (v := ?_) (a' := ?_) #[true, true, true, false, false, false, false] rfl rfl (by kernel_rfl) (fun _ _ _ h => h) (Or.inl ⟨by rfl, ?_⟩) hHeld ?_ ?_
   rotate_left
   ·rintro w' ⟨s0, s1⟩
    go_simp
    with_reducible rfl
   rotate_left
   ·simp only [Act.put, List.setIfInBounds_toArray, List.set_cons_zero, List.set_cons_succ, i64_w, i32_w]
    rfl
   refine one_ (i := 3) (N := some 42) #[true, true, true, true, false, false, false] rfl rfl (by kernel_rfl) (by decide) (fun K hK => ?_)
   refine goes_ Try.func49 (by kernel_rfl) rfl #[.agg #[.slice M0 (afterU T.s0 0 (T.us.take j)).length e0, .slice M1 (afterU T.s1 1 (T.us.take j)).length e1]] (by rfl) rfl rfl (by simp only [List.map_toArray, List.map_cons, List.map_nil]; rfl) ?_
   with_reducible refine (copied.calls M0 e0 (afterU T.s0 0 (T.us.take j)) M1 e1 (afterU T.s1 1 (T.us.take j)) w8 HK0.out HK1.out HKL.out.1 HKL.out.2).mono ?_
   rintro e w9 ⟨B0, d0, B1, d1, m, rfl, hm, hR0, hR1, hB⟩
   have HR0 := Aside0.mk hR0
   have HR1 := Aside0.mk hR1
   have HB := Aside0.mk hB
   have HM := Aside0.mk hm
   clear hR0 hR1 hB hm
   have hbg := (HB.out.block _ (blk_lt HTG.out)).trans HTG.out
   have hz0 := blk_frozen hbg 0
   have hz1 := blk_frozen hbg 1
   have hz2 := blk_frozen hbg 2
   have hz3 := blk_frozen hbg 3
   have hz4 := blk_frozen hbg 4
   have hz5 := blk_frozen hbg 5
   have hz6 := blk_frozen hbg 6
   have hy0 : w9.cell? ⟨g, 0, none⟩ = some _ := (blk_cell hbg 0).trans rfl
   have hy1 : w9.cell? ⟨g, 1, none⟩ = some _ := (blk_cell hbg 1).trans rfl
   have hy2 : w9.cell? ⟨g, 2, none⟩ = some _ := (blk_cell hbg 2).trans rfl
   have hy3 : w9.cell? ⟨g, 3, none⟩ = some _ := (blk_cell hbg 3).trans rfl
   have hy4 : w9.cell? ⟨g, 4, none⟩ = some _ := (blk_cell hbg 4).trans rfl
   have hy5 : w9.cell? ⟨g, 5, none⟩ = some _ := (blk_cell hbg 5).trans rfl
   have hy6 : w9.cell? ⟨g, 6, none⟩ = some _ := (blk_cell hbg 6).trans rfl
   refine ⟨_, rfl, ?_⟩
   refine hK.out _ _ ⟨(pw_cell_below HB.out hx0), (pw_cell_below HB.out hx1)⟩ (fun hHeld => ?_)
   clear hK K
   refine norm_ (a' := ?_) ?_ ?_
   rotate_left
   ·show Act.put _ (some 42) _ = _
    simp only [Act.put, List.setIfInBounds_toArray, List.set_cons_zero, List.set_cons_succ, i64_w, i32_w]
    rfl
   refine pure_ (i := 4) (N := some 43) (v := ?_) (a' := ?_) #[true, true, true, true, true, false, false] rfl rfl (by kernel_rfl) (fun _ _ _ h => h) (Or.inl ⟨by rfl, ?_⟩) ?_ ?_
   rotate_left
   ·intro w'
    go_simp
    with_reducible rfl
   rotate_left
   ·simp only [Act.put, List.setIfInBounds_toArray, List.set_cons_zero, List.set_cons_succ, i64_w, i32_w]
    rfl
   refine pure_ (i := 5) (N := some 44) (v := ?_) (a' := ?_) #[true, true, true, true, true, true, false] rfl rfl (by kernel_rfl) (fun _ _ _ h => h) (Or.inl ⟨by rfl, ?_⟩) ?_ ?_
   rotate_left
   ·intro w'
    go_simp
    with_reducible rfl
   rotate_left
   ·simp only [Act.put, List.setIfInBounds_toArray, List.set_cons_zero, List.set_cons_succ, i64_w, i32_w]
    rfl
   refine last_ (i := 6) (N := none) #[true, true, true, true, true, true, true] rfl rfl (by kernel_rfl) (by decide) (fun K hK => ?_)
   refine skip_ (w1 := ?_) (by rfl) rfl ?_ ?_
   rotate_left
   ·go_simp
    rfl
   refine hK.out _ _ ?_
   clear hK K
   refine done_ (by kernel_rfl) ?_
   clear hx0 hx1 hHeld hy0 hy1 hy2 hy3 hy4 hy5 hy6 hz0 hz1 hz2 hz3 hz4 hz5 hz6
   go_end0
   refine ⟨rfl, ?_⟩
   rw [HE.out]
   obtain ⟨_, _, own, ho⟩ := HS8.out
   have hb9 := below_step HB9.out HB.out
   have hm8 := HM.out
   have HO := obj_more (Rs' := [SideR (.slice M0 (afterU T.s0 0 (T.us.take j)).length e0) (afterU T.s0 0 (T.us.take j)), SideR (.slice M1 (afterU T.s1 1 (T.us.take j)).length e1) (afterU T.s1 1 (T.us.take j)), SideR (.slice B0 (afterU T.s0 0 (T.us.take j)).length d0) (afterU T.s0 0 (T.us.take j)), SideR (.slice B1 (afterU T.s1 1 (T.us.take j)).length d1) (afterU T.s1 1 (T.us.take j)), UnR (.slice none 0 0) []]) HCB.out hb9 (fun k => if k < w8.heap.size then own k else if k < m then 2 else 3) (fun i R hi => by
    match i, hi with
    | 0, hi => cases hi; exact .inr (Res.mono _ (fun k hk => ⟨hk.1.1, by show (if k < w8.heap.size then own k else if k < m then 2 else 3) = 0; rw [if_pos hk.1.2]; exact hk.2.2⟩) (Res.on _ (ho 0 _ rfl) HB.out))
    | 1, hi => cases hi; exact .inr (Res.mono _ (fun k hk => ⟨hk.1.1, by show (if k < w8.heap.size then own k else if k < m then 2 else 3) = 1; rw [if_pos hk.1.2]; exact hk.2.2⟩) (Res.on _ (ho 1 _ rfl) HB.out))
    | 2, hi => cases hi; exact .inr (Res.mono _ (fun k hk => ⟨Nat.le_trans HB9.out.size hk.1, by show (if k < w8.heap.size then own k else if k < m then 2 else 3) = 2; rw [if_neg (by omega), if_pos hk.2]⟩) HR0.out)
    | 3, hi => cases hi; exact .inr (Res.mono _ (fun k hk => ⟨Nat.le_trans HB9.out.size (Nat.le_trans hm8 hk), by show (if k < w8.heap.size then own k else if k < m then 2 else 3) = 3; rw [if_neg (by omega), if_neg (by omega)]⟩) HR1.out)
    | 4, hi => cases hi; exact .inr (Kd.R_nil _ _ _ _ _))
   have h0 := obj_set HO.2 0 (.slice M0 (afterU T.s0 0 (T.us.take j)).length e0)
   have h1 := obj_set h0.1 1 (.slice M1 (afterU T.s1 1 (T.us.take j)).length e1)
   have h2 := obj_set h1.1 2 (.slice B0 (afterU T.s0 0 (T.us.take j)).length d0)
   have h3 := obj_set h2.1 3 (.slice B1 (afterU T.s1 1 (T.us.take j)).length d1)
   have h4 := obj_set h3.1 4 (.slice none 0 0)
   have h5 := obj_set h4.1 5 (.bool false)
   have h6 := obj_set h5.1 6 (.int .i64 0)
   have hm2 : ∀ k, ((ok k ∧ k < W.heap.size) ∨ W.heap.size ≤ k) → ok k ∨ W.heap.size ≤ k := fun k hk => hk.imp (·.1) id
   exact ⟨(((((((HO.1.then_ h0.2 (fun k hk => hk)).then_ h1.2 (fun k hk => hk)).then_ h2.2 (fun k hk => hk)).then_ h3.2 (fun k hk => hk)).then_ h4.2 (fun k hk => hk)).then_ h5.2 (fun k hk => hk)).then_ h6.2 (fun k hk => hk)).mono (fun k _ hk => hk.1), Res.mono _ hm2 (ptape_mk (T := ⟨afterU T.s0 0 (T.us.take j), afterU T.s1 1 (T.us.take j), [], false, 0⟩) (x := 0) (fun hb => rfl) h6.1)⟩
set_option maxHeartbeats 8000000 in
set_option maxRecDepth 100000 in
theorem tape_Crash.pos (g : Nat) (T : TM) (N : Nat) (hT : T.Ok N) (hN : N ≤ 1000000000) (n : Int) (hn : 0 ≤ n) (hn2 : n ≤ 9223372036854775807) (W : World) (ok : Nat → Prop) (hP : (PTape g T).P ok W) :
  Calls Try.prog 27 #[.pointer (some ⟨g, 0, none⟩), .int .i64 n] W fun e W' => e = .returned (.tuple #[]) ∧ Turned ok W W' (PTape g (T.crash n)) := by
 obtain ⟨v0, v1, m0, m1, vu, x, hx, hC⟩ := ptape_open hP
 obtain ⟨ok0, hs0, _⟩ := obj_get hC 0 rfl
 obtain ⟨ok1, hs1, _⟩ := obj_get hC 1 rfl
 obtain ⟨oku, hu, _⟩ := obj_get hC 4 rfl
 obtain ⟨A0, c0, rfl⟩ := side_slice hs0
 obtain ⟨A1, c1, rfl⟩ := side_slice hs1
 obtain ⟨Au, cu, rfl⟩ := Kd.R_slice (show (k89).R 84 W 0 oku vu T.us from hu)
 have HF0 := Aside0.mk (Kd.F_now (side_reads hs0).2.2)
 have HF1 := Aside0.mk (Kd.F_now (side_reads hs1).2.2)
 have HU := Aside0.mk (Kd.R_reads' (show (k89).R 84 W 0 oku _ T.us from hu)).2
 have HLG := Aside0.mk hT.2.2
 have hl0 := (legal_len hT.2.2).1
 have hl1 := (legal_len hT.2.2).2
 have hul : T.us.length ≤ 1000000000 := Nat.le_trans hT.2.1 hN
 have HCB := Aside0.mk (Res.bound _ hC)
 obtain ⟨x0, x1, x2, x3, x4, x5, x6, _⟩ := blk_all7 (tape_blk hC)
 have b0 : decide (n < 0) = false := decide_eq_false (by omega)
 have w2 : wrap64 ((T.us.length : Int) + 1) = (T.us.length : Int) + 1 := by unfold wrap64; omega
 have z2 : ((T.us.length : Int) + 1 == 0) = false := by simp; omega
 obtain ⟨q, eq_⟩ : ∃ q, T.stays n = q := ⟨_, rfl⟩
 have hq : q ≤ T.us.length := by rw [← eq_]; unfold TM.stays; have := Nat.mod_lt ((if n < 0 then -(n + 1) else n).toNat) (show 0 < T.us.length + 1 by omega); omega
 have w3 : wrap64 (Int.tmod (n) ((T.us.length : Int) + 1)) = (q : Int) := by
  have h1 : Int.tmod (n) ((T.us.length : Int) + 1) = (q : Int) := by
   rw [← eq_]
   unfold TM.stays
   rw [if_neg (by omega)]
   rw [Int.tmod_eq_emod_of_nonneg (by omega)]
   rw [Int.natCast_emod, Int.toNat_of_nonneg (by omega)]
   rfl
  rw [h1]
  unfold wrap64
  omega
 have w3' : Int.tmod (n) ((T.us.length : Int) + 1) = (q : Int) := by
  rw [← eq_]
  unfold TM.stays
  rw [if_neg (by omega)]
  rw [Int.tmod_eq_emod_of_nonneg (by omega)]
  rw [Int.natCast_emod, Int.toNat_of_nonneg (by omega)]
  rfl
 have HE := Aside0.mk (show T.crash n = ⟨afterU T.s0 0 (T.us.take q), afterU T.s1 1 (T.us.take q), [], false, 0⟩ by unfold TM.crash; rw [eq_])
 have hcut := hcutU Au T.us.length cu q hq HU.out.1
 clear hP hC hs0 hs1 hu hT hx hn hn2 eq_
 go_enter Try.func27, Try.ntmps27
 go_wp2_with fail
 refine (copied.calls A0 c0 T.s0 A1 c1 T.s1 W HF0.out HF1.out (by omega) (by omega)).mono ?_
 rintro e w2_ ⟨B0, d0, B1, d1, m, rfl, hm, hR0, hR1, hB⟩
 have HR0 := Aside0.mk hR0
 have HR1 := Aside0.mk hR1
 have HB := Aside0.mk hB
 have HM := Aside0.mk hm
 clear x0 x1 x2 x3 x4 x5 x6 hR0 hR1 hB hm
 have hu59 := Try.underlying59
 have hu84 := Try.underlying84
 go_wp2_with fail
 obtain ⟨b, eb⟩ : ∃ b, b = w2_.heap.size := ⟨_, rfl⟩
 have HBE := Aside0.mk eb
 obtain ⟨w3_, e3⟩ : ∃ w3_, w3_ = w2_.alloc (.cells #[.slice B0 T.s0.length d0, .slice B1 T.s1.length d1] 59) := ⟨_, rfl⟩
 rw [← e3, ← eb]
 have HBB := Aside0.mk (show Below W.heap.size W w3_ by rw [e3]; exact below_alloc HB.out _)
 have HOB := Aside0.mk (show (Res.obj b 59 [.slice B0 T.s0.length d0, .slice B1 T.s1.length d1] [SideR (.slice B0 T.s0.length d0) (afterU T.s0 0 (T.us.take 0)), SideR (.slice B1 T.s1.length d1) (afterU T.s1 1 (T.us.take 0))]).P (fun k => W.heap.size ≤ k) w3_ from by
  have hbl := HB.out.size
  refine ⟨by omega, by rw [e3, eb]; exact heap_alloc_new _ _, fun k => if k < m then 0 else 1, fun i R hi => ?_⟩
  match i, hi with
  | 0, hi =>
   cases hi
   refine Res.mono _ (fun k hk => ⟨⟨hk.1.1, ?_⟩, ?_, if_pos hk.1.2⟩) (Res.on _ (Res.bound _ HR0.out) (show Below w2_.heap.size w2_ w3_ by rw [e3]; exact below_alloc (Below.refl _ _) _))
   ·rw [e3, heap_size_alloc2]; have := hk.2; omega
   ·have := hk.2; omega
  | 1, hi =>
   cases hi
   refine Res.mono _ (fun k hk => ⟨⟨Nat.le_trans HM.out hk.1, ?_⟩, ?_, if_neg (by have := hk.1; omega)⟩) (Res.on _ (Res.bound _ HR1.out) (show Below w2_.heap.size w2_ w3_ by rw [e3]; exact below_alloc (Below.refl _ _) _))
   ·rw [e3, heap_size_alloc2]; have := hk.2; omega
   ·have := hk.2; omega)
 have HTG3 := Aside0.mk ((HBB.out.block _ (blk_lt (tape_blk HCB.out))).trans (tape_blk HCB.out))
 have hx4 : w3_.cell? ⟨g, 4, none⟩ = some (.slice Au T.us.length cu) := by rw [blk_cell HTG3.out]; rfl
 clear e3 eb
 go_quiet (fail)
 go_wp2_with fail
 clear hx4
 go_loopw [31] (fun s31 wr => ∃ (j : Nat) (M0 : Option Addr) (p0 e0 : Nat) (M1 : Option Addr) (p1 e1 : Nat), j ≤ q ∧ s31 = .int .i64 (j : Int) ∧ Aside0 ((Res.obj b 59 [.slice M0 p0 e0, .slice M1 p1 e1] [SideR (.slice M0 p0 e0) (afterU T.s0 0 (T.us.take j)), SideR (.slice M1 p1 e1) (afterU T.s1 1 (T.us.take j))]).P (fun k => W.heap.size ≤ k) wr) ∧ Aside0 (Below W.heap.size W wr)) (fun s31 _ => (q + 1 - (intOf s31).toNat))
 case atStart => exact ⟨0, B0, T.s0.length, d0, B1, T.s1.length, d1, Nat.zero_le _, rfl, ⟨Res.on _ HOB.out (pw_below_drewN (Below.refl _ _) _)⟩, ⟨pw_below_drewN HBB.out _⟩⟩
 case round =>
  obtain ⟨j, M0, p0, e0, M1, p1, e1, hj, rfl, HSR, HBR⟩ := hrel
  clear HOB HBB
  by_cases hjq : j < q
  ·have b1 : decide ((j : Int) < (q : Int)) = true := decide_eq_true (by omega)
   have hil : j < T.us.length := by omega
   obtain ⟨ad, eA, hc0, hc1, hc2⟩ := at_T89 (Kd.C_below HU.out.2 HBR.out) (j : Int) (by omega) (by omega)
   subst eA
   obtain ⟨u, eu⟩ : ∃ u, rd_T89 T.us (j : Int) = u := ⟨_, rfl⟩
   rw [eu] at hc0 hc1 hc2
   have hdrop := legal_at HLG.out j hil
   have edrop : T.us.drop j = u :: T.us.drop (j + 1) := by
    rw [← eu, List.drop_eq_getElem_cons hil]
    congr 1
    show _ = T.us.getD (j : Int).toNat _
    simp [hil]
   rw [edrop] at hdrop
   have HU0 := Aside0.mk (show u.f0 = 0 ∨ u.f0 = 1 from hdrop.2.2.1)
   have HL0 := Aside0.mk hdrop.1
   have HL1 := Aside0.mk hdrop.2.1
   have HUC := Aside0.mk (show 0 ≤ u.f1 → u.f1 ≤ ((if u.f0 = 0 then afterU T.s0 0 (T.us.take j) else afterU T.s1 1 (T.us.take j)).length : Int) from hdrop.2.2.2.1)
   have HN0 := Aside0.mk (show afterU T.s0 0 (T.us.take (j + 1)) = unit1 (afterU T.s0 0 (T.us.take j)) 0 u by rw [← eu]; exact afterU_take T.s0 0 T.us j _ hil)
   have HN1 := Aside0.mk (show afterU T.s1 1 (T.us.take (j + 1)) = unit1 (afterU T.s1 1 (T.us.take j)) 1 u by rw [← eu]; exact afterU_take T.s1 1 T.us j _ hil)
   obtain ⟨a0, ea0⟩ : ∃ a, afterU T.s0 0 (T.us.take j) = a := ⟨_, rfl⟩
   obtain ⟨a1, ea1⟩ : ∃ a, afterU T.s1 1 (T.us.take j) = a := ⟨_, rfl⟩
   rw [ea0] at HSR HL0 HUC HN0
   rw [ea1] at HSR HL1 HUC HN1
   obtain ⟨y0, y1, _⟩ := blk_all2 (obj_blk HSR.out)
   clear hdrop edrop eu ea0 ea1
   rw [Int.toNat_natCast] at hc0 hc1 hc2
   have y0' := pw_cell_below (below_alloc (Below.refl wr.heap.size wr) (.cells #[.int .i64 u.f0, .int .i64 u.f1, .int .u8 u.f2] 84)) y0
   have y1' := pw_cell_below (below_alloc (Below.refl wr.heap.size wr) (.cells #[.int .i64 u.f0, .int .i64 u.f1, .int .u8 u.f2] 84)) y1
   clear y0 y1
   go_wp2_with fail
   have HBA := Aside0.mk (below_alloc (Below.refl wr.heap.size wr) (.cells #[.int .i64 u.f0, .int .i64 u.f1, .int .u8 u.f2] 84))
   refine (done.obj (Res.on _ HSR.out HBA.out) 0 1 rfl rfl (by decide) u HU0.out HL0.out HL1.out HUC.out).mono ?_
   rintro e w4 ⟨C0, k0, f0, C1, k1, f1, rfl, ht⟩
   have HT := Aside0.mk ht
   obtain ⟨r0, r1, t0, t1⟩ := blk_all2 (obj_blk ht.2)
   clear ht y0' y1' hc0 hc1 hc2
   go_wp2_with fail
   go_roundw
   case rel =>
    have h2 := obj_set HT.out.2 0 (.slice C0 k0 f0)
    have h3 := obj_set h2.1 1 (.slice C1 k1 f1)
    have hsz : W.heap.size ≤ (wr.alloc (.cells #[.int .i64 u.f0, .int .i64 u.f1, .int .u8 u.f2] 84)).heap.size := Nat.le_trans HBR.out.size HBA.out.size
    refine ⟨j + 1, C0, k0, f0, C1, k1, f1, by omega, by simp, ⟨?_⟩, ⟨?_⟩⟩
    ·rw [HN0.out, HN1.out]
     exact Res.mono _ (fun k hk => hk.elim id (fun h => Nat.le_trans hsz h)) h3.1
    ·have k1 := ((HT.out.1.then_ h2.2 (fun k hk => hk)).then_ h3.2 (fun k hk => hk))
     exact ((Keeps.of_below (below_step HBR.out HBA.out) (fun _ => False)).then_ k1 (fun k hk => .inr hk)).belowF
   case measure => simp [intOf]; omega
  ·obtain rfl : j = q := by omega
   have b1 : decide ((j : Int) < (j : Int)) = false := decide_eq_false (by omega)
   obtain ⟨ep0, ep1⟩ := side_lens HSR.out
   subst ep0 ep1
   have HKL := Aside0.mk (show (afterU T.s0 0 (T.us.take j)).length ≤ 1000000 ∧ (afterU T.s1 1 (T.us.take j)).length ≤ 1000000 from by
    have h1 : legal T.s0 T.s1 (T.us.take j ++ T.us.drop j) := by rw [List.take_append_drop]; exact HLG.out
    have h2 := legal_len (legal_append.1 h1).2
    omega)
   go_wp2_with fail
   obtain ⟨w8, e8⟩ : ∃ w8, w8 = wr.drew := ⟨_, rfl⟩
   have HBW := Aside0.mk (show Below wr.heap.size wr w8 by rw [e8]; exact below_drew (Below.refl _ _))
   have HS8 := Aside0.mk (Res.on _ HSR.out HBW.out)
   have HB9 := Aside0.mk (below_step HBR.out HBW.out)
   obtain ⟨hx0, hx1, _⟩ := blk_all2 (obj_blk HS8.out)
   obtain ⟨oka, hka, _⟩ := obj_get HS8.out 0 rfl
   obtain ⟨okb, hkb, _⟩ := obj_get HS8.out 1 rfl
   have HK0 := Aside0.mk (Kd.F_now (side_reads hka).2.2)
   have HK1 := Aside0.mk (Kd.F_now (side_reads hkb).2.2)
   have HTG := Aside0.mk ((HB9.out.block _ (blk_lt (tape_blk HCB.out))).trans (tape_blk HCB.out))
   clear hka hkb
   refine start_ (n := 7) (S := fun w' => w'.cell? ⟨b, 0, none⟩ = some (.slice M0 (afterU T.s0 0 (T.us.take j)).length e0) ∧ w'.cell? ⟨b, 1, none⟩ = some (.slice M1 (afterU T.s1 1 (T.us.take j)).length e1)) (ds := [6]) #[false, false, false, false, false, false, false] (by kernel_rfl) rfl rfl ⟨(by rw [← e8]; exact hx0), (by rw [← e8]; exact hx1)⟩ (fun hHeld => ?_)
   rw [← e8] at hHeld ⊢
   clear e8
   refine pure_ (i := 0) (N := some 39) (v := ?_) (a' := ?_) #[true, false, false, false, false, false, false] rfl rfl (by kernel_rfl) (fun _ _ _ h => h) (Or.inl ⟨by rfl, ?_⟩) ?_ ?_
   rotate_left
   ·intro w'
    go_simp
    with_reducible rfl
   rotate_left
   ·simp only [Act.put, List.setIfInBounds_toArray, List.set_cons_zero, List.set_cons_succ, i64_w, i32_w]
    rfl
   refine take_ (i := 1) (N := some 40) (v := ?_) (a' := ?_) #[true, true, false, false, false, false, false] rfl rfl (by kernel_rfl) (fun _ _ _ h => h) (Or.inl ⟨by rfl, ?_⟩) hHeld ?_ ?_
   rotate_left
   ·rintro w' ⟨s0, s1⟩
    go_simp
    with_reducible rfl
   rotate_left
   ·simp only [Act.put, List.setIfInBounds_toArray, List.set_cons_zero, List.set_cons_succ, i64_w, i32_w]
    rfl
   refine take_ (i := 2) (N := some 41) (v := ?_) (a' := ?_) #[true, true, true, false, false, false, false] rfl rfl (by kernel_rfl) (fun _ _ _ h => h) (Or.inl ⟨by rfl, ?_⟩) hHeld ?_ ?_
   rotate_left
   ·rintro w' ⟨s0, s1⟩
    go_simp
    with_reducible rfl
   rotate_left
   ·simp only [Act.put, List.setIfInBounds_toArray, List.set_cons_zero, List.set_cons_succ, i64_w, i32_w]
    rfl
   refine one_ (i := 3) (N := some 42) #[true, true, true, true, false, false, false] rfl rfl (by kernel_rfl) (by decide) (fun K hK => ?_)
   refine goes_ Try.func49 (by kernel_rfl) rfl #[.agg #[.slice M0 (afterU T.s0 0 (T.us.take j)).length e0, .slice M1 (afterU T.s1 1 (T.us.take j)).length e1]] (by rfl) rfl rfl (by simp only [List.map_toArray, List.map_cons, List.map_nil]; rfl) ?_
   with_reducible refine (copied.calls M0 e0 (afterU T.s0 0 (T.us.take j)) M1 e1 (afterU T.s1 1 (T.us.take j)) w8 HK0.out HK1.out HKL.out.1 HKL.out.2).mono ?_
   rintro e w9 ⟨B0, d0, B1, d1, m, rfl, hm, hR0, hR1, hB⟩
   have HR0 := Aside0.mk hR0
   have HR1 := Aside0.mk hR1
   have HB := Aside0.mk hB
   have HM := Aside0.mk hm
   clear hR0 hR1 hB hm
   have hbg := (HB.out.block _ (blk_lt HTG.out)).trans HTG.out
   have hz0 := blk_frozen hbg 0
   have hz1 := blk_frozen hbg 1
   have hz2 := blk_frozen hbg 2
   have hz3 := blk_frozen hbg 3
   have hz4 := blk_frozen hbg 4
   have hz5 := blk_frozen hbg 5
   have hz6 := blk_frozen hbg 6
   have hy0 : w9.cell? ⟨g, 0, none⟩ = some _ := (blk_cell hbg 0).trans rfl
   have hy1 : w9.cell? ⟨g, 1, none⟩ = some _ := (blk_cell hbg 1).trans rfl
   have hy2 : w9.cell? ⟨g, 2, none⟩ = some _ := (blk_cell hbg 2).trans rfl
   have hy3 : w9.cell? ⟨g, 3, none⟩ = some _ := (blk_cell hbg 3).trans rfl
   have hy4 : w9.cell? ⟨g, 4, none⟩ = some _ := (blk_cell hbg 4).trans rfl
   have hy5 : w9.cell? ⟨g, 5, none⟩ = some _ := (blk_cell hbg 5).trans rfl
   have hy6 : w9.cell? ⟨g, 6, none⟩ = some _ := (blk_cell hbg 6).trans rfl
   refine ⟨_, rfl, ?_⟩
   refine hK.out _ _ ⟨(pw_cell_below HB.out hx0), (pw_cell_below HB.out hx1)⟩ (fun hHeld => ?_)
   clear hK K
   refine norm_ (a' := ?_) ?_ ?_
   rotate_left
   ·show Act.put _ (some 42) _ = _
    simp only [Act.put, List.setIfInBounds_toArray, List.set_cons_zero, List.set_cons_succ, i64_w, i32_w]
    rfl
   refine pure_ (i := 4) (N := some 43) (v := ?_) (a' := ?_) #[true, true, true, true, true, false, false] rfl rfl (by kernel_rfl) (fun _ _ _ h => h) (Or.inl ⟨by rfl, ?_⟩) ?_ ?_
   rotate_left
   ·intro w'
    go_simp
    with_reducible rfl
   rotate_left
   ·simp only [Act.put, List.setIfInBounds_toArray, List.set_cons_zero, List.set_cons_succ, i64_w, i32_w]
    rfl
   refine pure_ (i := 5) (N := some 44) (v := ?_) (a' := ?_) #[true, true, true, true, true, true, false] rfl rfl (by kernel_rfl) (fun _ _ _ h => h) (Or.inl ⟨by rfl, ?_⟩) ?_ ?_
   rotate_left
   ·intro w'
    go_simp
    with_reducible rfl
   rotate_left
   ·simp only [Act.put, List.setIfInBounds_toArray, List.set_cons_zero, List.set_cons_succ, i64_w, i32_w]
    rfl
   refine last_ (i := 6) (N := none) #[true, true, true, true, true, true, true] rfl rfl (by kernel_rfl) (by decide) (fun K hK => ?_)
   refine skip_ (w1 := ?_) (by rfl) rfl ?_ ?_
   rotate_left
   ·go_simp
    rfl
   refine hK.out _ _ ?_
   clear hK K
   refine done_ (by kernel_rfl) ?_
   clear hx0 hx1 hHeld hy0 hy1 hy2 hy3 hy4 hy5 hy6 hz0 hz1 hz2 hz3 hz4 hz5 hz6
   go_end0
   refine ⟨rfl, ?_⟩
   rw [HE.out]
   obtain ⟨_, _, own, ho⟩ := HS8.out
   have hb9 := below_step HB9.out HB.out
   have hm8 := HM.out
   have HO := obj_more (Rs' := [SideR (.slice M0 (afterU T.s0 0 (T.us.take j)).length e0) (afterU T.s0 0 (T.us.take j)), SideR (.slice M1 (afterU T.s1 1 (T.us.take j)).length e1) (afterU T.s1 1 (T.us.take j)), SideR (.slice B0 (afterU T.s0 0 (T.us.take j)).length d0) (afterU T.s0 0 (T.us.take j)), SideR (.slice B1 (afterU T.s1 1 (T.us.take j)).length d1) (afterU T.s1 1 (T.us.take j)), UnR (.slice none 0 0) []]) HCB.out hb9 (fun k => if k < w8.heap.size then own k else if k < m then 2 else 3) (fun i R hi => by
    match i, hi with
    | 0, hi => cases hi; exact .inr (Res.mono _ (fun k hk => ⟨hk.1.1, by show (if k < w8.heap.size then own k else if k < m then 2 else 3) = 0; rw [if_pos hk.1.2]; exact hk.2.2⟩) (Res.on _ (ho 0 _ rfl) HB.out))
    | 1, hi => cases hi; exact .inr (Res.mono _ (fun k hk => ⟨hk.1.1, by show (if k < w8.heap.size then own k else if k < m then 2 else 3) = 1; rw [if_pos hk.1.2]; exact hk.2.2⟩) (Res.on _ (ho 1 _ rfl) HB.out))
    | 2, hi => cases hi; exact .inr (Res.mono _ (fun k hk => ⟨Nat.le_trans HB9.out.size hk.1, by show (if k < w8.heap.size then own k else if k < m then 2 else 3) = 2; rw [if_neg (by omega), if_pos hk.2]⟩) HR0.out)
    | 3, hi => cases hi; exact .inr (Res.mono _ (fun k hk => ⟨Nat.le_trans HB9.out.size (Nat.le_trans hm8 hk), by show (if k < w8.heap.size then own k else if k < m then 2 else 3) = 3; rw [if_neg (by omega), if_neg (by omega)]⟩) HR1.out)
    | 4, hi => cases hi; exact .inr (Kd.R_nil _ _ _ _ _))
   have h0 := obj_set HO.2 0 (.slice M0 (afterU T.s0 0 (T.us.take j)).length e0)
   have h1 := obj_set h0.1 1 (.slice M1 (afterU T.s1 1 (T.us.take j)).length e1)
   have h2 := obj_set h1.1 2 (.slice B0 (afterU T.s0 0 (T.us.take j)).length d0)
   have h3 := obj_set h2.1 3 (.slice B1 (afterU T.s1 1 (T.us.take j)).length d1)
   have h4 := obj_set h3.1 4 (.slice none 0 0)
   have h5 := obj_set h4.1 5 (.bool false)
   have h6 := obj_set h5.1 6 (.int .i64 0)
   have hm2 : ∀ k, ((ok k ∧ k < W.heap.size) ∨ W.heap.size ≤ k) → ok k ∨ W.heap.size ≤ k := fun k hk => hk.imp (·.1) id
   exact ⟨(((((((HO.1.then_ h0.2 (fun k hk => hk)).then_ h1.2 (fun k hk => hk)).then_ h2.2 (fun k hk => hk)).then_ h3.2 (fun k hk => hk)).then_ h4.2 (fun k hk => hk)).then_ h5.2 (fun k hk => hk)).then_ h6.2 (fun k hk => hk)).mono (fun k _ hk => hk.1), Res.mono _ hm2 (ptape_mk (T := ⟨afterU T.s0 0 (T.us.take j), afterU T.s1 1 (T.us.take j), [], false, 0⟩) (x := 0) (fun hb => rfl) h6.1)⟩
theorem tape_Crash.calls (g : Nat) (T : TM) (N : Nat) (hT : T.Ok N) (hN : N ≤ 1000000000) (n : Int) (hn1 : -9223372036854775808 ≤ n) (hn2 : n ≤ 9223372036854775807) (W : World) (ok : Nat → Prop) (hP : (PTape g T).P ok W) :
  Calls Try.prog 27 #[.pointer (some ⟨g, 0, none⟩), .int .i64 n] W fun e W' => e = .returned (.tuple #[]) ∧ Turned ok W W' (PTape g (T.crash n)) := by
 by_cases h : n < 0
 ·exact tape_Crash.neg g T N hT hN n h hn1 W ok hP
 ·exact tape_Crash.pos g T N hT hN n (by omega) hn2 W ok hP
end Go.Proofs.Ytmfmoddaejoekaa.P
