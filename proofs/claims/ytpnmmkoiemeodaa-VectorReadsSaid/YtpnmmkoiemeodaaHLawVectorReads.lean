/- Any bytes (the first 200) are read as just the document's vector, or refused as it says, at the same place; what is read is put as just those bytes. -/
import Derived.Test.YtpnmmkoiemeodaaHMethV
import Derived.Test.YtpnmmkoiemeodaaHNew
import Derived.Test.YtpnmmkoiemeodaaHVLives
import Derived.Test.YtpnmmkoiemeodaaVRead
import Derived.Test.YtpnmmkoiemeodaaP9
import Derived.Test.YtpnmmkoiemeodaaP5
import Derived.Test.YtpnmmkoiemeodaaP9
import Derived.OpenShut
import Derived.Outline
namespace Go.Proofs.Ytpnmmkoiemeodaa.P
open Go.RowKit Go.Proofs.YtpnmmkoiemeodaaW.PrintWords Go.Proofs.YtpnmmkoiemeodaaW.PrintLast Go.Proofs.YtpnmmkoiemeodaaW.PrintMore
set_option linter.unusedVariables false
set_option linter.unusedSimpArgs false
theorem hcut_to (q : Nat) (A : Option Addr) (n c : Nat) (h : q ≤ n) (hc : n ≤ c) : ∀ W : World, (Instr.slice 22 (.slice A n c) none (some (.int .i64 (q : Int))) none).run Try.prog W = .ok (.slice A q c) W := by
  obtain ⟨i06, hi06, _, _, _⟩ := info_parts hinfo5
  have := cut_to (P := Try.prog) 22 5 .i64 Try.underlying22 hi06 A n c (q : Int) (by omega) (by omega) hc
  rwa [Int.toNat_natCast] at this
set_option maxHeartbeats 1000000 in
set_option maxRecDepth 100000 in
theorem liverylaw10_VectorReads.walk (A0 : Option Addr) (c0 : Nat) (l0 : List Int) (w : World) (w0 : (l0.length ≤ maxLen ∧ l0.length * 1 ≤ 140737488351232 ∧ ∀ x ∈ l0, (Lit.int .u8 x).wf = true)) (hr0 : Kd.C (Kd.int .u8) w A0 l0.length l0) (hc0 : l0.length ≤ c0) :
    Calls Try.prog 3 #[.slice A0 l0.length c0] w fun e w' => e = .returned (.bool true) ∧ Below w.heap.size w w' := by
  have L0 := Aside0.mk hr0
  have L0c := Aside0.mk hc0
  obtain ⟨b, eb⟩ : ∃ v, v = l0.take 200 := ⟨_, rfl⟩
  have hb : b.length ≤ 200 := by rw [eb, List.length_take]; omega
  have hok : okB b = true := okB_of fun x hx => Go.bounds_u8 (w0.2.2 x (List.mem_of_mem_take (eb ▸ hx)))
  obtain ⟨⟨v, p, e⟩, ev⟩ : ∃ x, x = readV b 0 0 := ⟨_, rfl⟩
  have h1 := prog_Read 100 b 0 0 hok (by omega) (by omega) (by omega) (by omega)
  have h2 := ref_Read 100 b 0 0 hok (by omega) (by omega) (by omega) (by omega)
  have hp := readV_place b 0 0 hok (by omega) (by omega) (by omega)
  have hl := readV_len b 0 0
  have hr := readV_range b 0 0
  have hput := readV_put b 0 hok (by omega) (by omega) (by omega)
  rw [← ev] at h1 h2 hp hl hr hput
  simp only at hp hl hr hput
  have hs : liveryref10_Same.f 100 v v = some true := by rw [ref10_Same 100 v v (by omega) (by omega)]; simp
  have hb_ := Aside0.mk hb
  have h1_ := Aside0.mk h1
  have h2_ := Aside0.mk h2
  have hs_ := Aside0.mk hs
  have hl_ := Aside0.mk hl
  have hp_ := Aside0.mk hp
  have hr_ := Aside0.mk hr
  clear h1 h2 hs hl hp hr ev
  by_cases c20 : (200 : Int) < (l0.length : Int)
  · by_cases he : e = 0
    · skip
      subst he
      obtain ⟨q1, q2⟩ := hput rfl
      rw [show (0 : Int).toNat = 0 from rfl, List.take_zero, List.nil_append] at q2
      obtain ⟨m, em⟩ : ∃ m : Nat, p = (m : Int) := ⟨p.toNat, by have := hp_.out; omega⟩
      subst em
      rw [Int.toNat_natCast] at q2
      have hml : m ≤ b.length := by have := hp_.out; omega
      have k1 := prog_Put 101 [] v (by simp) (by have := hl_.out; omega) (fun x hx => by have := hr_.out x hx; omega) (by omega)
      rw [if_pos q1, List.nil_append, ← q2] at k1
      have hm2 : (b.take m).length = m := by rw [List.length_take]; omega
      obtain ⟨t, et⟩ : ∃ t, t = b.take m := ⟨_, rfl⟩
      rw [← et] at k1 hm2
      subst hm2
      have k2 : liveryref01_Same.f 1001 t t = some true := by rw [ref01_Same 1001 t t (by have := hb_.out; omega) (by have := hb_.out; omega)]; simp
      have k1_ := Aside0.mk k1
      have k2_ := Aside0.mk k2
      have et_ := Aside0.mk et
      have hml_ := Aside0.mk hml
      clear k1 k2 et hml q1 q2 hput
      clear hb hok
      have Uc : Aside0 (b.length ≤ c0) := ⟨by have := L0c.out; have := hb_.out; omega⟩
      have U : Aside0 ((Kd.int .u8).C w A0 b.length b) := ⟨by rw [eb]; exact Kd.C_take (m := 200) L0.out (by omega)⟩
      obtain ⟨i06, hi06, _, _, _⟩ := info_parts hinfo5
      have hcut := cut_to (P := Try.prog) 22 5 .i64 Try.underlying22 hi06 A0 l0.length c0 200 (by decide) (by omega) L0c.out
      rw [show Int.toNat 200 = b.length by rw [eb, List.length_take]; simp; omega] at hcut
      clear hi06 eb
      have c20b : decide ((200 : Int) < (l0.length : Int)) = true := decide_eq_true c20
      clear c20
      clear hr0 hc0 w0 L0 L0c
      go_enter Try.func3, Try.ntmps3
      have HB := Aside0.mk (Below.refl w.heap.size w)
      go_wp2_with fail
      clear hcut
      refine (wire_New.calls A0 c0 b w (U.out) (by have := hb_.out; omega)).mono ?_
      rintro e w1 ⟨g1, rfl, hg1, hn1, hb1⟩
      have HD : Aside0 (Below w.heap.size w w1) := ⟨below_step (Below.refl _ _) hb1⟩
      clear hb1
      have HG1 : Aside0 (w.heap.size ≤ g1) := ⟨by have := HB.out.size; (try simp at hg1); omega⟩
      have HX1 : Aside0 (w.heap.size ≤ g1) := ⟨by (try simp at hg1); omega⟩
      clear hg1
      have U_ := Aside0.mk (Kd.C_below U.out HD.out)
      clear U
      have U := U_
      clear U_
      have HB_ := Aside0.mk (below_step HB.out HD.out)
      clear HB HD
      have HB := HB_
      clear HB_
      have C := Aside0.mk hn1
      clear hn1
      go_wp2_with fail
      obtain ⟨W7, eW⟩ : ∃ W7, W7 = w1.alloc (.cells #[.slice A0 b.length c0, .int .i64 0, .int .i64 0] 28) := ⟨_, rfl⟩
      rw [← eW]
      obtain ⟨gx, eg⟩ : ∃ gx, gx = w1.heap.size := ⟨_, rfl⟩
      rw [← eg]
      have X : Aside0 (CurR W7 gx b 0 0) := ⟨by rw [eW, eg]; exact CurR.new w1 A0 c0 b 0 0 U.out Uc.out⟩
      have C_ : Aside0 (CurP W7 g1 b 0 0) := ⟨by rw [eW]; exact CurP.below C.out (below_alloc (Below.refl _ _) _)⟩
      have U_ : Aside0 ((Kd.int .u8).C W7 A0 b.length b) := ⟨by rw [eW]; exact Kd.C_alloc U.out _⟩
      have HB_ : Aside0 (Below w.heap.size w W7) := ⟨by rw [eW]; exact below_alloc HB.out _⟩
      have HLT : Aside0 (g1 < gx) := ⟨by rw [eg]; exact C.out.lt⟩
      have HX2 : Aside0 (w.heap.size ≤ gx) := ⟨by rw [eg]; exact HB.out.size⟩
      have HGX : Aside0 (gx < W7.heap.size) := ⟨X.out.lt⟩
      clear HB C U eW eg
      have HB := HB_
      have C := C_
      have U := U_
      clear HB_ C_ U_
      refine (CurP_VRead C.out 100  (v) ((t.length : Int)) (0) h1_.out).mono ?_
      rintro e w2 ⟨v2, rfl, hv2, hp2, hk2, hb2⟩
      have HK := Aside0.mk hk2
      have HD := Aside0.mk hb2
      have HS := Aside0.mk C.out.blk
      have HN := Aside0.mk hp2
      have V1 := Aside0.mk hv2
      clear hk2 hb2 hp2 hv2
      have U_ := Aside0.mk (C_keep U.out HS.out HK.out)
      clear U
      have U := U_
      clear U_
      have C_ := Aside0.mk (HN.out)
      clear C
      have C := C_
      clear C_
      have X_ := Aside0.mk (CurR.keep X.out HS.out HK.out (by have := HLT.out; omega))
      clear X
      have X := X_
      clear X_
      have HB_ := Aside0.mk (below_keep HB.out HD.out HG1.out)
      clear HB HD HK HS HN
      have HB := HB_
      clear HB_
      obtain ⟨A2, c2, ev2⟩ := Kd.R_slice V1.out
      subst ev2
      go_wp2_with fail
      refine (CurR_VRead X.out 100  (v) ((t.length : Int)) (0) h2_.out).mono ?_
      rintro e w3 ⟨v3, rfl, hv3, hp3, hk3, hb3⟩
      have HK := Aside0.mk hk3
      have HD := Aside0.mk hb3
      have HS := Aside0.mk X.out.blk
      have HN := Aside0.mk hp3
      have V2 := Aside0.mk hv3
      clear hk3 hb3 hp3 hv3
      have U_ := Aside0.mk (C_keep U.out HS.out HK.out)
      clear U
      have U := U_
      clear U_
      have C_ := Aside0.mk (CurP.keep C.out HS.out HK.out (by have := HLT.out; omega))
      clear C
      have C := C_
      clear C_
      have X_ := Aside0.mk (HN.out)
      clear X
      have X := X_
      clear X_
      have V1_ := Aside0.mk (Kd.R_mono (Kd.R_keep (Kd.R_mono (Kd.R_bound V1.out) (fun _ hk_ => hk_.2.1)) HK.out (fun k_ hk_ => by (have := HGX.out; omega))) (fun _ _ => trivial))
      clear V1
      have V1 := V1_
      clear V1_
      have HB_ := Aside0.mk (below_keep HB.out HD.out HX2.out)
      clear HB HD HK HS HN
      have HB := HB_
      clear HB_
      obtain ⟨A3, c3, ev3⟩ := Kd.R_slice V2.out
      subst ev3
      go_wp2_with fail
      refine (liveryref10_Same.calls 100 A2 c2 v A3 c3 v true w3 (Kd.R_reads' V1.out).2.2 (Kd.R_reads' V1.out).2.1 (Kd.R_reads' V2.out).2.2 (Kd.R_reads' V2.out).2.1 hs_.out).mono ?_
      rintro e w_ ⟨rfl, ⟨n4, rfl⟩⟩
      obtain ⟨w4, e4⟩ : ∃ W_ : World, W_ = World.drewN w3 n4 := ⟨_, rfl⟩
      have HD : Aside0 (Below w3.heap.size w3 w4) := ⟨by rw [e4]; exact pw_below_drewN (Below.refl _ _) _⟩
      rw [← e4]
      clear e4
      have U_ := Aside0.mk (Kd.C_below U.out HD.out)
      clear U
      have U := U_
      clear U_
      have C_ := Aside0.mk (CurP.below C.out HD.out)
      clear C
      have C := C_
      clear C_
      have X_ := Aside0.mk (CurR.below X.out HD.out)
      clear X
      have X := X_
      clear X_
      have V1_ := Aside0.mk (Kd.R_below V1.out HD.out)
      clear V1
      have V1 := V1_
      clear V1_
      have V2_ := Aside0.mk (Kd.R_below V2.out HD.out)
      clear V2
      have V2 := V2_
      clear V2_
      have HB_ := Aside0.mk (below_step HB.out HD.out)
      clear HB HD
      have HB := HB_
      clear HB_
      go_wp2_with fail
      clear V2
      have HD : Aside0 (Below w4.heap.size w4 w4.drew) := ⟨below_drew1 (Below.refl _ _)⟩
      have U_ := Aside0.mk (Kd.C_below U.out HD.out)
      clear U
      have U := U_
      clear U_
      have C_ := Aside0.mk (CurP.below C.out HD.out)
      clear C
      have C := C_
      clear C_
      have X_ := Aside0.mk (CurR.below X.out HD.out)
      clear X
      have X := X_
      clear X_
      have V1_ := Aside0.mk (Kd.R_below V1.out HD.out)
      clear V1
      have V1 := V1_
      clear V1_
      have HB_ := Aside0.mk (below_step HB.out HD.out)
      clear HB HD
      have HB := HB_
      clear HB_
      refine start_ (n := 20) (S := fun w' => w'.cell? ⟨gx, 2, none⟩ = some (.int .i64 0) ∧ w'.cell? ⟨gx, 1, none⟩ = some (.int .i64 (t.length : Int))) (ds := []) #[false, false, false, false, false, false, false, false, false, false, false, false, false, false, false, false, false, false, false, false] (by kernel_rfl) rfl rfl ⟨(CurR.cellE X.out), (CurR.cellP X.out)⟩ (fun hHeld => ?_)
      generalize w4.drew = wd5 at *
      refine pure_ (i := 0) (N := some 28) (v := ?_) (a' := ?_) #[true, false, false, false, false, false, false, false, false, false, false, false, false, false, false, false, false, false, false, false] rfl rfl (by kernel_rfl) (fun _ _ _ h => h) (Or.inl ⟨by rfl, ?_⟩) ?_ ?_
      rotate_left
      · intro w'
        go_simp
        with_reducible rfl
      rotate_left
      · simp only [Act.put, List.setIfInBounds_toArray, List.set_cons_zero, List.set_cons_succ, i64_w, i32_w]
        rfl
      refine pure_ (i := 1) (N := some 29) (v := ?_) (a' := ?_) #[true, true, false, false, false, false, false, false, false, false, false, false, false, false, false, false, false, false, false, false] rfl rfl (by kernel_rfl) (fun _ _ _ h => h) (Or.inl ⟨by rfl, ?_⟩) ?_ ?_
      rotate_left
      · intro w'
        go_simp
        with_reducible rfl
      rotate_left
      · simp only [Act.put, List.setIfInBounds_toArray, List.set_cons_zero, List.set_cons_succ, i64_w, i32_w]
        rfl
      refine pure_ (i := 2) (N := some 30) (v := ?_) (a' := ?_) #[true, true, true, false, false, false, false, false, false, false, false, false, false, false, false, false, false, false, false, false] rfl rfl (by kernel_rfl) (fun _ _ _ h => h) (Or.inl ⟨by rfl, ?_⟩) ?_ ?_
      rotate_left
      · intro w'
        go_simp
        with_reducible rfl
      rotate_left
      · simp only [Act.put, List.setIfInBounds_toArray, List.set_cons_zero, List.set_cons_succ, i64_w, i32_w]
        rfl
      refine pure_ (i := 3) (N := some 31) (v := ?_) (a' := ?_) #[true, true, true, true, false, false, false, false, false, false, false, false, false, false, false, false, false, false, false, false] rfl rfl (by kernel_rfl) (fun _ _ _ h => h) (Or.inl ⟨by rfl, ?_⟩) ?_ ?_
      rotate_left
      · intro w'
        go_simp
        with_reducible rfl
      rotate_left
      · simp only [Act.put, List.setIfInBounds_toArray, List.set_cons_zero, List.set_cons_succ, i64_w, i32_w]
        rfl
      refine pure_ (i := 5) (N := some 33) (v := ?_) (a' := ?_) #[true, true, true, true, false, true, false, false, false, false, false, false, false, false, false, false, false, false, false, false] rfl rfl (by kernel_rfl) (fun _ _ _ h => h) (Or.inl ⟨by rfl, ?_⟩) ?_ ?_
      rotate_left
      · intro w'
        go_simp
        with_reducible rfl
      rotate_left
      · simp only [Act.put, List.setIfInBounds_toArray, List.set_cons_zero, List.set_cons_succ, i64_w, i32_w]
        rfl
      refine pure_ (i := 6) (N := some 34) (v := ?_) (a' := ?_) #[true, true, true, true, false, true, true, false, false, false, false, false, false, false, false, false, false, false, false, false] rfl rfl (by kernel_rfl) (fun _ _ _ h => h) (Or.inl ⟨by rfl, ?_⟩) ?_ ?_
      rotate_left
      · intro w'
        go_simp
        with_reducible rfl
      rotate_left
      · simp only [Act.put, List.setIfInBounds_toArray, List.set_cons_zero, List.set_cons_succ, i64_w, i32_w]
        rfl
      refine pure_ (i := 7) (N := some 35) (v := ?_) (a' := ?_) #[true, true, true, true, false, true, true, true, false, false, false, false, false, false, false, false, false, false, false, false] rfl rfl (by kernel_rfl) (fun _ _ _ h => h) (Or.inl ⟨by rfl, ?_⟩) ?_ ?_
      rotate_left
      · intro w'
        go_simp
        with_reducible rfl
      rotate_left
      · simp only [Act.put, List.setIfInBounds_toArray, List.set_cons_zero, List.set_cons_succ, i64_w, i32_w]
        rfl
      refine take_ (i := 8) (N := some 36) (v := ?_) (a' := ?_) #[true, true, true, true, false, true, true, true, true, false, false, false, false, false, false, false, false, false, false, false] rfl rfl (by kernel_rfl) (fun _ _ _ h => h) (Or.inl ⟨by rfl, ?_⟩) hHeld ?_ ?_
      rotate_left
      · rintro w' ⟨s0, s1⟩
        go_simp
        with_reducible rfl
      rotate_left
      · simp only [Act.put, List.setIfInBounds_toArray, List.set_cons_zero, List.set_cons_succ, i64_w, i32_w]
        rfl
      refine one_ (i := 4) (N := some 32) #[true, true, true, true, true, true, true, true, true, false, false, false, false, false, false, false, false, false, false, false] rfl rfl (by kernel_rfl) (by decide) (fun K hK => ?_)
      refine goes_ Try.func8 (by kernel_rfl) rfl #[.pointer (some ⟨g1, 0, none⟩)] (by rfl) rfl rfl (by simp only [List.map_toArray, List.map_cons, List.map_nil]; rfl) ?_
      with_reducible refine (CurP_Place C.out ((t.length : Int)) ((t.length : Int)) (0) rfl).mono ?_
      rintro e w6 ⟨rfl, hp6, hk6, hb6⟩
      have HK := Aside0.mk hk6
      have HD := Aside0.mk hb6
      have HS := Aside0.mk C.out.blk
      have HN := Aside0.mk hp6
      clear hk6 hb6 hp6
      have U_ := Aside0.mk (C_keep U.out HS.out HK.out)
      clear U
      have U := U_
      clear U_
      have C_ := Aside0.mk (HN.out)
      clear C
      have C := C_
      clear C_
      have X_ := Aside0.mk (CurR.keep X.out HS.out HK.out (by have := HLT.out; omega))
      clear X
      have X := X_
      clear X_
      have V1_ := Aside0.mk (Kd.R_mono (Kd.R_keep (Kd.R_mono (Kd.R_bound V1.out) (fun _ hk_ => hk_.2.1)) HK.out (fun k_ hk_ => by (have := HLT.out; have := HGX.out; omega))) (fun _ _ => trivial))
      clear V1
      have V1 := V1_
      clear V1_
      have HB_ := Aside0.mk (below_keep HB.out HD.out HG1.out)
      clear HB HD HK HS HN
      have HB := HB_
      clear HB_
      refine ⟨_, rfl, ?_⟩
      refine hK.out _ _ ⟨(CurR.cellE X.out), (CurR.cellP X.out)⟩ (fun hHeld => ?_)
      clear hK K
      refine norm_ (a' := ?_) ?_ ?_
      rotate_left
      · show Act.put _ (some 32) _ = _
        simp only [Act.put, List.setIfInBounds_toArray, List.set_cons_zero, List.set_cons_succ, i64_w, i32_w]
        rfl
      refine pure_ (i := 9) (N := some 37) (v := ?_) (a' := ?_) #[true, true, true, true, true, true, true, true, true, true, false, false, false, false, false, false, false, false, false, false] rfl rfl (by kernel_rfl) (fun _ _ _ h => h) (Or.inl ⟨by rfl, ?_⟩) ?_ ?_
      rotate_left
      · intro w'
        go_simp
        with_reducible rfl
      rotate_left
      · simp only [Act.put, List.setIfInBounds_toArray, List.set_cons_zero, List.set_cons_succ, i64_w, i32_w]
        rfl
      refine pure_ (i := 10) (N := some 38) (v := ?_) (a' := ?_) #[true, true, true, true, true, true, true, true, true, true, true, false, false, false, false, false, false, false, false, false] rfl rfl (by kernel_rfl) (fun _ _ _ h => h) (Or.inl ⟨by rfl, ?_⟩) ?_ ?_
      rotate_left
      · intro w'
        go_simp
        with_reducible rfl
      rotate_left
      · simp only [Act.put, List.setIfInBounds_toArray, List.set_cons_zero, List.set_cons_succ, i64_w, i32_w]
        rfl
      refine pure_ (i := 11) (N := some 39) (v := ?_) (a' := ?_) #[true, true, true, true, true, true, true, true, true, true, true, true, false, false, false, false, false, false, false, false] rfl rfl (by kernel_rfl) (fun _ _ _ h => h) (Or.inl ⟨by rfl, ?_⟩) ?_ ?_
      rotate_left
      · intro w'
        go_simp
        with_reducible rfl
      rotate_left
      · simp only [Act.put, List.setIfInBounds_toArray, List.set_cons_zero, List.set_cons_succ, i64_w, i32_w]
        rfl
      refine pure_ (i := 12) (N := some 40) (v := ?_) (a' := ?_) #[true, true, true, true, true, true, true, true, true, true, true, true, true, false, false, false, false, false, false, false] rfl rfl (by kernel_rfl) (fun _ _ _ h => h) (Or.inl ⟨by rfl, ?_⟩) ?_ ?_
      rotate_left
      · intro w'
        go_simp
        with_reducible rfl
      rotate_left
      · simp only [Act.put, List.setIfInBounds_toArray, List.set_cons_zero, List.set_cons_succ, i64_w, i32_w]
        rfl
      refine pure_ (i := 14) (N := some 42) (v := ?_) (a' := ?_) #[true, true, true, true, true, true, true, true, true, true, true, true, true, false, true, false, false, false, false, false] rfl rfl (by kernel_rfl) (fun _ _ _ h => h) (Or.inl ⟨by rfl, ?_⟩) ?_ ?_
      rotate_left
      · intro w'
        go_simp
        with_reducible rfl
      rotate_left
      · simp only [Act.put, List.setIfInBounds_toArray, List.set_cons_zero, List.set_cons_succ, i64_w, i32_w]
        rfl
      refine pure_ (i := 15) (N := some 43) (v := ?_) (a' := ?_) #[true, true, true, true, true, true, true, true, true, true, true, true, true, false, true, true, false, false, false, false] rfl rfl (by kernel_rfl) (fun _ _ _ h => h) (Or.inl ⟨by rfl, ?_⟩) ?_ ?_
      rotate_left
      · intro w'
        go_simp
        with_reducible rfl
      rotate_left
      · simp only [Act.put, List.setIfInBounds_toArray, List.set_cons_zero, List.set_cons_succ, i64_w, i32_w]
        rfl
      refine pure_ (i := 16) (N := some 44) (v := ?_) (a' := ?_) #[true, true, true, true, true, true, true, true, true, true, true, true, true, false, true, true, true, false, false, false] rfl rfl (by kernel_rfl) (fun _ _ _ h => h) (Or.inl ⟨by rfl, ?_⟩) ?_ ?_
      rotate_left
      · intro w'
        go_simp
        with_reducible rfl
      rotate_left
      · simp only [Act.put, List.setIfInBounds_toArray, List.set_cons_zero, List.set_cons_succ, i64_w, i32_w]
        rfl
      refine take_ (i := 17) (N := some 45) (v := ?_) (a' := ?_) #[true, true, true, true, true, true, true, true, true, true, true, true, true, false, true, true, true, true, false, false] rfl rfl (by kernel_rfl) (fun _ _ _ h => h) (Or.inl ⟨by rfl, ?_⟩) hHeld ?_ ?_
      rotate_left
      · rintro w' ⟨s0, s1⟩
        go_simp
        with_reducible rfl
      rotate_left
      · simp only [Act.put, List.setIfInBounds_toArray, List.set_cons_zero, List.set_cons_succ, i64_w, i32_w]
        rfl
      refine one_ (i := 13) (N := some 41) #[true, true, true, true, true, true, true, true, true, true, true, true, true, true, true, true, true, true, false, false] rfl rfl (by kernel_rfl) (by decide) (fun K hK => ?_)
      refine goes_ Try.func9 (by kernel_rfl) rfl #[.pointer (some ⟨g1, 0, none⟩)] (by rfl) rfl rfl (by simp only [List.map_toArray, List.map_cons, List.map_nil]; rfl) ?_
      with_reducible refine (CurP_Err C.out (0) ((t.length : Int)) (0) rfl).mono ?_
      rintro e w7 ⟨rfl, hp7, hk7, hb7⟩
      have HK := Aside0.mk hk7
      have HD := Aside0.mk hb7
      have HS := Aside0.mk C.out.blk
      have HN := Aside0.mk hp7
      clear hk7 hb7 hp7
      have U_ := Aside0.mk (C_keep U.out HS.out HK.out)
      clear U
      have U := U_
      clear U_
      have C_ := Aside0.mk (HN.out)
      clear C
      have C := C_
      clear C_
      have X_ := Aside0.mk (CurR.keep X.out HS.out HK.out (by have := HLT.out; omega))
      clear X
      have X := X_
      clear X_
      have V1_ := Aside0.mk (Kd.R_mono (Kd.R_keep (Kd.R_mono (Kd.R_bound V1.out) (fun _ hk_ => hk_.2.1)) HK.out (fun k_ hk_ => by (have := HLT.out; have := HGX.out; omega))) (fun _ _ => trivial))
      clear V1
      have V1 := V1_
      clear V1_
      have HB_ := Aside0.mk (below_keep HB.out HD.out HG1.out)
      clear HB HD HK HS HN
      have HB := HB_
      clear HB_
      refine ⟨_, rfl, ?_⟩
      refine hK.out _ _ ⟨(CurR.cellE X.out), (CurR.cellP X.out)⟩ (fun hHeld => ?_)
      clear hK K
      refine norm_ (a' := ?_) ?_ ?_
      rotate_left
      · show Act.put _ (some 41) _ = _
        simp only [Act.put, List.setIfInBounds_toArray, List.set_cons_zero, List.set_cons_succ, i64_w, i32_w]
        rfl
      refine pure_ (i := 18) (N := some 46) (v := ?_) (a' := ?_) #[true, true, true, true, true, true, true, true, true, true, true, true, true, true, true, true, true, true, true, false] rfl rfl (by kernel_rfl) (fun _ _ _ h => h) (Or.inl ⟨by rfl, ?_⟩) ?_ ?_
      rotate_left
      · intro w'
        go_simp
        with_reducible rfl
      rotate_left
      · simp only [Act.put, List.setIfInBounds_toArray, List.set_cons_zero, List.set_cons_succ, i64_w, i32_w]
        rfl
      refine pure_ (i := 19) (N := some 47) (v := ?_) (a' := ?_) #[true, true, true, true, true, true, true, true, true, true, true, true, true, true, true, true, true, true, true, true] rfl rfl (by kernel_rfl) (fun _ _ _ h => h) (Or.inl ⟨by rfl, ?_⟩) ?_ ?_
      rotate_left
      · intro w'
        go_simp
        with_reducible rfl
      rotate_left
      · simp only [Act.put, List.setIfInBounds_toArray, List.set_cons_zero, List.set_cons_succ, i64_w, i32_w]
        rfl
      refine done_ (by kernel_rfl) ?_
      go_wp2_with fail
      refine (CurP_Err C.out (0) ((t.length : Int)) (0) rfl).mono ?_
      rintro e w8 ⟨rfl, hp8, hk8, hb8⟩
      have HK := Aside0.mk hk8
      have HD := Aside0.mk hb8
      have HS := Aside0.mk C.out.blk
      have HN := Aside0.mk hp8
      clear hk8 hb8 hp8
      have U_ := Aside0.mk (C_keep U.out HS.out HK.out)
      clear U
      have U := U_
      clear U_
      have C_ := Aside0.mk (HN.out)
      clear C
      have C := C_
      clear C_
      have X_ := Aside0.mk (CurR.keep X.out HS.out HK.out (by have := HLT.out; omega))
      clear X
      have X := X_
      clear X_
      have V1_ := Aside0.mk (Kd.R_mono (Kd.R_keep (Kd.R_mono (Kd.R_bound V1.out) (fun _ hk_ => hk_.2.1)) HK.out (fun k_ hk_ => by (have := HLT.out; have := HGX.out; omega))) (fun _ _ => trivial))
      clear V1
      have V1 := V1_
      clear V1_
      have HB_ := Aside0.mk (below_keep HB.out HD.out HG1.out)
      clear HB HD HK HS HN
      have HB := HB_
      clear HB_
      go_wp2_with fail
      refine (vector_Put.calls 101 none 0 ([] : List Int) A2 c2 v t 0 w8 (Kd.C_nil _ _) (by decide) (Kd.R_reads' V1.out).2.2 (Kd.R_reads' V1.out).2.1 k1_.out).mono ?_
      rintro e w9 ⟨v9, rfl, hv9, hb9⟩
      have HD : Aside0 (Below w8.heap.size w8 w9) := ⟨below_step (Below.refl _ _) hb9⟩
      clear hb9
      have U_ := Aside0.mk (Kd.C_below U.out HD.out)
      clear U
      have U := U_
      clear U_
      have C_ := Aside0.mk (CurP.below C.out HD.out)
      clear C
      have C := C_
      clear C_
      have X_ := Aside0.mk (CurR.below X.out HD.out)
      clear X
      have X := X_
      clear X_
      have V1_ := Aside0.mk (Kd.R_below V1.out HD.out)
      clear V1
      have V1 := V1_
      clear V1_
      have HB_ := Aside0.mk (below_step HB.out HD.out)
      clear HB HD
      have HB := HB_
      clear HB_
      obtain ⟨A9, c9, ev9⟩ := Kd.R_slice hv9
      subst ev9
      have PBc := Aside0.mk (Kd.R_reads' hv9).2.1
      have PB := Aside0.mk (Kd.R_reads' hv9).2.2
      clear hv9
      clear V1
      have hcp := CurR.cellP X.out
      have hcut := hcut_to t.length A0 b.length c0 hml_.out Uc.out
      go_wp2_with fail
      clear hcp hcut
      have CB := Aside0.mk (show (Kd.int .u8).C w9 A0 t.length t by have h_ := Kd.C_take (m := t.length) U.out hml_.out; rw [← et_.out] at h_; exact h_)
      have CBc := Aside0.mk (show t.length ≤ c0 by have := hml_.out; have := Uc.out; omega)
      refine (liveryref01_Same.calls 1001 A9 c9 t A0 c0 t true w9 (PB.out) PBc.out (CB.out) CBc.out k2_.out).mono ?_
      rintro e w_ ⟨rfl, ⟨n10, rfl⟩⟩
      obtain ⟨w10, e10⟩ : ∃ W_ : World, W_ = World.drewN w9 n10 := ⟨_, rfl⟩
      have HD : Aside0 (Below w9.heap.size w9 w10) := ⟨by rw [e10]; exact pw_below_drewN (Below.refl _ _) _⟩
      rw [← e10]
      clear e10
      have U_ := Aside0.mk (Kd.C_below U.out HD.out)
      clear U
      have U := U_
      clear U_
      have C_ := Aside0.mk (CurP.below C.out HD.out)
      clear C
      have C := C_
      clear C_
      have X_ := Aside0.mk (CurR.below X.out HD.out)
      clear X
      have X := X_
      clear X_
      have PB_ := Aside0.mk (Kd.C_below PB.out HD.out)
      clear PB
      have PB := PB_
      clear PB_
      have CB_ := Aside0.mk (Kd.C_below CB.out HD.out)
      clear CB
      have CB := CB_
      clear CB_
      have HB_ := Aside0.mk (below_step HB.out HD.out)
      clear HB HD
      have HB := HB_
      clear HB_
      go_wp2_with fail
      refine (liverylaw10_lives.calls (true) w10  rfl).mono ?_
      rintro e w11 ⟨rfl, hb11⟩
      have HD : Aside0 (Below w10.heap.size w10 w11) := ⟨below_step (Below.refl _ _) hb11⟩
      clear hb11
      have U_ := Aside0.mk (Kd.C_below U.out HD.out)
      clear U
      have U := U_
      clear U_
      have C_ := Aside0.mk (CurP.below C.out HD.out)
      clear C
      have C := C_
      clear C_
      have X_ := Aside0.mk (CurR.below X.out HD.out)
      clear X
      have X := X_
      clear X_
      have PB_ := Aside0.mk (Kd.C_below PB.out HD.out)
      clear PB
      have PB := PB_
      clear PB_
      have CB_ := Aside0.mk (Kd.C_below CB.out HD.out)
      clear CB
      have CB := CB_
      clear CB_
      have HB_ := Aside0.mk (below_step HB.out HD.out)
      clear HB HD
      have HB := HB_
      clear HB_
      go_wp2_with fail
      go_ret
      exact ⟨rfl, HB.out⟩
    · skip
      clear hput
      have heb : decide (e = 0) = false := decide_eq_false he
      have hec : (e == 0) = false := beq_eq_false_iff_ne.2 he
      clear he
      clear hb hok
      have Uc : Aside0 (b.length ≤ c0) := ⟨by have := L0c.out; have := hb_.out; omega⟩
      have U : Aside0 ((Kd.int .u8).C w A0 b.length b) := ⟨by rw [eb]; exact Kd.C_take (m := 200) L0.out (by omega)⟩
      obtain ⟨i06, hi06, _, _, _⟩ := info_parts hinfo5
      have hcut := cut_to (P := Try.prog) 22 5 .i64 Try.underlying22 hi06 A0 l0.length c0 200 (by decide) (by omega) L0c.out
      rw [show Int.toNat 200 = b.length by rw [eb, List.length_take]; simp; omega] at hcut
      clear hi06 eb
      have c20b : decide ((200 : Int) < (l0.length : Int)) = true := decide_eq_true c20
      clear c20
      clear hr0 hc0 w0 L0 L0c
      go_enter Try.func3, Try.ntmps3
      have HB := Aside0.mk (Below.refl w.heap.size w)
      go_wp2_with fail
      clear hcut
      refine (wire_New.calls A0 c0 b w (U.out) (by have := hb_.out; omega)).mono ?_
      rintro e w1 ⟨g1, rfl, hg1, hn1, hb1⟩
      have HD : Aside0 (Below w.heap.size w w1) := ⟨below_step (Below.refl _ _) hb1⟩
      clear hb1
      have HG1 : Aside0 (w.heap.size ≤ g1) := ⟨by have := HB.out.size; (try simp at hg1); omega⟩
      have HX1 : Aside0 (w.heap.size ≤ g1) := ⟨by (try simp at hg1); omega⟩
      clear hg1
      have U_ := Aside0.mk (Kd.C_below U.out HD.out)
      clear U
      have U := U_
      clear U_
      have HB_ := Aside0.mk (below_step HB.out HD.out)
      clear HB HD
      have HB := HB_
      clear HB_
      have C := Aside0.mk hn1
      clear hn1
      go_wp2_with fail
      obtain ⟨W7, eW⟩ : ∃ W7, W7 = w1.alloc (.cells #[.slice A0 b.length c0, .int .i64 0, .int .i64 0] 28) := ⟨_, rfl⟩
      rw [← eW]
      obtain ⟨gx, eg⟩ : ∃ gx, gx = w1.heap.size := ⟨_, rfl⟩
      rw [← eg]
      have X : Aside0 (CurR W7 gx b 0 0) := ⟨by rw [eW, eg]; exact CurR.new w1 A0 c0 b 0 0 U.out Uc.out⟩
      have C_ : Aside0 (CurP W7 g1 b 0 0) := ⟨by rw [eW]; exact CurP.below C.out (below_alloc (Below.refl _ _) _)⟩
      have U_ : Aside0 ((Kd.int .u8).C W7 A0 b.length b) := ⟨by rw [eW]; exact Kd.C_alloc U.out _⟩
      have HB_ : Aside0 (Below w.heap.size w W7) := ⟨by rw [eW]; exact below_alloc HB.out _⟩
      have HLT : Aside0 (g1 < gx) := ⟨by rw [eg]; exact C.out.lt⟩
      have HX2 : Aside0 (w.heap.size ≤ gx) := ⟨by rw [eg]; exact HB.out.size⟩
      have HGX : Aside0 (gx < W7.heap.size) := ⟨X.out.lt⟩
      clear HB C U eW eg
      have HB := HB_
      have C := C_
      have U := U_
      clear HB_ C_ U_
      refine (CurP_VRead C.out 100  (v) (p) (e) h1_.out).mono ?_
      rintro e w2 ⟨v2, rfl, hv2, hp2, hk2, hb2⟩
      have HK := Aside0.mk hk2
      have HD := Aside0.mk hb2
      have HS := Aside0.mk C.out.blk
      have HN := Aside0.mk hp2
      have V1 := Aside0.mk hv2
      clear hk2 hb2 hp2 hv2
      have U_ := Aside0.mk (C_keep U.out HS.out HK.out)
      clear U
      have U := U_
      clear U_
      have C_ := Aside0.mk (HN.out)
      clear C
      have C := C_
      clear C_
      have X_ := Aside0.mk (CurR.keep X.out HS.out HK.out (by have := HLT.out; omega))
      clear X
      have X := X_
      clear X_
      have HB_ := Aside0.mk (below_keep HB.out HD.out HG1.out)
      clear HB HD HK HS HN
      have HB := HB_
      clear HB_
      obtain ⟨A2, c2, ev2⟩ := Kd.R_slice V1.out
      subst ev2
      go_wp2_with fail
      refine (CurR_VRead X.out 100  (v) (p) (e) h2_.out).mono ?_
      rintro e w3 ⟨v3, rfl, hv3, hp3, hk3, hb3⟩
      have HK := Aside0.mk hk3
      have HD := Aside0.mk hb3
      have HS := Aside0.mk X.out.blk
      have HN := Aside0.mk hp3
      have V2 := Aside0.mk hv3
      clear hk3 hb3 hp3 hv3
      have U_ := Aside0.mk (C_keep U.out HS.out HK.out)
      clear U
      have U := U_
      clear U_
      have C_ := Aside0.mk (CurP.keep C.out HS.out HK.out (by have := HLT.out; omega))
      clear C
      have C := C_
      clear C_
      have X_ := Aside0.mk (HN.out)
      clear X
      have X := X_
      clear X_
      have V1_ := Aside0.mk (Kd.R_mono (Kd.R_keep (Kd.R_mono (Kd.R_bound V1.out) (fun _ hk_ => hk_.2.1)) HK.out (fun k_ hk_ => by (have := HGX.out; omega))) (fun _ _ => trivial))
      clear V1
      have V1 := V1_
      clear V1_
      have HB_ := Aside0.mk (below_keep HB.out HD.out HX2.out)
      clear HB HD HK HS HN
      have HB := HB_
      clear HB_
      obtain ⟨A3, c3, ev3⟩ := Kd.R_slice V2.out
      subst ev3
      go_wp2_with fail
      refine (liveryref10_Same.calls 100 A2 c2 v A3 c3 v true w3 (Kd.R_reads' V1.out).2.2 (Kd.R_reads' V1.out).2.1 (Kd.R_reads' V2.out).2.2 (Kd.R_reads' V2.out).2.1 hs_.out).mono ?_
      rintro e w_ ⟨rfl, ⟨n4, rfl⟩⟩
      obtain ⟨w4, e4⟩ : ∃ W_ : World, W_ = World.drewN w3 n4 := ⟨_, rfl⟩
      have HD : Aside0 (Below w3.heap.size w3 w4) := ⟨by rw [e4]; exact pw_below_drewN (Below.refl _ _) _⟩
      rw [← e4]
      clear e4
      have U_ := Aside0.mk (Kd.C_below U.out HD.out)
      clear U
      have U := U_
      clear U_
      have C_ := Aside0.mk (CurP.below C.out HD.out)
      clear C
      have C := C_
      clear C_
      have X_ := Aside0.mk (CurR.below X.out HD.out)
      clear X
      have X := X_
      clear X_
      have V1_ := Aside0.mk (Kd.R_below V1.out HD.out)
      clear V1
      have V1 := V1_
      clear V1_
      have V2_ := Aside0.mk (Kd.R_below V2.out HD.out)
      clear V2
      have V2 := V2_
      clear V2_
      have HB_ := Aside0.mk (below_step HB.out HD.out)
      clear HB HD
      have HB := HB_
      clear HB_
      go_wp2_with fail
      clear V2
      have HD : Aside0 (Below w4.heap.size w4 w4.drew) := ⟨below_drew1 (Below.refl _ _)⟩
      have U_ := Aside0.mk (Kd.C_below U.out HD.out)
      clear U
      have U := U_
      clear U_
      have C_ := Aside0.mk (CurP.below C.out HD.out)
      clear C
      have C := C_
      clear C_
      have X_ := Aside0.mk (CurR.below X.out HD.out)
      clear X
      have X := X_
      clear X_
      have V1_ := Aside0.mk (Kd.R_below V1.out HD.out)
      clear V1
      have V1 := V1_
      clear V1_
      have HB_ := Aside0.mk (below_step HB.out HD.out)
      clear HB HD
      have HB := HB_
      clear HB_
      refine start_ (n := 20) (S := fun w' => w'.cell? ⟨gx, 2, none⟩ = some (.int .i64 e) ∧ w'.cell? ⟨gx, 1, none⟩ = some (.int .i64 p)) (ds := []) #[false, false, false, false, false, false, false, false, false, false, false, false, false, false, false, false, false, false, false, false] (by kernel_rfl) rfl rfl ⟨(CurR.cellE X.out), (CurR.cellP X.out)⟩ (fun hHeld => ?_)
      generalize w4.drew = wd5 at *
      refine pure_ (i := 0) (N := some 28) (v := ?_) (a' := ?_) #[true, false, false, false, false, false, false, false, false, false, false, false, false, false, false, false, false, false, false, false] rfl rfl (by kernel_rfl) (fun _ _ _ h => h) (Or.inl ⟨by rfl, ?_⟩) ?_ ?_
      rotate_left
      · intro w'
        go_simp
        with_reducible rfl
      rotate_left
      · simp only [Act.put, List.setIfInBounds_toArray, List.set_cons_zero, List.set_cons_succ, i64_w, i32_w]
        rfl
      refine pure_ (i := 1) (N := some 29) (v := ?_) (a' := ?_) #[true, true, false, false, false, false, false, false, false, false, false, false, false, false, false, false, false, false, false, false] rfl rfl (by kernel_rfl) (fun _ _ _ h => h) (Or.inl ⟨by rfl, ?_⟩) ?_ ?_
      rotate_left
      · intro w'
        go_simp
        with_reducible rfl
      rotate_left
      · simp only [Act.put, List.setIfInBounds_toArray, List.set_cons_zero, List.set_cons_succ, i64_w, i32_w]
        rfl
      refine pure_ (i := 2) (N := some 30) (v := ?_) (a' := ?_) #[true, true, true, false, false, false, false, false, false, false, false, false, false, false, false, false, false, false, false, false] rfl rfl (by kernel_rfl) (fun _ _ _ h => h) (Or.inl ⟨by rfl, ?_⟩) ?_ ?_
      rotate_left
      · intro w'
        go_simp
        with_reducible rfl
      rotate_left
      · simp only [Act.put, List.setIfInBounds_toArray, List.set_cons_zero, List.set_cons_succ, i64_w, i32_w]
        rfl
      refine pure_ (i := 3) (N := some 31) (v := ?_) (a' := ?_) #[true, true, true, true, false, false, false, false, false, false, false, false, false, false, false, false, false, false, false, false] rfl rfl (by kernel_rfl) (fun _ _ _ h => h) (Or.inl ⟨by rfl, ?_⟩) ?_ ?_
      rotate_left
      · intro w'
        go_simp
        with_reducible rfl
      rotate_left
      · simp only [Act.put, List.setIfInBounds_toArray, List.set_cons_zero, List.set_cons_succ, i64_w, i32_w]
        rfl
      refine pure_ (i := 5) (N := some 33) (v := ?_) (a' := ?_) #[true, true, true, true, false, true, false, false, false, false, false, false, false, false, false, false, false, false, false, false] rfl rfl (by kernel_rfl) (fun _ _ _ h => h) (Or.inl ⟨by rfl, ?_⟩) ?_ ?_
      rotate_left
      · intro w'
        go_simp
        with_reducible rfl
      rotate_left
      · simp only [Act.put, List.setIfInBounds_toArray, List.set_cons_zero, List.set_cons_succ, i64_w, i32_w]
        rfl
      refine pure_ (i := 6) (N := some 34) (v := ?_) (a' := ?_) #[true, true, true, true, false, true, true, false, false, false, false, false, false, false, false, false, false, false, false, false] rfl rfl (by kernel_rfl) (fun _ _ _ h => h) (Or.inl ⟨by rfl, ?_⟩) ?_ ?_
      rotate_left
      · intro w'
        go_simp
        with_reducible rfl
      rotate_left
      · simp only [Act.put, List.setIfInBounds_toArray, List.set_cons_zero, List.set_cons_succ, i64_w, i32_w]
        rfl
      refine pure_ (i := 7) (N := some 35) (v := ?_) (a' := ?_) #[true, true, true, true, false, true, true, true, false, false, false, false, false, false, false, false, false, false, false, false] rfl rfl (by kernel_rfl) (fun _ _ _ h => h) (Or.inl ⟨by rfl, ?_⟩) ?_ ?_
      rotate_left
      · intro w'
        go_simp
        with_reducible rfl
      rotate_left
      · simp only [Act.put, List.setIfInBounds_toArray, List.set_cons_zero, List.set_cons_succ, i64_w, i32_w]
        rfl
      refine take_ (i := 8) (N := some 36) (v := ?_) (a' := ?_) #[true, true, true, true, false, true, true, true, true, false, false, false, false, false, false, false, false, false, false, false] rfl rfl (by kernel_rfl) (fun _ _ _ h => h) (Or.inl ⟨by rfl, ?_⟩) hHeld ?_ ?_
      rotate_left
      · rintro w' ⟨s0, s1⟩
        go_simp
        with_reducible rfl
      rotate_left
      · simp only [Act.put, List.setIfInBounds_toArray, List.set_cons_zero, List.set_cons_succ, i64_w, i32_w]
        rfl
      refine one_ (i := 4) (N := some 32) #[true, true, true, true, true, true, true, true, true, false, false, false, false, false, false, false, false, false, false, false] rfl rfl (by kernel_rfl) (by decide) (fun K hK => ?_)
      refine goes_ Try.func8 (by kernel_rfl) rfl #[.pointer (some ⟨g1, 0, none⟩)] (by rfl) rfl rfl (by simp only [List.map_toArray, List.map_cons, List.map_nil]; rfl) ?_
      with_reducible refine (CurP_Place C.out (p) (p) (e) rfl).mono ?_
      rintro e w6 ⟨rfl, hp6, hk6, hb6⟩
      have HK := Aside0.mk hk6
      have HD := Aside0.mk hb6
      have HS := Aside0.mk C.out.blk
      have HN := Aside0.mk hp6
      clear hk6 hb6 hp6
      have U_ := Aside0.mk (C_keep U.out HS.out HK.out)
      clear U
      have U := U_
      clear U_
      have C_ := Aside0.mk (HN.out)
      clear C
      have C := C_
      clear C_
      have X_ := Aside0.mk (CurR.keep X.out HS.out HK.out (by have := HLT.out; omega))
      clear X
      have X := X_
      clear X_
      have V1_ := Aside0.mk (Kd.R_mono (Kd.R_keep (Kd.R_mono (Kd.R_bound V1.out) (fun _ hk_ => hk_.2.1)) HK.out (fun k_ hk_ => by (have := HLT.out; have := HGX.out; omega))) (fun _ _ => trivial))
      clear V1
      have V1 := V1_
      clear V1_
      have HB_ := Aside0.mk (below_keep HB.out HD.out HG1.out)
      clear HB HD HK HS HN
      have HB := HB_
      clear HB_
      refine ⟨_, rfl, ?_⟩
      refine hK.out _ _ ⟨(CurR.cellE X.out), (CurR.cellP X.out)⟩ (fun hHeld => ?_)
      clear hK K
      refine norm_ (a' := ?_) ?_ ?_
      rotate_left
      · show Act.put _ (some 32) _ = _
        simp only [Act.put, List.setIfInBounds_toArray, List.set_cons_zero, List.set_cons_succ, i64_w, i32_w]
        rfl
      refine pure_ (i := 9) (N := some 37) (v := ?_) (a' := ?_) #[true, true, true, true, true, true, true, true, true, true, false, false, false, false, false, false, false, false, false, false] rfl rfl (by kernel_rfl) (fun _ _ _ h => h) (Or.inl ⟨by rfl, ?_⟩) ?_ ?_
      rotate_left
      · intro w'
        go_simp
        with_reducible rfl
      rotate_left
      · simp only [Act.put, List.setIfInBounds_toArray, List.set_cons_zero, List.set_cons_succ, i64_w, i32_w]
        rfl
      refine pure_ (i := 10) (N := some 38) (v := ?_) (a' := ?_) #[true, true, true, true, true, true, true, true, true, true, true, false, false, false, false, false, false, false, false, false] rfl rfl (by kernel_rfl) (fun _ _ _ h => h) (Or.inl ⟨by rfl, ?_⟩) ?_ ?_
      rotate_left
      · intro w'
        go_simp
        with_reducible rfl
      rotate_left
      · simp only [Act.put, List.setIfInBounds_toArray, List.set_cons_zero, List.set_cons_succ, i64_w, i32_w]
        rfl
      refine pure_ (i := 11) (N := some 39) (v := ?_) (a' := ?_) #[true, true, true, true, true, true, true, true, true, true, true, true, false, false, false, false, false, false, false, false] rfl rfl (by kernel_rfl) (fun _ _ _ h => h) (Or.inl ⟨by rfl, ?_⟩) ?_ ?_
      rotate_left
      · intro w'
        go_simp
        with_reducible rfl
      rotate_left
      · simp only [Act.put, List.setIfInBounds_toArray, List.set_cons_zero, List.set_cons_succ, i64_w, i32_w]
        rfl
      refine pure_ (i := 12) (N := some 40) (v := ?_) (a' := ?_) #[true, true, true, true, true, true, true, true, true, true, true, true, true, false, false, false, false, false, false, false] rfl rfl (by kernel_rfl) (fun _ _ _ h => h) (Or.inl ⟨by rfl, ?_⟩) ?_ ?_
      rotate_left
      · intro w'
        go_simp
        with_reducible rfl
      rotate_left
      · simp only [Act.put, List.setIfInBounds_toArray, List.set_cons_zero, List.set_cons_succ, i64_w, i32_w]
        rfl
      refine pure_ (i := 14) (N := some 42) (v := ?_) (a' := ?_) #[true, true, true, true, true, true, true, true, true, true, true, true, true, false, true, false, false, false, false, false] rfl rfl (by kernel_rfl) (fun _ _ _ h => h) (Or.inl ⟨by rfl, ?_⟩) ?_ ?_
      rotate_left
      · intro w'
        go_simp
        with_reducible rfl
      rotate_left
      · simp only [Act.put, List.setIfInBounds_toArray, List.set_cons_zero, List.set_cons_succ, i64_w, i32_w]
        rfl
      refine pure_ (i := 15) (N := some 43) (v := ?_) (a' := ?_) #[true, true, true, true, true, true, true, true, true, true, true, true, true, false, true, true, false, false, false, false] rfl rfl (by kernel_rfl) (fun _ _ _ h => h) (Or.inl ⟨by rfl, ?_⟩) ?_ ?_
      rotate_left
      · intro w'
        go_simp
        with_reducible rfl
      rotate_left
      · simp only [Act.put, List.setIfInBounds_toArray, List.set_cons_zero, List.set_cons_succ, i64_w, i32_w]
        rfl
      refine pure_ (i := 16) (N := some 44) (v := ?_) (a' := ?_) #[true, true, true, true, true, true, true, true, true, true, true, true, true, false, true, true, true, false, false, false] rfl rfl (by kernel_rfl) (fun _ _ _ h => h) (Or.inl ⟨by rfl, ?_⟩) ?_ ?_
      rotate_left
      · intro w'
        go_simp
        with_reducible rfl
      rotate_left
      · simp only [Act.put, List.setIfInBounds_toArray, List.set_cons_zero, List.set_cons_succ, i64_w, i32_w]
        rfl
      refine take_ (i := 17) (N := some 45) (v := ?_) (a' := ?_) #[true, true, true, true, true, true, true, true, true, true, true, true, true, false, true, true, true, true, false, false] rfl rfl (by kernel_rfl) (fun _ _ _ h => h) (Or.inl ⟨by rfl, ?_⟩) hHeld ?_ ?_
      rotate_left
      · rintro w' ⟨s0, s1⟩
        go_simp
        with_reducible rfl
      rotate_left
      · simp only [Act.put, List.setIfInBounds_toArray, List.set_cons_zero, List.set_cons_succ, i64_w, i32_w]
        rfl
      refine one_ (i := 13) (N := some 41) #[true, true, true, true, true, true, true, true, true, true, true, true, true, true, true, true, true, true, false, false] rfl rfl (by kernel_rfl) (by decide) (fun K hK => ?_)
      refine goes_ Try.func9 (by kernel_rfl) rfl #[.pointer (some ⟨g1, 0, none⟩)] (by rfl) rfl rfl (by simp only [List.map_toArray, List.map_cons, List.map_nil]; rfl) ?_
      with_reducible refine (CurP_Err C.out (e) (p) (e) rfl).mono ?_
      rintro e w7 ⟨rfl, hp7, hk7, hb7⟩
      have HK := Aside0.mk hk7
      have HD := Aside0.mk hb7
      have HS := Aside0.mk C.out.blk
      have HN := Aside0.mk hp7
      clear hk7 hb7 hp7
      have U_ := Aside0.mk (C_keep U.out HS.out HK.out)
      clear U
      have U := U_
      clear U_
      have C_ := Aside0.mk (HN.out)
      clear C
      have C := C_
      clear C_
      have X_ := Aside0.mk (CurR.keep X.out HS.out HK.out (by have := HLT.out; omega))
      clear X
      have X := X_
      clear X_
      have V1_ := Aside0.mk (Kd.R_mono (Kd.R_keep (Kd.R_mono (Kd.R_bound V1.out) (fun _ hk_ => hk_.2.1)) HK.out (fun k_ hk_ => by (have := HLT.out; have := HGX.out; omega))) (fun _ _ => trivial))
      clear V1
      have V1 := V1_
      clear V1_
      have HB_ := Aside0.mk (below_keep HB.out HD.out HG1.out)
      clear HB HD HK HS HN
      have HB := HB_
      clear HB_
      refine ⟨_, rfl, ?_⟩
      refine hK.out _ _ ⟨(CurR.cellE X.out), (CurR.cellP X.out)⟩ (fun hHeld => ?_)
      clear hK K
      refine norm_ (a' := ?_) ?_ ?_
      rotate_left
      · show Act.put _ (some 41) _ = _
        simp only [Act.put, List.setIfInBounds_toArray, List.set_cons_zero, List.set_cons_succ, i64_w, i32_w]
        rfl
      refine pure_ (i := 18) (N := some 46) (v := ?_) (a' := ?_) #[true, true, true, true, true, true, true, true, true, true, true, true, true, true, true, true, true, true, true, false] rfl rfl (by kernel_rfl) (fun _ _ _ h => h) (Or.inl ⟨by rfl, ?_⟩) ?_ ?_
      rotate_left
      · intro w'
        go_simp
        with_reducible rfl
      rotate_left
      · simp only [Act.put, List.setIfInBounds_toArray, List.set_cons_zero, List.set_cons_succ, i64_w, i32_w]
        rfl
      refine pure_ (i := 19) (N := some 47) (v := ?_) (a' := ?_) #[true, true, true, true, true, true, true, true, true, true, true, true, true, true, true, true, true, true, true, true] rfl rfl (by kernel_rfl) (fun _ _ _ h => h) (Or.inl ⟨by rfl, ?_⟩) ?_ ?_
      rotate_left
      · intro w'
        go_simp
        with_reducible rfl
      rotate_left
      · simp only [Act.put, List.setIfInBounds_toArray, List.set_cons_zero, List.set_cons_succ, i64_w, i32_w]
        rfl
      refine done_ (by kernel_rfl) ?_
      go_wp2_with fail
      refine (CurP_Err C.out (e) (p) (e) rfl).mono ?_
      rintro e w8 ⟨rfl, hp8, hk8, hb8⟩
      have HK := Aside0.mk hk8
      have HD := Aside0.mk hb8
      have HS := Aside0.mk C.out.blk
      have HN := Aside0.mk hp8
      clear hk8 hb8 hp8
      have U_ := Aside0.mk (C_keep U.out HS.out HK.out)
      clear U
      have U := U_
      clear U_
      have C_ := Aside0.mk (HN.out)
      clear C
      have C := C_
      clear C_
      have X_ := Aside0.mk (CurR.keep X.out HS.out HK.out (by have := HLT.out; omega))
      clear X
      have X := X_
      clear X_
      have V1_ := Aside0.mk (Kd.R_mono (Kd.R_keep (Kd.R_mono (Kd.R_bound V1.out) (fun _ hk_ => hk_.2.1)) HK.out (fun k_ hk_ => by (have := HLT.out; have := HGX.out; omega))) (fun _ _ => trivial))
      clear V1
      have V1 := V1_
      clear V1_
      have HB_ := Aside0.mk (below_keep HB.out HD.out HG1.out)
      clear HB HD HK HS HN
      have HB := HB_
      clear HB_
      go_wp2_with fail
      refine (liverylaw10_lives.calls (true) w8  rfl).mono ?_
      rintro e w9 ⟨rfl, hb9⟩
      have HD : Aside0 (Below w8.heap.size w8 w9) := ⟨below_step (Below.refl _ _) hb9⟩
      clear hb9
      have U_ := Aside0.mk (Kd.C_below U.out HD.out)
      clear U
      have U := U_
      clear U_
      have C_ := Aside0.mk (CurP.below C.out HD.out)
      clear C
      have C := C_
      clear C_
      have X_ := Aside0.mk (CurR.below X.out HD.out)
      clear X
      have X := X_
      clear X_
      have V1_ := Aside0.mk (Kd.R_below V1.out HD.out)
      clear V1
      have V1 := V1_
      clear V1_
      have HB_ := Aside0.mk (below_step HB.out HD.out)
      clear HB HD
      have HB := HB_
      clear HB_
      go_wp2_with fail
      go_ret
      exact ⟨rfl, HB.out⟩
  · by_cases he : e = 0
    · skip
      subst he
      obtain ⟨q1, q2⟩ := hput rfl
      rw [show (0 : Int).toNat = 0 from rfl, List.take_zero, List.nil_append] at q2
      obtain ⟨m, em⟩ : ∃ m : Nat, p = (m : Int) := ⟨p.toNat, by have := hp_.out; omega⟩
      subst em
      rw [Int.toNat_natCast] at q2
      have hml : m ≤ b.length := by have := hp_.out; omega
      have k1 := prog_Put 101 [] v (by simp) (by have := hl_.out; omega) (fun x hx => by have := hr_.out x hx; omega) (by omega)
      rw [if_pos q1, List.nil_append, ← q2] at k1
      have hm2 : (b.take m).length = m := by rw [List.length_take]; omega
      obtain ⟨t, et⟩ : ∃ t, t = b.take m := ⟨_, rfl⟩
      rw [← et] at k1 hm2
      subst hm2
      have k2 : liveryref01_Same.f 1001 t t = some true := by rw [ref01_Same 1001 t t (by have := hb_.out; omega) (by have := hb_.out; omega)]; simp
      have k1_ := Aside0.mk k1
      have k2_ := Aside0.mk k2
      have et_ := Aside0.mk et
      have hml_ := Aside0.mk hml
      clear k1 k2 et hml q1 q2 hput
      clear hb hok
      have e0 : b = l0 := by rw [eb]; exact List.take_of_length_le (by omega)
      clear eb
      subst e0
      have U := L0
      have Uc := L0c
      have c20b : decide ((200 : Int) < (b.length : Int)) = false := decide_eq_false c20
      clear c20
      clear hr0 hc0 w0 L0 L0c
      go_enter Try.func3, Try.ntmps3
      have HB := Aside0.mk (Below.refl w.heap.size w)
      go_wp2_with fail
      refine (wire_New.calls A0 c0 b w (U.out) (by have := hb_.out; omega)).mono ?_
      rintro e w1 ⟨g1, rfl, hg1, hn1, hb1⟩
      have HD : Aside0 (Below w.heap.size w w1) := ⟨below_step (Below.refl _ _) hb1⟩
      clear hb1
      have HG1 : Aside0 (w.heap.size ≤ g1) := ⟨by have := HB.out.size; (try simp at hg1); omega⟩
      have HX1 : Aside0 (w.heap.size ≤ g1) := ⟨by (try simp at hg1); omega⟩
      clear hg1
      have U_ := Aside0.mk (Kd.C_below U.out HD.out)
      clear U
      have U := U_
      clear U_
      have HB_ := Aside0.mk (below_step HB.out HD.out)
      clear HB HD
      have HB := HB_
      clear HB_
      have C := Aside0.mk hn1
      clear hn1
      go_wp2_with fail
      obtain ⟨W7, eW⟩ : ∃ W7, W7 = w1.alloc (.cells #[.slice A0 b.length c0, .int .i64 0, .int .i64 0] 28) := ⟨_, rfl⟩
      rw [← eW]
      obtain ⟨gx, eg⟩ : ∃ gx, gx = w1.heap.size := ⟨_, rfl⟩
      rw [← eg]
      have X : Aside0 (CurR W7 gx b 0 0) := ⟨by rw [eW, eg]; exact CurR.new w1 A0 c0 b 0 0 U.out Uc.out⟩
      have C_ : Aside0 (CurP W7 g1 b 0 0) := ⟨by rw [eW]; exact CurP.below C.out (below_alloc (Below.refl _ _) _)⟩
      have U_ : Aside0 ((Kd.int .u8).C W7 A0 b.length b) := ⟨by rw [eW]; exact Kd.C_alloc U.out _⟩
      have HB_ : Aside0 (Below w.heap.size w W7) := ⟨by rw [eW]; exact below_alloc HB.out _⟩
      have HLT : Aside0 (g1 < gx) := ⟨by rw [eg]; exact C.out.lt⟩
      have HX2 : Aside0 (w.heap.size ≤ gx) := ⟨by rw [eg]; exact HB.out.size⟩
      have HGX : Aside0 (gx < W7.heap.size) := ⟨X.out.lt⟩
      clear HB C U eW eg
      have HB := HB_
      have C := C_
      have U := U_
      clear HB_ C_ U_
      refine (CurP_VRead C.out 100  (v) ((t.length : Int)) (0) h1_.out).mono ?_
      rintro e w2 ⟨v2, rfl, hv2, hp2, hk2, hb2⟩
      have HK := Aside0.mk hk2
      have HD := Aside0.mk hb2
      have HS := Aside0.mk C.out.blk
      have HN := Aside0.mk hp2
      have V1 := Aside0.mk hv2
      clear hk2 hb2 hp2 hv2
      have U_ := Aside0.mk (C_keep U.out HS.out HK.out)
      clear U
      have U := U_
      clear U_
      have C_ := Aside0.mk (HN.out)
      clear C
      have C := C_
      clear C_
      have X_ := Aside0.mk (CurR.keep X.out HS.out HK.out (by have := HLT.out; omega))
      clear X
      have X := X_
      clear X_
      have HB_ := Aside0.mk (below_keep HB.out HD.out HG1.out)
      clear HB HD HK HS HN
      have HB := HB_
      clear HB_
      obtain ⟨A2, c2, ev2⟩ := Kd.R_slice V1.out
      subst ev2
      go_wp2_with fail
      refine (CurR_VRead X.out 100  (v) ((t.length : Int)) (0) h2_.out).mono ?_
      rintro e w3 ⟨v3, rfl, hv3, hp3, hk3, hb3⟩
      have HK := Aside0.mk hk3
      have HD := Aside0.mk hb3
      have HS := Aside0.mk X.out.blk
      have HN := Aside0.mk hp3
      have V2 := Aside0.mk hv3
      clear hk3 hb3 hp3 hv3
      have U_ := Aside0.mk (C_keep U.out HS.out HK.out)
      clear U
      have U := U_
      clear U_
      have C_ := Aside0.mk (CurP.keep C.out HS.out HK.out (by have := HLT.out; omega))
      clear C
      have C := C_
      clear C_
      have X_ := Aside0.mk (HN.out)
      clear X
      have X := X_
      clear X_
      have V1_ := Aside0.mk (Kd.R_mono (Kd.R_keep (Kd.R_mono (Kd.R_bound V1.out) (fun _ hk_ => hk_.2.1)) HK.out (fun k_ hk_ => by (have := HGX.out; omega))) (fun _ _ => trivial))
      clear V1
      have V1 := V1_
      clear V1_
      have HB_ := Aside0.mk (below_keep HB.out HD.out HX2.out)
      clear HB HD HK HS HN
      have HB := HB_
      clear HB_
      obtain ⟨A3, c3, ev3⟩ := Kd.R_slice V2.out
      subst ev3
      go_wp2_with fail
      refine (liveryref10_Same.calls 100 A2 c2 v A3 c3 v true w3 (Kd.R_reads' V1.out).2.2 (Kd.R_reads' V1.out).2.1 (Kd.R_reads' V2.out).2.2 (Kd.R_reads' V2.out).2.1 hs_.out).mono ?_
      rintro e w_ ⟨rfl, ⟨n4, rfl⟩⟩
      obtain ⟨w4, e4⟩ : ∃ W_ : World, W_ = World.drewN w3 n4 := ⟨_, rfl⟩
      have HD : Aside0 (Below w3.heap.size w3 w4) := ⟨by rw [e4]; exact pw_below_drewN (Below.refl _ _) _⟩
      rw [← e4]
      clear e4
      have U_ := Aside0.mk (Kd.C_below U.out HD.out)
      clear U
      have U := U_
      clear U_
      have C_ := Aside0.mk (CurP.below C.out HD.out)
      clear C
      have C := C_
      clear C_
      have X_ := Aside0.mk (CurR.below X.out HD.out)
      clear X
      have X := X_
      clear X_
      have V1_ := Aside0.mk (Kd.R_below V1.out HD.out)
      clear V1
      have V1 := V1_
      clear V1_
      have V2_ := Aside0.mk (Kd.R_below V2.out HD.out)
      clear V2
      have V2 := V2_
      clear V2_
      have HB_ := Aside0.mk (below_step HB.out HD.out)
      clear HB HD
      have HB := HB_
      clear HB_
      go_wp2_with fail
      clear V2
      have HD : Aside0 (Below w4.heap.size w4 w4.drew) := ⟨below_drew1 (Below.refl _ _)⟩
      have U_ := Aside0.mk (Kd.C_below U.out HD.out)
      clear U
      have U := U_
      clear U_
      have C_ := Aside0.mk (CurP.below C.out HD.out)
      clear C
      have C := C_
      clear C_
      have X_ := Aside0.mk (CurR.below X.out HD.out)
      clear X
      have X := X_
      clear X_
      have V1_ := Aside0.mk (Kd.R_below V1.out HD.out)
      clear V1
      have V1 := V1_
      clear V1_
      have HB_ := Aside0.mk (below_step HB.out HD.out)
      clear HB HD
      have HB := HB_
      clear HB_
      refine start_ (n := 20) (S := fun w' => w'.cell? ⟨gx, 2, none⟩ = some (.int .i64 0) ∧ w'.cell? ⟨gx, 1, none⟩ = some (.int .i64 (t.length : Int))) (ds := []) #[false, false, false, false, false, false, false, false, false, false, false, false, false, false, false, false, false, false, false, false] (by kernel_rfl) rfl rfl ⟨(CurR.cellE X.out), (CurR.cellP X.out)⟩ (fun hHeld => ?_)
      generalize w4.drew = wd5 at *
      refine pure_ (i := 0) (N := some 28) (v := ?_) (a' := ?_) #[true, false, false, false, false, false, false, false, false, false, false, false, false, false, false, false, false, false, false, false] rfl rfl (by kernel_rfl) (fun _ _ _ h => h) (Or.inl ⟨by rfl, ?_⟩) ?_ ?_
      rotate_left
      · intro w'
        go_simp
        with_reducible rfl
      rotate_left
      · simp only [Act.put, List.setIfInBounds_toArray, List.set_cons_zero, List.set_cons_succ, i64_w, i32_w]
        rfl
      refine pure_ (i := 1) (N := some 29) (v := ?_) (a' := ?_) #[true, true, false, false, false, false, false, false, false, false, false, false, false, false, false, false, false, false, false, false] rfl rfl (by kernel_rfl) (fun _ _ _ h => h) (Or.inl ⟨by rfl, ?_⟩) ?_ ?_
      rotate_left
      · intro w'
        go_simp
        with_reducible rfl
      rotate_left
      · simp only [Act.put, List.setIfInBounds_toArray, List.set_cons_zero, List.set_cons_succ, i64_w, i32_w]
        rfl
      refine pure_ (i := 2) (N := some 30) (v := ?_) (a' := ?_) #[true, true, true, false, false, false, false, false, false, false, false, false, false, false, false, false, false, false, false, false] rfl rfl (by kernel_rfl) (fun _ _ _ h => h) (Or.inl ⟨by rfl, ?_⟩) ?_ ?_
      rotate_left
      · intro w'
        go_simp
        with_reducible rfl
      rotate_left
      · simp only [Act.put, List.setIfInBounds_toArray, List.set_cons_zero, List.set_cons_succ, i64_w, i32_w]
        rfl
      refine pure_ (i := 3) (N := some 31) (v := ?_) (a' := ?_) #[true, true, true, true, false, false, false, false, false, false, false, false, false, false, false, false, false, false, false, false] rfl rfl (by kernel_rfl) (fun _ _ _ h => h) (Or.inl ⟨by rfl, ?_⟩) ?_ ?_
      rotate_left
      · intro w'
        go_simp
        with_reducible rfl
      rotate_left
      · simp only [Act.put, List.setIfInBounds_toArray, List.set_cons_zero, List.set_cons_succ, i64_w, i32_w]
        rfl
      refine pure_ (i := 5) (N := some 33) (v := ?_) (a' := ?_) #[true, true, true, true, false, true, false, false, false, false, false, false, false, false, false, false, false, false, false, false] rfl rfl (by kernel_rfl) (fun _ _ _ h => h) (Or.inl ⟨by rfl, ?_⟩) ?_ ?_
      rotate_left
      · intro w'
        go_simp
        with_reducible rfl
      rotate_left
      · simp only [Act.put, List.setIfInBounds_toArray, List.set_cons_zero, List.set_cons_succ, i64_w, i32_w]
        rfl
      refine pure_ (i := 6) (N := some 34) (v := ?_) (a' := ?_) #[true, true, true, true, false, true, true, false, false, false, false, false, false, false, false, false, false, false, false, false] rfl rfl (by kernel_rfl) (fun _ _ _ h => h) (Or.inl ⟨by rfl, ?_⟩) ?_ ?_
      rotate_left
      · intro w'
        go_simp
        with_reducible rfl
      rotate_left
      · simp only [Act.put, List.setIfInBounds_toArray, List.set_cons_zero, List.set_cons_succ, i64_w, i32_w]
        rfl
      refine pure_ (i := 7) (N := some 35) (v := ?_) (a' := ?_) #[true, true, true, true, false, true, true, true, false, false, false, false, false, false, false, false, false, false, false, false] rfl rfl (by kernel_rfl) (fun _ _ _ h => h) (Or.inl ⟨by rfl, ?_⟩) ?_ ?_
      rotate_left
      · intro w'
        go_simp
        with_reducible rfl
      rotate_left
      · simp only [Act.put, List.setIfInBounds_toArray, List.set_cons_zero, List.set_cons_succ, i64_w, i32_w]
        rfl
      refine take_ (i := 8) (N := some 36) (v := ?_) (a' := ?_) #[true, true, true, true, false, true, true, true, true, false, false, false, false, false, false, false, false, false, false, false] rfl rfl (by kernel_rfl) (fun _ _ _ h => h) (Or.inl ⟨by rfl, ?_⟩) hHeld ?_ ?_
      rotate_left
      · rintro w' ⟨s0, s1⟩
        go_simp
        with_reducible rfl
      rotate_left
      · simp only [Act.put, List.setIfInBounds_toArray, List.set_cons_zero, List.set_cons_succ, i64_w, i32_w]
        rfl
      refine one_ (i := 4) (N := some 32) #[true, true, true, true, true, true, true, true, true, false, false, false, false, false, false, false, false, false, false, false] rfl rfl (by kernel_rfl) (by decide) (fun K hK => ?_)
      refine goes_ Try.func8 (by kernel_rfl) rfl #[.pointer (some ⟨g1, 0, none⟩)] (by rfl) rfl rfl (by simp only [List.map_toArray, List.map_cons, List.map_nil]; rfl) ?_
      with_reducible refine (CurP_Place C.out ((t.length : Int)) ((t.length : Int)) (0) rfl).mono ?_
      rintro e w6 ⟨rfl, hp6, hk6, hb6⟩
      have HK := Aside0.mk hk6
      have HD := Aside0.mk hb6
      have HS := Aside0.mk C.out.blk
      have HN := Aside0.mk hp6
      clear hk6 hb6 hp6
      have U_ := Aside0.mk (C_keep U.out HS.out HK.out)
      clear U
      have U := U_
      clear U_
      have C_ := Aside0.mk (HN.out)
      clear C
      have C := C_
      clear C_
      have X_ := Aside0.mk (CurR.keep X.out HS.out HK.out (by have := HLT.out; omega))
      clear X
      have X := X_
      clear X_
      have V1_ := Aside0.mk (Kd.R_mono (Kd.R_keep (Kd.R_mono (Kd.R_bound V1.out) (fun _ hk_ => hk_.2.1)) HK.out (fun k_ hk_ => by (have := HLT.out; have := HGX.out; omega))) (fun _ _ => trivial))
      clear V1
      have V1 := V1_
      clear V1_
      have HB_ := Aside0.mk (below_keep HB.out HD.out HG1.out)
      clear HB HD HK HS HN
      have HB := HB_
      clear HB_
      refine ⟨_, rfl, ?_⟩
      refine hK.out _ _ ⟨(CurR.cellE X.out), (CurR.cellP X.out)⟩ (fun hHeld => ?_)
      clear hK K
      refine norm_ (a' := ?_) ?_ ?_
      rotate_left
      · show Act.put _ (some 32) _ = _
        simp only [Act.put, List.setIfInBounds_toArray, List.set_cons_zero, List.set_cons_succ, i64_w, i32_w]
        rfl
      refine pure_ (i := 9) (N := some 37) (v := ?_) (a' := ?_) #[true, true, true, true, true, true, true, true, true, true, false, false, false, false, false, false, false, false, false, false] rfl rfl (by kernel_rfl) (fun _ _ _ h => h) (Or.inl ⟨by rfl, ?_⟩) ?_ ?_
      rotate_left
      · intro w'
        go_simp
        with_reducible rfl
      rotate_left
      · simp only [Act.put, List.setIfInBounds_toArray, List.set_cons_zero, List.set_cons_succ, i64_w, i32_w]
        rfl
      refine pure_ (i := 10) (N := some 38) (v := ?_) (a' := ?_) #[true, true, true, true, true, true, true, true, true, true, true, false, false, false, false, false, false, false, false, false] rfl rfl (by kernel_rfl) (fun _ _ _ h => h) (Or.inl ⟨by rfl, ?_⟩) ?_ ?_
      rotate_left
      · intro w'
        go_simp
        with_reducible rfl
      rotate_left
      · simp only [Act.put, List.setIfInBounds_toArray, List.set_cons_zero, List.set_cons_succ, i64_w, i32_w]
        rfl
      refine pure_ (i := 11) (N := some 39) (v := ?_) (a' := ?_) #[true, true, true, true, true, true, true, true, true, true, true, true, false, false, false, false, false, false, false, false] rfl rfl (by kernel_rfl) (fun _ _ _ h => h) (Or.inl ⟨by rfl, ?_⟩) ?_ ?_
      rotate_left
      · intro w'
        go_simp
        with_reducible rfl
      rotate_left
      · simp only [Act.put, List.setIfInBounds_toArray, List.set_cons_zero, List.set_cons_succ, i64_w, i32_w]
        rfl
      refine pure_ (i := 12) (N := some 40) (v := ?_) (a' := ?_) #[true, true, true, true, true, true, true, true, true, true, true, true, true, false, false, false, false, false, false, false] rfl rfl (by kernel_rfl) (fun _ _ _ h => h) (Or.inl ⟨by rfl, ?_⟩) ?_ ?_
      rotate_left
      · intro w'
        go_simp
        with_reducible rfl
      rotate_left
      · simp only [Act.put, List.setIfInBounds_toArray, List.set_cons_zero, List.set_cons_succ, i64_w, i32_w]
        rfl
      refine pure_ (i := 14) (N := some 42) (v := ?_) (a' := ?_) #[true, true, true, true, true, true, true, true, true, true, true, true, true, false, true, false, false, false, false, false] rfl rfl (by kernel_rfl) (fun _ _ _ h => h) (Or.inl ⟨by rfl, ?_⟩) ?_ ?_
      rotate_left
      · intro w'
        go_simp
        with_reducible rfl
      rotate_left
      · simp only [Act.put, List.setIfInBounds_toArray, List.set_cons_zero, List.set_cons_succ, i64_w, i32_w]
        rfl
      refine pure_ (i := 15) (N := some 43) (v := ?_) (a' := ?_) #[true, true, true, true, true, true, true, true, true, true, true, true, true, false, true, true, false, false, false, false] rfl rfl (by kernel_rfl) (fun _ _ _ h => h) (Or.inl ⟨by rfl, ?_⟩) ?_ ?_
      rotate_left
      · intro w'
        go_simp
        with_reducible rfl
      rotate_left
      · simp only [Act.put, List.setIfInBounds_toArray, List.set_cons_zero, List.set_cons_succ, i64_w, i32_w]
        rfl
      refine pure_ (i := 16) (N := some 44) (v := ?_) (a' := ?_) #[true, true, true, true, true, true, true, true, true, true, true, true, true, false, true, true, true, false, false, false] rfl rfl (by kernel_rfl) (fun _ _ _ h => h) (Or.inl ⟨by rfl, ?_⟩) ?_ ?_
      rotate_left
      · intro w'
        go_simp
        with_reducible rfl
      rotate_left
      · simp only [Act.put, List.setIfInBounds_toArray, List.set_cons_zero, List.set_cons_succ, i64_w, i32_w]
        rfl
      refine take_ (i := 17) (N := some 45) (v := ?_) (a' := ?_) #[true, true, true, true, true, true, true, true, true, true, true, true, true, false, true, true, true, true, false, false] rfl rfl (by kernel_rfl) (fun _ _ _ h => h) (Or.inl ⟨by rfl, ?_⟩) hHeld ?_ ?_
      rotate_left
      · rintro w' ⟨s0, s1⟩
        go_simp
        with_reducible rfl
      rotate_left
      · simp only [Act.put, List.setIfInBounds_toArray, List.set_cons_zero, List.set_cons_succ, i64_w, i32_w]
        rfl
      refine one_ (i := 13) (N := some 41) #[true, true, true, true, true, true, true, true, true, true, true, true, true, true, true, true, true, true, false, false] rfl rfl (by kernel_rfl) (by decide) (fun K hK => ?_)
      refine goes_ Try.func9 (by kernel_rfl) rfl #[.pointer (some ⟨g1, 0, none⟩)] (by rfl) rfl rfl (by simp only [List.map_toArray, List.map_cons, List.map_nil]; rfl) ?_
      with_reducible refine (CurP_Err C.out (0) ((t.length : Int)) (0) rfl).mono ?_
      rintro e w7 ⟨rfl, hp7, hk7, hb7⟩
      have HK := Aside0.mk hk7
      have HD := Aside0.mk hb7
      have HS := Aside0.mk C.out.blk
      have HN := Aside0.mk hp7
      clear hk7 hb7 hp7
      have U_ := Aside0.mk (C_keep U.out HS.out HK.out)
      clear U
      have U := U_
      clear U_
      have C_ := Aside0.mk (HN.out)
      clear C
      have C := C_
      clear C_
      have X_ := Aside0.mk (CurR.keep X.out HS.out HK.out (by have := HLT.out; omega))
      clear X
      have X := X_
      clear X_
      have V1_ := Aside0.mk (Kd.R_mono (Kd.R_keep (Kd.R_mono (Kd.R_bound V1.out) (fun _ hk_ => hk_.2.1)) HK.out (fun k_ hk_ => by (have := HLT.out; have := HGX.out; omega))) (fun _ _ => trivial))
      clear V1
      have V1 := V1_
      clear V1_
      have HB_ := Aside0.mk (below_keep HB.out HD.out HG1.out)
      clear HB HD HK HS HN
      have HB := HB_
      clear HB_
      refine ⟨_, rfl, ?_⟩
      refine hK.out _ _ ⟨(CurR.cellE X.out), (CurR.cellP X.out)⟩ (fun hHeld => ?_)
      clear hK K
      refine norm_ (a' := ?_) ?_ ?_
      rotate_left
      · show Act.put _ (some 41) _ = _
        simp only [Act.put, List.setIfInBounds_toArray, List.set_cons_zero, List.set_cons_succ, i64_w, i32_w]
        rfl
      refine pure_ (i := 18) (N := some 46) (v := ?_) (a' := ?_) #[true, true, true, true, true, true, true, true, true, true, true, true, true, true, true, true, true, true, true, false] rfl rfl (by kernel_rfl) (fun _ _ _ h => h) (Or.inl ⟨by rfl, ?_⟩) ?_ ?_
      rotate_left
      · intro w'
        go_simp
        with_reducible rfl
      rotate_left
      · simp only [Act.put, List.setIfInBounds_toArray, List.set_cons_zero, List.set_cons_succ, i64_w, i32_w]
        rfl
      refine pure_ (i := 19) (N := some 47) (v := ?_) (a' := ?_) #[true, true, true, true, true, true, true, true, true, true, true, true, true, true, true, true, true, true, true, true] rfl rfl (by kernel_rfl) (fun _ _ _ h => h) (Or.inl ⟨by rfl, ?_⟩) ?_ ?_
      rotate_left
      · intro w'
        go_simp
        with_reducible rfl
      rotate_left
      · simp only [Act.put, List.setIfInBounds_toArray, List.set_cons_zero, List.set_cons_succ, i64_w, i32_w]
        rfl
      refine done_ (by kernel_rfl) ?_
      go_wp2_with fail
      refine (CurP_Err C.out (0) ((t.length : Int)) (0) rfl).mono ?_
      rintro e w8 ⟨rfl, hp8, hk8, hb8⟩
      have HK := Aside0.mk hk8
      have HD := Aside0.mk hb8
      have HS := Aside0.mk C.out.blk
      have HN := Aside0.mk hp8
      clear hk8 hb8 hp8
      have U_ := Aside0.mk (C_keep U.out HS.out HK.out)
      clear U
      have U := U_
      clear U_
      have C_ := Aside0.mk (HN.out)
      clear C
      have C := C_
      clear C_
      have X_ := Aside0.mk (CurR.keep X.out HS.out HK.out (by have := HLT.out; omega))
      clear X
      have X := X_
      clear X_
      have V1_ := Aside0.mk (Kd.R_mono (Kd.R_keep (Kd.R_mono (Kd.R_bound V1.out) (fun _ hk_ => hk_.2.1)) HK.out (fun k_ hk_ => by (have := HLT.out; have := HGX.out; omega))) (fun _ _ => trivial))
      clear V1
      have V1 := V1_
      clear V1_
      have HB_ := Aside0.mk (below_keep HB.out HD.out HG1.out)
      clear HB HD HK HS HN
      have HB := HB_
      clear HB_
      go_wp2_with fail
      refine (vector_Put.calls 101 none 0 ([] : List Int) A2 c2 v t 0 w8 (Kd.C_nil _ _) (by decide) (Kd.R_reads' V1.out).2.2 (Kd.R_reads' V1.out).2.1 k1_.out).mono ?_
      rintro e w9 ⟨v9, rfl, hv9, hb9⟩
      have HD : Aside0 (Below w8.heap.size w8 w9) := ⟨below_step (Below.refl _ _) hb9⟩
      clear hb9
      have U_ := Aside0.mk (Kd.C_below U.out HD.out)
      clear U
      have U := U_
      clear U_
      have C_ := Aside0.mk (CurP.below C.out HD.out)
      clear C
      have C := C_
      clear C_
      have X_ := Aside0.mk (CurR.below X.out HD.out)
      clear X
      have X := X_
      clear X_
      have V1_ := Aside0.mk (Kd.R_below V1.out HD.out)
      clear V1
      have V1 := V1_
      clear V1_
      have HB_ := Aside0.mk (below_step HB.out HD.out)
      clear HB HD
      have HB := HB_
      clear HB_
      obtain ⟨A9, c9, ev9⟩ := Kd.R_slice hv9
      subst ev9
      have PBc := Aside0.mk (Kd.R_reads' hv9).2.1
      have PB := Aside0.mk (Kd.R_reads' hv9).2.2
      clear hv9
      clear V1
      have hcp := CurR.cellP X.out
      have hcut := hcut_to t.length A0 b.length c0 hml_.out Uc.out
      go_wp2_with fail
      clear hcp hcut
      have CB := Aside0.mk (show (Kd.int .u8).C w9 A0 t.length t by have h_ := Kd.C_take (m := t.length) U.out hml_.out; rw [← et_.out] at h_; exact h_)
      have CBc := Aside0.mk (show t.length ≤ c0 by have := hml_.out; have := Uc.out; omega)
      refine (liveryref01_Same.calls 1001 A9 c9 t A0 c0 t true w9 (PB.out) PBc.out (CB.out) CBc.out k2_.out).mono ?_
      rintro e w_ ⟨rfl, ⟨n10, rfl⟩⟩
      obtain ⟨w10, e10⟩ : ∃ W_ : World, W_ = World.drewN w9 n10 := ⟨_, rfl⟩
      have HD : Aside0 (Below w9.heap.size w9 w10) := ⟨by rw [e10]; exact pw_below_drewN (Below.refl _ _) _⟩
      rw [← e10]
      clear e10
      have U_ := Aside0.mk (Kd.C_below U.out HD.out)
      clear U
      have U := U_
      clear U_
      have C_ := Aside0.mk (CurP.below C.out HD.out)
      clear C
      have C := C_
      clear C_
      have X_ := Aside0.mk (CurR.below X.out HD.out)
      clear X
      have X := X_
      clear X_
      have PB_ := Aside0.mk (Kd.C_below PB.out HD.out)
      clear PB
      have PB := PB_
      clear PB_
      have CB_ := Aside0.mk (Kd.C_below CB.out HD.out)
      clear CB
      have CB := CB_
      clear CB_
      have HB_ := Aside0.mk (below_step HB.out HD.out)
      clear HB HD
      have HB := HB_
      clear HB_
      go_wp2_with fail
      refine (liverylaw10_lives.calls (true) w10  rfl).mono ?_
      rintro e w11 ⟨rfl, hb11⟩
      have HD : Aside0 (Below w10.heap.size w10 w11) := ⟨below_step (Below.refl _ _) hb11⟩
      clear hb11
      have U_ := Aside0.mk (Kd.C_below U.out HD.out)
      clear U
      have U := U_
      clear U_
      have C_ := Aside0.mk (CurP.below C.out HD.out)
      clear C
      have C := C_
      clear C_
      have X_ := Aside0.mk (CurR.below X.out HD.out)
      clear X
      have X := X_
      clear X_
      have PB_ := Aside0.mk (Kd.C_below PB.out HD.out)
      clear PB
      have PB := PB_
      clear PB_
      have CB_ := Aside0.mk (Kd.C_below CB.out HD.out)
      clear CB
      have CB := CB_
      clear CB_
      have HB_ := Aside0.mk (below_step HB.out HD.out)
      clear HB HD
      have HB := HB_
      clear HB_
      go_wp2_with fail
      go_ret
      exact ⟨rfl, HB.out⟩
    · skip
      clear hput
      have heb : decide (e = 0) = false := decide_eq_false he
      have hec : (e == 0) = false := beq_eq_false_iff_ne.2 he
      clear he
      clear hb hok
      have e0 : b = l0 := by rw [eb]; exact List.take_of_length_le (by omega)
      clear eb
      subst e0
      have U := L0
      have Uc := L0c
      have c20b : decide ((200 : Int) < (b.length : Int)) = false := decide_eq_false c20
      clear c20
      clear hr0 hc0 w0 L0 L0c
      go_enter Try.func3, Try.ntmps3
      have HB := Aside0.mk (Below.refl w.heap.size w)
      go_wp2_with fail
      refine (wire_New.calls A0 c0 b w (U.out) (by have := hb_.out; omega)).mono ?_
      rintro e w1 ⟨g1, rfl, hg1, hn1, hb1⟩
      have HD : Aside0 (Below w.heap.size w w1) := ⟨below_step (Below.refl _ _) hb1⟩
      clear hb1
      have HG1 : Aside0 (w.heap.size ≤ g1) := ⟨by have := HB.out.size; (try simp at hg1); omega⟩
      have HX1 : Aside0 (w.heap.size ≤ g1) := ⟨by (try simp at hg1); omega⟩
      clear hg1
      have U_ := Aside0.mk (Kd.C_below U.out HD.out)
      clear U
      have U := U_
      clear U_
      have HB_ := Aside0.mk (below_step HB.out HD.out)
      clear HB HD
      have HB := HB_
      clear HB_
      have C := Aside0.mk hn1
      clear hn1
      go_wp2_with fail
      obtain ⟨W7, eW⟩ : ∃ W7, W7 = w1.alloc (.cells #[.slice A0 b.length c0, .int .i64 0, .int .i64 0] 28) := ⟨_, rfl⟩
      rw [← eW]
      obtain ⟨gx, eg⟩ : ∃ gx, gx = w1.heap.size := ⟨_, rfl⟩
      rw [← eg]
      have X : Aside0 (CurR W7 gx b 0 0) := ⟨by rw [eW, eg]; exact CurR.new w1 A0 c0 b 0 0 U.out Uc.out⟩
      have C_ : Aside0 (CurP W7 g1 b 0 0) := ⟨by rw [eW]; exact CurP.below C.out (below_alloc (Below.refl _ _) _)⟩
      have U_ : Aside0 ((Kd.int .u8).C W7 A0 b.length b) := ⟨by rw [eW]; exact Kd.C_alloc U.out _⟩
      have HB_ : Aside0 (Below w.heap.size w W7) := ⟨by rw [eW]; exact below_alloc HB.out _⟩
      have HLT : Aside0 (g1 < gx) := ⟨by rw [eg]; exact C.out.lt⟩
      have HX2 : Aside0 (w.heap.size ≤ gx) := ⟨by rw [eg]; exact HB.out.size⟩
      have HGX : Aside0 (gx < W7.heap.size) := ⟨X.out.lt⟩
      clear HB C U eW eg
      have HB := HB_
      have C := C_
      have U := U_
      clear HB_ C_ U_
      refine (CurP_VRead C.out 100  (v) (p) (e) h1_.out).mono ?_
      rintro e w2 ⟨v2, rfl, hv2, hp2, hk2, hb2⟩
      have HK := Aside0.mk hk2
      have HD := Aside0.mk hb2
      have HS := Aside0.mk C.out.blk
      have HN := Aside0.mk hp2
      have V1 := Aside0.mk hv2
      clear hk2 hb2 hp2 hv2
      have U_ := Aside0.mk (C_keep U.out HS.out HK.out)
      clear U
      have U := U_
      clear U_
      have C_ := Aside0.mk (HN.out)
      clear C
      have C := C_
      clear C_
      have X_ := Aside0.mk (CurR.keep X.out HS.out HK.out (by have := HLT.out; omega))
      clear X
      have X := X_
      clear X_
      have HB_ := Aside0.mk (below_keep HB.out HD.out HG1.out)
      clear HB HD HK HS HN
      have HB := HB_
      clear HB_
      obtain ⟨A2, c2, ev2⟩ := Kd.R_slice V1.out
      subst ev2
      go_wp2_with fail
      refine (CurR_VRead X.out 100  (v) (p) (e) h2_.out).mono ?_
      rintro e w3 ⟨v3, rfl, hv3, hp3, hk3, hb3⟩
      have HK := Aside0.mk hk3
      have HD := Aside0.mk hb3
      have HS := Aside0.mk X.out.blk
      have HN := Aside0.mk hp3
      have V2 := Aside0.mk hv3
      clear hk3 hb3 hp3 hv3
      have U_ := Aside0.mk (C_keep U.out HS.out HK.out)
      clear U
      have U := U_
      clear U_
      have C_ := Aside0.mk (CurP.keep C.out HS.out HK.out (by have := HLT.out; omega))
      clear C
      have C := C_
      clear C_
      have X_ := Aside0.mk (HN.out)
      clear X
      have X := X_
      clear X_
      have V1_ := Aside0.mk (Kd.R_mono (Kd.R_keep (Kd.R_mono (Kd.R_bound V1.out) (fun _ hk_ => hk_.2.1)) HK.out (fun k_ hk_ => by (have := HGX.out; omega))) (fun _ _ => trivial))
      clear V1
      have V1 := V1_
      clear V1_
      have HB_ := Aside0.mk (below_keep HB.out HD.out HX2.out)
      clear HB HD HK HS HN
      have HB := HB_
      clear HB_
      obtain ⟨A3, c3, ev3⟩ := Kd.R_slice V2.out
      subst ev3
      go_wp2_with fail
      refine (liveryref10_Same.calls 100 A2 c2 v A3 c3 v true w3 (Kd.R_reads' V1.out).2.2 (Kd.R_reads' V1.out).2.1 (Kd.R_reads' V2.out).2.2 (Kd.R_reads' V2.out).2.1 hs_.out).mono ?_
      rintro e w_ ⟨rfl, ⟨n4, rfl⟩⟩
      obtain ⟨w4, e4⟩ : ∃ W_ : World, W_ = World.drewN w3 n4 := ⟨_, rfl⟩
      have HD : Aside0 (Below w3.heap.size w3 w4) := ⟨by rw [e4]; exact pw_below_drewN (Below.refl _ _) _⟩
      rw [← e4]
      clear e4
      have U_ := Aside0.mk (Kd.C_below U.out HD.out)
      clear U
      have U := U_
      clear U_
      have C_ := Aside0.mk (CurP.below C.out HD.out)
      clear C
      have C := C_
      clear C_
      have X_ := Aside0.mk (CurR.below X.out HD.out)
      clear X
      have X := X_
      clear X_
      have V1_ := Aside0.mk (Kd.R_below V1.out HD.out)
      clear V1
      have V1 := V1_
      clear V1_
      have V2_ := Aside0.mk (Kd.R_below V2.out HD.out)
      clear V2
      have V2 := V2_
      clear V2_
      have HB_ := Aside0.mk (below_step HB.out HD.out)
      clear HB HD
      have HB := HB_
      clear HB_
      go_wp2_with fail
      clear V2
      have HD : Aside0 (Below w4.heap.size w4 w4.drew) := ⟨below_drew1 (Below.refl _ _)⟩
      have U_ := Aside0.mk (Kd.C_below U.out HD.out)
      clear U
      have U := U_
      clear U_
      have C_ := Aside0.mk (CurP.below C.out HD.out)
      clear C
      have C := C_
      clear C_
      have X_ := Aside0.mk (CurR.below X.out HD.out)
      clear X
      have X := X_
      clear X_
      have V1_ := Aside0.mk (Kd.R_below V1.out HD.out)
      clear V1
      have V1 := V1_
      clear V1_
      have HB_ := Aside0.mk (below_step HB.out HD.out)
      clear HB HD
      have HB := HB_
      clear HB_
      refine start_ (n := 20) (S := fun w' => w'.cell? ⟨gx, 2, none⟩ = some (.int .i64 e) ∧ w'.cell? ⟨gx, 1, none⟩ = some (.int .i64 p)) (ds := []) #[false, false, false, false, false, false, false, false, false, false, false, false, false, false, false, false, false, false, false, false] (by kernel_rfl) rfl rfl ⟨(CurR.cellE X.out), (CurR.cellP X.out)⟩ (fun hHeld => ?_)
      generalize w4.drew = wd5 at *
      refine pure_ (i := 0) (N := some 28) (v := ?_) (a' := ?_) #[true, false, false, false, false, false, false, false, false, false, false, false, false, false, false, false, false, false, false, false] rfl rfl (by kernel_rfl) (fun _ _ _ h => h) (Or.inl ⟨by rfl, ?_⟩) ?_ ?_
      rotate_left
      · intro w'
        go_simp
        with_reducible rfl
      rotate_left
      · simp only [Act.put, List.setIfInBounds_toArray, List.set_cons_zero, List.set_cons_succ, i64_w, i32_w]
        rfl
      refine pure_ (i := 1) (N := some 29) (v := ?_) (a' := ?_) #[true, true, false, false, false, false, false, false, false, false, false, false, false, false, false, false, false, false, false, false] rfl rfl (by kernel_rfl) (fun _ _ _ h => h) (Or.inl ⟨by rfl, ?_⟩) ?_ ?_
      rotate_left
      · intro w'
        go_simp
        with_reducible rfl
      rotate_left
      · simp only [Act.put, List.setIfInBounds_toArray, List.set_cons_zero, List.set_cons_succ, i64_w, i32_w]
        rfl
      refine pure_ (i := 2) (N := some 30) (v := ?_) (a' := ?_) #[true, true, true, false, false, false, false, false, false, false, false, false, false, false, false, false, false, false, false, false] rfl rfl (by kernel_rfl) (fun _ _ _ h => h) (Or.inl ⟨by rfl, ?_⟩) ?_ ?_
      rotate_left
      · intro w'
        go_simp
        with_reducible rfl
      rotate_left
      · simp only [Act.put, List.setIfInBounds_toArray, List.set_cons_zero, List.set_cons_succ, i64_w, i32_w]
        rfl
      refine pure_ (i := 3) (N := some 31) (v := ?_) (a' := ?_) #[true, true, true, true, false, false, false, false, false, false, false, false, false, false, false, false, false, false, false, false] rfl rfl (by kernel_rfl) (fun _ _ _ h => h) (Or.inl ⟨by rfl, ?_⟩) ?_ ?_
      rotate_left
      · intro w'
        go_simp
        with_reducible rfl
      rotate_left
      · simp only [Act.put, List.setIfInBounds_toArray, List.set_cons_zero, List.set_cons_succ, i64_w, i32_w]
        rfl
      refine pure_ (i := 5) (N := some 33) (v := ?_) (a' := ?_) #[true, true, true, true, false, true, false, false, false, false, false, false, false, false, false, false, false, false, false, false] rfl rfl (by kernel_rfl) (fun _ _ _ h => h) (Or.inl ⟨by rfl, ?_⟩) ?_ ?_
      rotate_left
      · intro w'
        go_simp
        with_reducible rfl
      rotate_left
      · simp only [Act.put, List.setIfInBounds_toArray, List.set_cons_zero, List.set_cons_succ, i64_w, i32_w]
        rfl
      refine pure_ (i := 6) (N := some 34) (v := ?_) (a' := ?_) #[true, true, true, true, false, true, true, false, false, false, false, false, false, false, false, false, false, false, false, false] rfl rfl (by kernel_rfl) (fun _ _ _ h => h) (Or.inl ⟨by rfl, ?_⟩) ?_ ?_
      rotate_left
      · intro w'
        go_simp
        with_reducible rfl
      rotate_left
      · simp only [Act.put, List.setIfInBounds_toArray, List.set_cons_zero, List.set_cons_succ, i64_w, i32_w]
        rfl
      refine pure_ (i := 7) (N := some 35) (v := ?_) (a' := ?_) #[true, true, true, true, false, true, true, true, false, false, false, false, false, false, false, false, false, false, false, false] rfl rfl (by kernel_rfl) (fun _ _ _ h => h) (Or.inl ⟨by rfl, ?_⟩) ?_ ?_
      rotate_left
      · intro w'
        go_simp
        with_reducible rfl
      rotate_left
      · simp only [Act.put, List.setIfInBounds_toArray, List.set_cons_zero, List.set_cons_succ, i64_w, i32_w]
        rfl
      refine take_ (i := 8) (N := some 36) (v := ?_) (a' := ?_) #[true, true, true, true, false, true, true, true, true, false, false, false, false, false, false, false, false, false, false, false] rfl rfl (by kernel_rfl) (fun _ _ _ h => h) (Or.inl ⟨by rfl, ?_⟩) hHeld ?_ ?_
      rotate_left
      · rintro w' ⟨s0, s1⟩
        go_simp
        with_reducible rfl
      rotate_left
      · simp only [Act.put, List.setIfInBounds_toArray, List.set_cons_zero, List.set_cons_succ, i64_w, i32_w]
        rfl
      refine one_ (i := 4) (N := some 32) #[true, true, true, true, true, true, true, true, true, false, false, false, false, false, false, false, false, false, false, false] rfl rfl (by kernel_rfl) (by decide) (fun K hK => ?_)
      refine goes_ Try.func8 (by kernel_rfl) rfl #[.pointer (some ⟨g1, 0, none⟩)] (by rfl) rfl rfl (by simp only [List.map_toArray, List.map_cons, List.map_nil]; rfl) ?_
      with_reducible refine (CurP_Place C.out (p) (p) (e) rfl).mono ?_
      rintro e w6 ⟨rfl, hp6, hk6, hb6⟩
      have HK := Aside0.mk hk6
      have HD := Aside0.mk hb6
      have HS := Aside0.mk C.out.blk
      have HN := Aside0.mk hp6
      clear hk6 hb6 hp6
      have U_ := Aside0.mk (C_keep U.out HS.out HK.out)
      clear U
      have U := U_
      clear U_
      have C_ := Aside0.mk (HN.out)
      clear C
      have C := C_
      clear C_
      have X_ := Aside0.mk (CurR.keep X.out HS.out HK.out (by have := HLT.out; omega))
      clear X
      have X := X_
      clear X_
      have V1_ := Aside0.mk (Kd.R_mono (Kd.R_keep (Kd.R_mono (Kd.R_bound V1.out) (fun _ hk_ => hk_.2.1)) HK.out (fun k_ hk_ => by (have := HLT.out; have := HGX.out; omega))) (fun _ _ => trivial))
      clear V1
      have V1 := V1_
      clear V1_
      have HB_ := Aside0.mk (below_keep HB.out HD.out HG1.out)
      clear HB HD HK HS HN
      have HB := HB_
      clear HB_
      refine ⟨_, rfl, ?_⟩
      refine hK.out _ _ ⟨(CurR.cellE X.out), (CurR.cellP X.out)⟩ (fun hHeld => ?_)
      clear hK K
      refine norm_ (a' := ?_) ?_ ?_
      rotate_left
      · show Act.put _ (some 32) _ = _
        simp only [Act.put, List.setIfInBounds_toArray, List.set_cons_zero, List.set_cons_succ, i64_w, i32_w]
        rfl
      refine pure_ (i := 9) (N := some 37) (v := ?_) (a' := ?_) #[true, true, true, true, true, true, true, true, true, true, false, false, false, false, false, false, false, false, false, false] rfl rfl (by kernel_rfl) (fun _ _ _ h => h) (Or.inl ⟨by rfl, ?_⟩) ?_ ?_
      rotate_left
      · intro w'
        go_simp
        with_reducible rfl
      rotate_left
      · simp only [Act.put, List.setIfInBounds_toArray, List.set_cons_zero, List.set_cons_succ, i64_w, i32_w]
        rfl
      refine pure_ (i := 10) (N := some 38) (v := ?_) (a' := ?_) #[true, true, true, true, true, true, true, true, true, true, true, false, false, false, false, false, false, false, false, false] rfl rfl (by kernel_rfl) (fun _ _ _ h => h) (Or.inl ⟨by rfl, ?_⟩) ?_ ?_
      rotate_left
      · intro w'
        go_simp
        with_reducible rfl
      rotate_left
      · simp only [Act.put, List.setIfInBounds_toArray, List.set_cons_zero, List.set_cons_succ, i64_w, i32_w]
        rfl
      refine pure_ (i := 11) (N := some 39) (v := ?_) (a' := ?_) #[true, true, true, true, true, true, true, true, true, true, true, true, false, false, false, false, false, false, false, false] rfl rfl (by kernel_rfl) (fun _ _ _ h => h) (Or.inl ⟨by rfl, ?_⟩) ?_ ?_
      rotate_left
      · intro w'
        go_simp
        with_reducible rfl
      rotate_left
      · simp only [Act.put, List.setIfInBounds_toArray, List.set_cons_zero, List.set_cons_succ, i64_w, i32_w]
        rfl
      refine pure_ (i := 12) (N := some 40) (v := ?_) (a' := ?_) #[true, true, true, true, true, true, true, true, true, true, true, true, true, false, false, false, false, false, false, false] rfl rfl (by kernel_rfl) (fun _ _ _ h => h) (Or.inl ⟨by rfl, ?_⟩) ?_ ?_
      rotate_left
      · intro w'
        go_simp
        with_reducible rfl
      rotate_left
      · simp only [Act.put, List.setIfInBounds_toArray, List.set_cons_zero, List.set_cons_succ, i64_w, i32_w]
        rfl
      refine pure_ (i := 14) (N := some 42) (v := ?_) (a' := ?_) #[true, true, true, true, true, true, true, true, true, true, true, true, true, false, true, false, false, false, false, false] rfl rfl (by kernel_rfl) (fun _ _ _ h => h) (Or.inl ⟨by rfl, ?_⟩) ?_ ?_
      rotate_left
      · intro w'
        go_simp
        with_reducible rfl
      rotate_left
      · simp only [Act.put, List.setIfInBounds_toArray, List.set_cons_zero, List.set_cons_succ, i64_w, i32_w]
        rfl
      refine pure_ (i := 15) (N := some 43) (v := ?_) (a' := ?_) #[true, true, true, true, true, true, true, true, true, true, true, true, true, false, true, true, false, false, false, false] rfl rfl (by kernel_rfl) (fun _ _ _ h => h) (Or.inl ⟨by rfl, ?_⟩) ?_ ?_
      rotate_left
      · intro w'
        go_simp
        with_reducible rfl
      rotate_left
      · simp only [Act.put, List.setIfInBounds_toArray, List.set_cons_zero, List.set_cons_succ, i64_w, i32_w]
        rfl
      refine pure_ (i := 16) (N := some 44) (v := ?_) (a' := ?_) #[true, true, true, true, true, true, true, true, true, true, true, true, true, false, true, true, true, false, false, false] rfl rfl (by kernel_rfl) (fun _ _ _ h => h) (Or.inl ⟨by rfl, ?_⟩) ?_ ?_
      rotate_left
      · intro w'
        go_simp
        with_reducible rfl
      rotate_left
      · simp only [Act.put, List.setIfInBounds_toArray, List.set_cons_zero, List.set_cons_succ, i64_w, i32_w]
        rfl
      refine take_ (i := 17) (N := some 45) (v := ?_) (a' := ?_) #[true, true, true, true, true, true, true, true, true, true, true, true, true, false, true, true, true, true, false, false] rfl rfl (by kernel_rfl) (fun _ _ _ h => h) (Or.inl ⟨by rfl, ?_⟩) hHeld ?_ ?_
      rotate_left
      · rintro w' ⟨s0, s1⟩
        go_simp
        with_reducible rfl
      rotate_left
      · simp only [Act.put, List.setIfInBounds_toArray, List.set_cons_zero, List.set_cons_succ, i64_w, i32_w]
        rfl
      refine one_ (i := 13) (N := some 41) #[true, true, true, true, true, true, true, true, true, true, true, true, true, true, true, true, true, true, false, false] rfl rfl (by kernel_rfl) (by decide) (fun K hK => ?_)
      refine goes_ Try.func9 (by kernel_rfl) rfl #[.pointer (some ⟨g1, 0, none⟩)] (by rfl) rfl rfl (by simp only [List.map_toArray, List.map_cons, List.map_nil]; rfl) ?_
      with_reducible refine (CurP_Err C.out (e) (p) (e) rfl).mono ?_
      rintro e w7 ⟨rfl, hp7, hk7, hb7⟩
      have HK := Aside0.mk hk7
      have HD := Aside0.mk hb7
      have HS := Aside0.mk C.out.blk
      have HN := Aside0.mk hp7
      clear hk7 hb7 hp7
      have U_ := Aside0.mk (C_keep U.out HS.out HK.out)
      clear U
      have U := U_
      clear U_
      have C_ := Aside0.mk (HN.out)
      clear C
      have C := C_
      clear C_
      have X_ := Aside0.mk (CurR.keep X.out HS.out HK.out (by have := HLT.out; omega))
      clear X
      have X := X_
      clear X_
      have V1_ := Aside0.mk (Kd.R_mono (Kd.R_keep (Kd.R_mono (Kd.R_bound V1.out) (fun _ hk_ => hk_.2.1)) HK.out (fun k_ hk_ => by (have := HLT.out; have := HGX.out; omega))) (fun _ _ => trivial))
      clear V1
      have V1 := V1_
      clear V1_
      have HB_ := Aside0.mk (below_keep HB.out HD.out HG1.out)
      clear HB HD HK HS HN
      have HB := HB_
      clear HB_
      refine ⟨_, rfl, ?_⟩
      refine hK.out _ _ ⟨(CurR.cellE X.out), (CurR.cellP X.out)⟩ (fun hHeld => ?_)
      clear hK K
      refine norm_ (a' := ?_) ?_ ?_
      rotate_left
      · show Act.put _ (some 41) _ = _
        simp only [Act.put, List.setIfInBounds_toArray, List.set_cons_zero, List.set_cons_succ, i64_w, i32_w]
        rfl
      refine pure_ (i := 18) (N := some 46) (v := ?_) (a' := ?_) #[true, true, true, true, true, true, true, true, true, true, true, true, true, true, true, true, true, true, true, false] rfl rfl (by kernel_rfl) (fun _ _ _ h => h) (Or.inl ⟨by rfl, ?_⟩) ?_ ?_
      rotate_left
      · intro w'
        go_simp
        with_reducible rfl
      rotate_left
      · simp only [Act.put, List.setIfInBounds_toArray, List.set_cons_zero, List.set_cons_succ, i64_w, i32_w]
        rfl
      refine pure_ (i := 19) (N := some 47) (v := ?_) (a' := ?_) #[true, true, true, true, true, true, true, true, true, true, true, true, true, true, true, true, true, true, true, true] rfl rfl (by kernel_rfl) (fun _ _ _ h => h) (Or.inl ⟨by rfl, ?_⟩) ?_ ?_
      rotate_left
      · intro w'
        go_simp
        with_reducible rfl
      rotate_left
      · simp only [Act.put, List.setIfInBounds_toArray, List.set_cons_zero, List.set_cons_succ, i64_w, i32_w]
        rfl
      refine done_ (by kernel_rfl) ?_
      go_wp2_with fail
      refine (CurP_Err C.out (e) (p) (e) rfl).mono ?_
      rintro e w8 ⟨rfl, hp8, hk8, hb8⟩
      have HK := Aside0.mk hk8
      have HD := Aside0.mk hb8
      have HS := Aside0.mk C.out.blk
      have HN := Aside0.mk hp8
      clear hk8 hb8 hp8
      have U_ := Aside0.mk (C_keep U.out HS.out HK.out)
      clear U
      have U := U_
      clear U_
      have C_ := Aside0.mk (HN.out)
      clear C
      have C := C_
      clear C_
      have X_ := Aside0.mk (CurR.keep X.out HS.out HK.out (by have := HLT.out; omega))
      clear X
      have X := X_
      clear X_
      have V1_ := Aside0.mk (Kd.R_mono (Kd.R_keep (Kd.R_mono (Kd.R_bound V1.out) (fun _ hk_ => hk_.2.1)) HK.out (fun k_ hk_ => by (have := HLT.out; have := HGX.out; omega))) (fun _ _ => trivial))
      clear V1
      have V1 := V1_
      clear V1_
      have HB_ := Aside0.mk (below_keep HB.out HD.out HG1.out)
      clear HB HD HK HS HN
      have HB := HB_
      clear HB_
      go_wp2_with fail
      refine (liverylaw10_lives.calls (true) w8  rfl).mono ?_
      rintro e w9 ⟨rfl, hb9⟩
      have HD : Aside0 (Below w8.heap.size w8 w9) := ⟨below_step (Below.refl _ _) hb9⟩
      clear hb9
      have U_ := Aside0.mk (Kd.C_below U.out HD.out)
      clear U
      have U := U_
      clear U_
      have C_ := Aside0.mk (CurP.below C.out HD.out)
      clear C
      have C := C_
      clear C_
      have X_ := Aside0.mk (CurR.below X.out HD.out)
      clear X
      have X := X_
      clear X_
      have V1_ := Aside0.mk (Kd.R_below V1.out HD.out)
      clear V1
      have V1 := V1_
      clear V1_
      have HB_ := Aside0.mk (below_step HB.out HD.out)
      clear HB HD
      have HB := HB_
      clear HB_
      go_wp2_with fail
      go_ret
      exact ⟨rfl, HB.out⟩
end Go.Proofs.Ytpnmmkoiemeodaa.P
