/- Any bytes (the first 200) are read as just the document's credential, or refused as it says, at the same place. -/
import Derived.Test.YtpnmmkoiemeodaaDoorHMethC
import Derived.Test.YtpnmmkoiemeodaaDoorHNew
import Derived.Test.YtpnmmkoiemeodaaDoorC5R
import Derived.Test.YtpnmmkoiemeodaaDoorP22
import Derived.OpenShut
import Derived.Outline
namespace Go.Proofs.YtpnmmkoiemeodaaDoor.P
open Go.RowKit Go.Proofs.YtpnmmkoiemeodaaDoorW.PrintWords Go.Proofs.YtpnmmkoiemeodaaDoorW.PrintLast Go.Proofs.YtpnmmkoiemeodaaDoorW.PrintMore
set_option linter.unusedVariables false
set_option linter.unusedSimpArgs false
theorem last_true {P : Program} {md : Region.Mode} {ops : Array Oper} {Q : Exit → Act → World → Prop} {S : World → Prop} {ds : List Nat} : ∀ {fuel : Nat} {l : Array Bool} {a : Act} {w : World}, wpAnyLast P md ops Q S ds fuel l a w → wpAnyLast P md ops Q (fun _ => True) ds fuel l a w
  | 0, _, _, _, h => h
  | fuel + 1, l, a, w, h => ⟨h.1, fun i hi => wpOp_mono (fun a' w' h' => ⟨fun _ _ => trivial, last_true h'.2⟩) (h.2 i hi)⟩
set_option maxHeartbeats 1000000 in
set_option maxRecDepth 100000 in
theorem liverylaw05_CredReads.walk (A0 : Option Addr) (c0 : Nat) (l0 : List Int) (w : World) (w0 : (l0.length ≤ maxLen ∧ l0.length * 1 ≤ 140737488351232 ∧ ∀ x ∈ l0, (Lit.int .u8 x).wf = true)) (hr0 : Kd.C (Kd.int .u8) w A0 l0.length l0) (hc0 : l0.length ≤ c0) :
    Calls Tryd.prog 7 #[.slice A0 l0.length c0] w fun e w' => e = .returned (.bool true) ∧ Below w.heap.size w w' := by
  have L0 := Aside0.mk hr0
  have L0c := Aside0.mk hc0
  obtain ⟨b, eb⟩ : ∃ v, v = l0.take 200 := ⟨_, rfl⟩
  have hb : b.length ≤ 200 := by rw [eb, List.length_take]; omega
  have hok : okB b = true := okB_of fun x hx => Go.bounds_u8 (w0.2.2 x (List.mem_of_mem_take (eb ▸ hx)))
  obtain ⟨⟨d, q, n, c, s, ao, an, bo, bn, p, e⟩, ev⟩ : ∃ x, x = readC b 0 0 := ⟨_, rfl⟩
  have h1 := cred_Read_eq b 0 0 hok (by omega) (by omega) (by omega)
  have h2 := ref05_Read_eq 100 b 0 0 hok (by omega) (by omega) (by omega) (by omega)
  rw [← ev] at h1 h2
  have hlv := lives05 100 (by omega)
  have hb_ := Aside0.mk hb
  have h1_ := Aside0.mk h1
  have h2_ := Aside0.mk h2
  have hlv_ := Aside0.mk hlv
  clear h1 h2 hlv ev
  by_cases c20 : (200 : Int) < (l0.length : Int)
  · skip
    clear hb hok
    have Uc : Aside0 (b.length ≤ c0) := ⟨by have := L0c.out; have := hb_.out; omega⟩
    have U : Aside0 ((Kd.int .u8).C w A0 b.length b) := ⟨by rw [eb]; exact Kd.C_take (m := 200) L0.out (by omega)⟩
    obtain ⟨i06, hi06, _, _, _⟩ := info_parts hinfo5
    have hcut := cut_to (P := Tryd.prog) 34 5 .i64 Tryd.underlying34 hi06 A0 l0.length c0 200 (by decide) (by omega) L0c.out
    rw [show Int.toNat 200 = b.length by rw [eb, List.length_take]; simp; omega] at hcut
    clear hi06 eb
    have c20b : decide ((200 : Int) < (l0.length : Int)) = true := decide_eq_true c20
    clear c20
    clear hr0 hc0 w0 L0 L0c
    go_enter Tryd.func7, Tryd.ntmps7
    have HB := Aside0.mk (Below.refl w.heap.size w)
    go_wp2_with fail
    clear hcut
    refine (wire_New.calls A0 c0 b w (U.out) (by have := hb_.out; omega)).mono ?_
    rintro e w1 ⟨g1, rfl, hg1, hn1, hb1⟩
    have HD : Aside0 (Below w.heap.size w w1) := ⟨below_step (Below.refl _ _) hb1⟩
    clear hb1
    have HG1 : Aside0 (w.heap.size ≤ g1) := ⟨by have := HB.out.size; (try simp at hg1); omega⟩
    have HX1 : Aside0 (w.heap.size ≤ g1) := ⟨by (try simp at hg1); omega⟩
    clear hg1
    have U_ := Aside0.mk (Kd.C_below U.out HD.out)
    clear U
    have U := U_
    clear U_
    have HB_ := Aside0.mk (below_step HB.out HD.out)
    clear HB HD
    have HB := HB_
    clear HB_
    have C := Aside0.mk hn1
    clear hn1
    go_wp2_with fail
    obtain ⟨W7, eW⟩ : ∃ W7, W7 = w1.alloc (.cells #[.slice A0 b.length c0, .int .i64 0, .int .i64 0] 46) := ⟨_, rfl⟩
    rw [← eW]
    obtain ⟨gx, eg⟩ : ∃ gx, gx = w1.heap.size := ⟨_, rfl⟩
    rw [← eg]
    have X : Aside0 (CurR W7 gx b 0 0) := ⟨by rw [eW, eg]; exact CurR.new w1 A0 c0 b 0 0 U.out Uc.out⟩
    have C_ : Aside0 (CurP W7 g1 b 0 0) := ⟨by rw [eW]; exact CurP.below C.out (below_alloc (Below.refl _ _) _)⟩
    have U_ : Aside0 ((Kd.int .u8).C W7 A0 b.length b) := ⟨by rw [eW]; exact Kd.C_alloc U.out _⟩
    have HB_ : Aside0 (Below w.heap.size w W7) := ⟨by rw [eW]; exact below_alloc HB.out _⟩
    have HLT : Aside0 (g1 < gx) := ⟨by rw [eg]; exact C.out.lt⟩
    have HX2 : Aside0 (w.heap.size ≤ gx) := ⟨by rw [eg]; exact HB.out.size⟩
    have HGX : Aside0 (gx < W7.heap.size) := ⟨X.out.lt⟩
    clear HB C U eW eg
    have HB := HB_
    have C := C_
    have U := U_
    clear HB_ C_ U_
    have HD : Aside0 (Below W7.heap.size W7 W7.drew) := ⟨below_drew1 (Below.refl _ _)⟩
    have U_ := Aside0.mk (Kd.C_below U.out HD.out)
    clear U
    have U := U_
    clear U_
    have C_ := Aside0.mk (CurP.below C.out HD.out)
    clear C
    have C := C_
    clear C_
    have X_ := Aside0.mk (CurR.below X.out HD.out)
    clear X
    have X := X_
    clear X_
    have HB_ := Aside0.mk (below_step HB.out HD.out)
    clear HB HD
    have HB := HB_
    clear HB_
    refine start_ (n := 32) (S := fun w' => True) (ds := []) #[false, false, false, false, false, false, false, false, false, false, false, false, false, false, false, false, false, false, false, false, false, false, false, false, false, false, false, false, false, false, false, false] (by kernel_rfl) rfl rfl trivial (fun hHeld => ?_)
    generalize W7.drew = wd2 at *
    refine pure_ (i := 0) (N := some 17) (v := ?_) (a' := ?_) #[true, false, false, false, false, false, false, false, false, false, false, false, false, false, false, false, false, false, false, false, false, false, false, false, false, false, false, false, false, false, false, false] rfl rfl (by kernel_rfl) (fun _ _ _ h => h) (Or.inl ⟨by rfl, ?_⟩) ?_ ?_
    rotate_left
    · intro w'
      go_simp
      with_reducible rfl
    rotate_left
    · simp only [Act.put, List.setIfInBounds_toArray, List.set_cons_zero, List.set_cons_succ, i64_w, i32_w]
      rfl
    refine pure_ (i := 2) (N := some 19) (v := ?_) (a' := ?_) #[true, false, true, false, false, false, false, false, false, false, false, false, false, false, false, false, false, false, false, false, false, false, false, false, false, false, false, false, false, false, false, false] rfl rfl (by kernel_rfl) (fun _ _ _ h => h) (Or.inl ⟨by rfl, ?_⟩) ?_ ?_
    rotate_left
    · intro w'
      go_simp
      with_reducible rfl
    rotate_left
    · simp only [Act.put, List.setIfInBounds_toArray, List.set_cons_zero, List.set_cons_succ, i64_w, i32_w]
      rfl
    refine one_ (i := 1) (N := some 18) #[true, true, true, false, false, false, false, false, false, false, false, false, false, false, false, false, false, false, false, false, false, false, false, false, false, false, false, false, false, false, false, false] rfl rfl (by kernel_rfl) (by decide) (fun K hK => ?_)
    refine goes_ Tryd.func22 (by kernel_rfl) rfl #[.pointer (some ⟨g1, 0, none⟩)] (by rfl) rfl rfl (by simp only [List.map_toArray, List.map_cons, List.map_nil]; rfl) ?_
    with_reducible refine (CurP_CRead C.out (d) (q) (n) (c) (s) (ao) (an) (bo) (bn) (p) (e) h1_.out).mono ?_
    rintro e w3 ⟨rfl, hp3, hk3, hb3⟩
    have HK := Aside0.mk hk3
    have HD := Aside0.mk hb3
    have HS := Aside0.mk C.out.blk
    have HN := Aside0.mk hp3
    clear hk3 hb3 hp3
    have U_ := Aside0.mk (C_keep U.out HS.out HK.out)
    clear U
    have U := U_
    clear U_
    have C_ := Aside0.mk (HN.out)
    clear C
    have C := C_
    clear C_
    have X_ := Aside0.mk (CurR.keep X.out HS.out HK.out (by have := HLT.out; omega))
    clear X
    have X := X_
    clear X_
    have HB_ := Aside0.mk (below_keep HB.out HD.out HG1.out)
    clear HB HD HK HS HN
    have HB := HB_
    clear HB_
    refine ⟨_, rfl, ?_⟩
    refine hK.out _ _ trivial (fun hHeld => ?_)
    clear hK K
    refine norm_ (a' := ?_) ?_ ?_
    rotate_left
    · show Act.put _ (some 18) _ = _
      simp only [Act.put, List.setIfInBounds_toArray, List.set_cons_zero, List.set_cons_succ, i64_w, i32_w]
      rfl
    refine one_ (i := 3) (N := some 20) #[true, true, true, true, false, false, false, false, false, false, false, false, false, false, false, false, false, false, false, false, false, false, false, false, false, false, false, false, false, false, false, false] rfl rfl (by kernel_rfl) (by decide) (fun K hK => ?_)
    refine goes_ Tryd.func23 (by kernel_rfl) rfl #[.pointer (some ⟨gx, 0, none⟩)] (by rfl) rfl rfl (by simp only [List.map_toArray, List.map_cons, List.map_nil]; rfl) ?_
    with_reducible refine (CurR_CRead X.out (100) (d) (q) (n) (c) (s) (ao) (an) (bo) (bn) (p) (e) h2_.out).mono ?_
    rintro e w4 ⟨rfl, hp4, hk4, hb4⟩
    have HK := Aside0.mk hk4
    have HD := Aside0.mk hb4
    have HS := Aside0.mk X.out.blk
    have HN := Aside0.mk hp4
    clear hk4 hb4 hp4
    have U_ := Aside0.mk (C_keep U.out HS.out HK.out)
    clear U
    have U := U_
    clear U_
    have C_ := Aside0.mk (CurP.keep C.out HS.out HK.out (by have := HLT.out; omega))
    clear C
    have C := C_
    clear C_
    have X_ := Aside0.mk (HN.out)
    clear X
    have X := X_
    clear X_
    have HB_ := Aside0.mk (below_keep HB.out HD.out HX2.out)
    clear HB HD HK HS HN
    have HB := HB_
    clear HB_
    refine ⟨_, rfl, ?_⟩
    refine hK.out _ _ trivial (fun hHeld => ?_)
    clear hK K
    refine norm_ (a' := ?_) ?_ ?_
    rotate_left
    · show Act.put _ (some 20) _ = _
      simp only [Act.put, List.setIfInBounds_toArray, List.set_cons_zero, List.set_cons_succ, i64_w, i32_w]
      rfl
    refine last_true (S := fun w' => w'.cell? ⟨gx, 1, none⟩ = some (.int .i64 p) ∧ w'.cell? ⟨gx, 2, none⟩ = some (.int .i64 e)) ?_
    clear hHeld
    have hHeld := And.intro (CurR.cellP X.out) (CurR.cellE X.out)
    refine pure_ (i := 4) (N := some 21) (v := ?_) (a' := ?_) #[true, true, true, true, true, false, false, false, false, false, false, false, false, false, false, false, false, false, false, false, false, false, false, false, false, false, false, false, false, false, false, false] rfl rfl (by kernel_rfl) (fun _ _ _ h => h) (Or.inl ⟨by rfl, ?_⟩) ?_ ?_
    rotate_left
    · intro w'
      go_simp
      with_reducible rfl
    rotate_left
    · simp only [Act.put, List.setIfInBounds_toArray, List.set_cons_zero, List.set_cons_succ, i64_w, i32_w]
      rfl
    refine pure_ (i := 5) (N := some 22) (v := ?_) (a' := ?_) #[true, true, true, true, true, true, false, false, false, false, false, false, false, false, false, false, false, false, false, false, false, false, false, false, false, false, false, false, false, false, false, false] rfl rfl (by kernel_rfl) (fun _ _ _ h => h) (Or.inl ⟨by rfl, ?_⟩) ?_ ?_
    rotate_left
    · intro w'
      go_simp
      with_reducible rfl
    rotate_left
    · simp only [Act.put, List.setIfInBounds_toArray, List.set_cons_zero, List.set_cons_succ, i64_w, i32_w]
      rfl
    refine pure_ (i := 6) (N := some 23) (v := ?_) (a' := ?_) #[true, true, true, true, true, true, true, false, false, false, false, false, false, false, false, false, false, false, false, false, false, false, false, false, false, false, false, false, false, false, false, false] rfl rfl (by kernel_rfl) (fun _ _ _ h => h) (Or.inl ⟨by rfl, ?_⟩) ?_ ?_
    rotate_left
    · intro w'
      go_simp
      with_reducible rfl
    rotate_left
    · simp only [Act.put, List.setIfInBounds_toArray, List.set_cons_zero, List.set_cons_succ, i64_w, i32_w]
      rfl
    refine pure_ (i := 8) (N := some 25) (v := ?_) (a' := ?_) #[true, true, true, true, true, true, true, false, true, false, false, false, false, false, false, false, false, false, false, false, false, false, false, false, false, false, false, false, false, false, false, false] rfl rfl (by kernel_rfl) (fun _ _ _ h => h) (Or.inl ⟨by rfl, ?_⟩) ?_ ?_
    rotate_left
    · intro w'
      go_simp
      with_reducible rfl
    rotate_left
    · simp only [Act.put, List.setIfInBounds_toArray, List.set_cons_zero, List.set_cons_succ, i64_w, i32_w]
      rfl
    refine pure_ (i := 9) (N := some 26) (v := ?_) (a' := ?_) #[true, true, true, true, true, true, true, false, true, true, false, false, false, false, false, false, false, false, false, false, false, false, false, false, false, false, false, false, false, false, false, false] rfl rfl (by kernel_rfl) (fun _ _ _ h => h) (Or.inl ⟨by rfl, ?_⟩) ?_ ?_
    rotate_left
    · intro w'
      go_simp
      with_reducible rfl
    rotate_left
    · simp only [Act.put, List.setIfInBounds_toArray, List.set_cons_zero, List.set_cons_succ, i64_w, i32_w]
      rfl
    refine pure_ (i := 10) (N := some 27) (v := ?_) (a' := ?_) #[true, true, true, true, true, true, true, false, true, true, true, false, false, false, false, false, false, false, false, false, false, false, false, false, false, false, false, false, false, false, false, false] rfl rfl (by kernel_rfl) (fun _ _ _ h => h) (Or.inl ⟨by rfl, ?_⟩) ?_ ?_
    rotate_left
    · intro w'
      go_simp
      with_reducible rfl
    rotate_left
    · simp only [Act.put, List.setIfInBounds_toArray, List.set_cons_zero, List.set_cons_succ, i64_w, i32_w]
      rfl
    refine take_ (i := 11) (N := some 28) (v := ?_) (a' := ?_) #[true, true, true, true, true, true, true, false, true, true, true, true, false, false, false, false, false, false, false, false, false, false, false, false, false, false, false, false, false, false, false, false] rfl rfl (by kernel_rfl) (fun _ _ _ h => h) (Or.inl ⟨by rfl, ?_⟩) hHeld ?_ ?_
    rotate_left
    · rintro w' ⟨s0, s1⟩
      go_simp
      with_reducible rfl
    rotate_left
    · simp only [Act.put, List.setIfInBounds_toArray, List.set_cons_zero, List.set_cons_succ, i64_w, i32_w]
      rfl
    refine one_ (i := 7) (N := some 24) #[true, true, true, true, true, true, true, true, true, true, true, true, false, false, false, false, false, false, false, false, false, false, false, false, false, false, false, false, false, false, false, false] rfl rfl (by kernel_rfl) (by decide) (fun K hK => ?_)
    refine goes_ Tryd.func24 (by kernel_rfl) rfl #[.pointer (some ⟨g1, 0, none⟩)] (by rfl) rfl rfl (by simp only [List.map_toArray, List.map_cons, List.map_nil]; rfl) ?_
    with_reducible refine (CurP_Place C.out (p) (p) (e) rfl).mono ?_
    rintro e w5 ⟨rfl, hp5, hk5, hb5⟩
    have HK := Aside0.mk hk5
    have HD := Aside0.mk hb5
    have HS := Aside0.mk C.out.blk
    have HN := Aside0.mk hp5
    clear hk5 hb5 hp5
    have U_ := Aside0.mk (C_keep U.out HS.out HK.out)
    clear U
    have U := U_
    clear U_
    have C_ := Aside0.mk (HN.out)
    clear C
    have C := C_
    clear C_
    have X_ := Aside0.mk (CurR.keep X.out HS.out HK.out (by have := HLT.out; omega))
    clear X
    have X := X_
    clear X_
    have HB_ := Aside0.mk (below_keep HB.out HD.out HG1.out)
    clear HB HD HK HS HN
    have HB := HB_
    clear HB_
    refine ⟨_, rfl, ?_⟩
    refine hK.out _ _ ⟨(CurR.cellP X.out), (CurR.cellE X.out)⟩ (fun hHeld => ?_)
    clear hK K
    refine norm_ (a' := ?_) ?_ ?_
    rotate_left
    · show Act.put _ (some 24) _ = _
      simp only [Act.put, List.setIfInBounds_toArray, List.set_cons_zero, List.set_cons_succ, i64_w, i32_w]
      rfl
    refine pure_ (i := 12) (N := some 29) (v := ?_) (a' := ?_) #[true, true, true, true, true, true, true, true, true, true, true, true, true, false, false, false, false, false, false, false, false, false, false, false, false, false, false, false, false, false, false, false] rfl rfl (by kernel_rfl) (fun _ _ _ h => h) (Or.inl ⟨by rfl, ?_⟩) ?_ ?_
    rotate_left
    · intro w'
      go_simp
      with_reducible rfl
    rotate_left
    · simp only [Act.put, List.setIfInBounds_toArray, List.set_cons_zero, List.set_cons_succ, i64_w, i32_w]
      rfl
    refine pure_ (i := 13) (N := some 30) (v := ?_) (a' := ?_) #[true, true, true, true, true, true, true, true, true, true, true, true, true, true, false, false, false, false, false, false, false, false, false, false, false, false, false, false, false, false, false, false] rfl rfl (by kernel_rfl) (fun _ _ _ h => h) (Or.inl ⟨by rfl, ?_⟩) ?_ ?_
    rotate_left
    · intro w'
      go_simp
      with_reducible rfl
    rotate_left
    · simp only [Act.put, List.setIfInBounds_toArray, List.set_cons_zero, List.set_cons_succ, i64_w, i32_w]
      rfl
    refine pure_ (i := 14) (N := some 31) (v := ?_) (a' := ?_) #[true, true, true, true, true, true, true, true, true, true, true, true, true, true, true, false, false, false, false, false, false, false, false, false, false, false, false, false, false, false, false, false] rfl rfl (by kernel_rfl) (fun _ _ _ h => h) (Or.inl ⟨by rfl, ?_⟩) ?_ ?_
    rotate_left
    · intro w'
      go_simp
      with_reducible rfl
    rotate_left
    · simp only [Act.put, List.setIfInBounds_toArray, List.set_cons_zero, List.set_cons_succ, i64_w, i32_w]
      rfl
    refine pure_ (i := 15) (N := some 32) (v := ?_) (a' := ?_) #[true, true, true, true, true, true, true, true, true, true, true, true, true, true, true, true, false, false, false, false, false, false, false, false, false, false, false, false, false, false, false, false] rfl rfl (by kernel_rfl) (fun _ _ _ h => h) (Or.inl ⟨by rfl, ?_⟩) ?_ ?_
    rotate_left
    · intro w'
      go_simp
      with_reducible rfl
    rotate_left
    · simp only [Act.put, List.setIfInBounds_toArray, List.set_cons_zero, List.set_cons_succ, i64_w, i32_w]
      rfl
    refine pure_ (i := 17) (N := some 34) (v := ?_) (a' := ?_) #[true, true, true, true, true, true, true, true, true, true, true, true, true, true, true, true, false, true, false, false, false, false, false, false, false, false, false, false, false, false, false, false] rfl rfl (by kernel_rfl) (fun _ _ _ h => h) (Or.inl ⟨by rfl, ?_⟩) ?_ ?_
    rotate_left
    · intro w'
      go_simp
      with_reducible rfl
    rotate_left
    · simp only [Act.put, List.setIfInBounds_toArray, List.set_cons_zero, List.set_cons_succ, i64_w, i32_w]
      rfl
    refine pure_ (i := 18) (N := some 35) (v := ?_) (a' := ?_) #[true, true, true, true, true, true, true, true, true, true, true, true, true, true, true, true, false, true, true, false, false, false, false, false, false, false, false, false, false, false, false, false] rfl rfl (by kernel_rfl) (fun _ _ _ h => h) (Or.inl ⟨by rfl, ?_⟩) ?_ ?_
    rotate_left
    · intro w'
      go_simp
      with_reducible rfl
    rotate_left
    · simp only [Act.put, List.setIfInBounds_toArray, List.set_cons_zero, List.set_cons_succ, i64_w, i32_w]
      rfl
    refine pure_ (i := 19) (N := some 36) (v := ?_) (a' := ?_) #[true, true, true, true, true, true, true, true, true, true, true, true, true, true, true, true, false, true, true, true, false, false, false, false, false, false, false, false, false, false, false, false] rfl rfl (by kernel_rfl) (fun _ _ _ h => h) (Or.inl ⟨by rfl, ?_⟩) ?_ ?_
    rotate_left
    · intro w'
      go_simp
      with_reducible rfl
    rotate_left
    · simp only [Act.put, List.setIfInBounds_toArray, List.set_cons_zero, List.set_cons_succ, i64_w, i32_w]
      rfl
    refine take_ (i := 20) (N := some 37) (v := ?_) (a' := ?_) #[true, true, true, true, true, true, true, true, true, true, true, true, true, true, true, true, false, true, true, true, true, false, false, false, false, false, false, false, false, false, false, false] rfl rfl (by kernel_rfl) (fun _ _ _ h => h) (Or.inl ⟨by rfl, ?_⟩) hHeld ?_ ?_
    rotate_left
    · rintro w' ⟨s0, s1⟩
      go_simp
      with_reducible rfl
    rotate_left
    · simp only [Act.put, List.setIfInBounds_toArray, List.set_cons_zero, List.set_cons_succ, i64_w, i32_w]
      rfl
    refine one_ (i := 16) (N := some 33) #[true, true, true, true, true, true, true, true, true, true, true, true, true, true, true, true, true, true, true, true, true, false, false, false, false, false, false, false, false, false, false, false] rfl rfl (by kernel_rfl) (by decide) (fun K hK => ?_)
    refine goes_ Tryd.func25 (by kernel_rfl) rfl #[.pointer (some ⟨g1, 0, none⟩)] (by rfl) rfl rfl (by simp only [List.map_toArray, List.map_cons, List.map_nil]; rfl) ?_
    with_reducible refine (CurP_Err C.out (e) (p) (e) rfl).mono ?_
    rintro e w6 ⟨rfl, hp6, hk6, hb6⟩
    have HK := Aside0.mk hk6
    have HD := Aside0.mk hb6
    have HS := Aside0.mk C.out.blk
    have HN := Aside0.mk hp6
    clear hk6 hb6 hp6
    have U_ := Aside0.mk (C_keep U.out HS.out HK.out)
    clear U
    have U := U_
    clear U_
    have C_ := Aside0.mk (HN.out)
    clear C
    have C := C_
    clear C_
    have X_ := Aside0.mk (CurR.keep X.out HS.out HK.out (by have := HLT.out; omega))
    clear X
    have X := X_
    clear X_
    have HB_ := Aside0.mk (below_keep HB.out HD.out HG1.out)
    clear HB HD HK HS HN
    have HB := HB_
    clear HB_
    refine ⟨_, rfl, ?_⟩
    refine hK.out _ _ ⟨(CurR.cellP X.out), (CurR.cellE X.out)⟩ (fun hHeld => ?_)
    clear hK K
    refine norm_ (a' := ?_) ?_ ?_
    rotate_left
    · show Act.put _ (some 33) _ = _
      simp only [Act.put, List.setIfInBounds_toArray, List.set_cons_zero, List.set_cons_succ, i64_w, i32_w]
      rfl
    refine pure_ (i := 21) (N := some 38) (v := ?_) (a' := ?_) #[true, true, true, true, true, true, true, true, true, true, true, true, true, true, true, true, true, true, true, true, true, true, false, false, false, false, false, false, false, false, false, false] rfl rfl (by kernel_rfl) (fun _ _ _ h => h) (Or.inl ⟨by rfl, ?_⟩) ?_ ?_
    rotate_left
    · intro w'
      go_simp
      with_reducible rfl
    rotate_left
    · simp only [Act.put, List.setIfInBounds_toArray, List.set_cons_zero, List.set_cons_succ, i64_w, i32_w]
      rfl
    refine pure_ (i := 22) (N := some 39) (v := ?_) (a' := ?_) #[true, true, true, true, true, true, true, true, true, true, true, true, true, true, true, true, true, true, true, true, true, true, true, false, false, false, false, false, false, false, false, false] rfl rfl (by kernel_rfl) (fun _ _ _ h => h) (Or.inl ⟨by rfl, ?_⟩) ?_ ?_
    rotate_left
    · intro w'
      go_simp
      with_reducible rfl
    rotate_left
    · simp only [Act.put, List.setIfInBounds_toArray, List.set_cons_zero, List.set_cons_succ, i64_w, i32_w]
      rfl
    refine pure_ (i := 23) (N := some 40) (v := ?_) (a' := ?_) #[true, true, true, true, true, true, true, true, true, true, true, true, true, true, true, true, true, true, true, true, true, true, true, true, false, false, false, false, false, false, false, false] rfl rfl (by kernel_rfl) (fun _ _ _ h => h) (Or.inl ⟨by rfl, ?_⟩) ?_ ?_
    rotate_left
    · intro w'
      go_simp
      with_reducible rfl
    rotate_left
    · simp only [Act.put, List.setIfInBounds_toArray, List.set_cons_zero, List.set_cons_succ, i64_w, i32_w]
      rfl
    refine pure_ (i := 25) (N := some 42) (v := ?_) (a' := ?_) #[true, true, true, true, true, true, true, true, true, true, true, true, true, true, true, true, true, true, true, true, true, true, true, true, false, true, false, false, false, false, false, false] rfl rfl (by kernel_rfl) (fun _ _ _ h => h) (Or.inl ⟨by rfl, ?_⟩) ?_ ?_
    rotate_left
    · intro w'
      go_simp
      with_reducible rfl
    rotate_left
    · simp only [Act.put, List.setIfInBounds_toArray, List.set_cons_zero, List.set_cons_succ, i64_w, i32_w]
      rfl
    refine one_ (i := 24) (N := some 41) #[true, true, true, true, true, true, true, true, true, true, true, true, true, true, true, true, true, true, true, true, true, true, true, true, true, true, false, false, false, false, false, false] rfl rfl (by kernel_rfl) (by decide) (fun K hK => ?_)
    refine goes_ Tryd.func22 (by kernel_rfl) rfl #[.pointer none] (by rfl) rfl rfl (by simp only [List.map_toArray, List.map_cons, List.map_nil]; rfl) ?_
    refine (cred_Read_nil  w6  ).mono ?_
    rintro e w7 ⟨rfl, hb7⟩
    have HD : Aside0 (Below w6.heap.size w6 w7) := ⟨below_step (Below.refl _ _) hb7⟩
    clear hb7
    have U_ := Aside0.mk (Kd.C_below U.out HD.out)
    clear U
    have U := U_
    clear U_
    have C_ := Aside0.mk (CurP.below C.out HD.out)
    clear C
    have C := C_
    clear C_
    have X_ := Aside0.mk (CurR.below X.out HD.out)
    clear X
    have X := X_
    clear X_
    have HB_ := Aside0.mk (below_step HB.out HD.out)
    clear HB HD
    have HB := HB_
    clear HB_
    refine ⟨_, rfl, ?_⟩
    refine hK.out _ _ ⟨(CurR.cellP X.out), (CurR.cellE X.out)⟩ (fun hHeld => ?_)
    clear hK K
    refine norm_ (a' := ?_) ?_ ?_
    rotate_left
    · show Act.put _ (some 41) _ = _
      simp only [Act.put, List.setIfInBounds_toArray, List.set_cons_zero, List.set_cons_succ, i64_w, i32_w]
      rfl
    refine pure_ (i := 26) (N := some 43) (v := ?_) (a' := ?_) #[true, true, true, true, true, true, true, true, true, true, true, true, true, true, true, true, true, true, true, true, true, true, true, true, true, true, true, false, false, false, false, false] rfl rfl (by kernel_rfl) (fun _ _ _ h => h) (Or.inl ⟨by rfl, ?_⟩) ?_ ?_
    rotate_left
    · intro w'
      go_simp
      with_reducible rfl
    rotate_left
    · simp only [Act.put, List.setIfInBounds_toArray, List.set_cons_zero, List.set_cons_succ, i64_w, i32_w]
      rfl
    refine pure_ (i := 27) (N := some 44) (v := ?_) (a' := ?_) #[true, true, true, true, true, true, true, true, true, true, true, true, true, true, true, true, true, true, true, true, true, true, true, true, true, true, true, true, false, false, false, false] rfl rfl (by kernel_rfl) (fun _ _ _ h => h) (Or.inl ⟨by rfl, ?_⟩) ?_ ?_
    rotate_left
    · intro w'
      go_simp
      with_reducible rfl
    rotate_left
    · simp only [Act.put, List.setIfInBounds_toArray, List.set_cons_zero, List.set_cons_succ, i64_w, i32_w]
      rfl
    refine pure_ (i := 28) (N := some 45) (v := ?_) (a' := ?_) #[true, true, true, true, true, true, true, true, true, true, true, true, true, true, true, true, true, true, true, true, true, true, true, true, true, true, true, true, true, false, false, false] rfl rfl (by kernel_rfl) (fun _ _ _ h => h) (Or.inl ⟨by rfl, ?_⟩) ?_ ?_
    rotate_left
    · intro w'
      go_simp
      with_reducible rfl
    rotate_left
    · simp only [Act.put, List.setIfInBounds_toArray, List.set_cons_zero, List.set_cons_succ, i64_w, i32_w]
      rfl
    refine one_ (i := 29) (N := some 46) #[true, true, true, true, true, true, true, true, true, true, true, true, true, true, true, true, true, true, true, true, true, true, true, true, true, true, true, true, true, true, false, false] rfl rfl (by kernel_rfl) (by decide) (fun K hK => ?_)
    refine goes_ Tryd.func15 (by kernel_rfl) rfl #[] (by rfl) rfl rfl (by simp only [List.map_toArray, List.map_cons, List.map_nil]) ?_
    with_reducible refine (liverylaw05_lives.calls 100  true w7  hlv_.out).mono ?_
    rintro e w8 ⟨rfl, hb8⟩
    have HD : Aside0 (Below w7.heap.size w7 w8) := ⟨below_step (Below.refl _ _) hb8⟩
    clear hb8
    have U_ := Aside0.mk (Kd.C_below U.out HD.out)
    clear U
    have U := U_
    clear U_
    have C_ := Aside0.mk (CurP.below C.out HD.out)
    clear C
    have C := C_
    clear C_
    have X_ := Aside0.mk (CurR.below X.out HD.out)
    clear X
    have X := X_
    clear X_
    have HB_ := Aside0.mk (below_step HB.out HD.out)
    clear HB HD
    have HB := HB_
    clear HB_
    refine ⟨_, rfl, ?_⟩
    refine hK.out _ _ ⟨(CurR.cellP X.out), (CurR.cellE X.out)⟩ (fun hHeld => ?_)
    clear hK K
    refine norm_ (a' := ?_) ?_ ?_
    rotate_left
    · show Act.put _ (some 46) _ = _
      simp only [Act.put, List.setIfInBounds_toArray, List.set_cons_zero, List.set_cons_succ, i64_w, i32_w]
      rfl
    refine pure_ (i := 30) (N := some 47) (v := ?_) (a' := ?_) #[true, true, true, true, true, true, true, true, true, true, true, true, true, true, true, true, true, true, true, true, true, true, true, true, true, true, true, true, true, true, true, false] rfl rfl (by kernel_rfl) (fun _ _ _ h => h) (Or.inl ⟨by rfl, ?_⟩) ?_ ?_
    rotate_left
    · intro w'
      go_simp
      with_reducible rfl
    rotate_left
    · simp only [Act.put, List.setIfInBounds_toArray, List.set_cons_zero, List.set_cons_succ, i64_w, i32_w]
      rfl
    refine pure_ (i := 31) (N := some 2) (v := ?_) (a' := ?_) #[true, true, true, true, true, true, true, true, true, true, true, true, true, true, true, true, true, true, true, true, true, true, true, true, true, true, true, true, true, true, true, true] rfl rfl (by kernel_rfl) (fun _ _ _ h => h) (Or.inl ⟨by rfl, ?_⟩) ?_ ?_
    rotate_left
    · intro w'
      go_simp
      with_reducible rfl
    rotate_left
    · simp only [Act.put, List.setIfInBounds_toArray, List.set_cons_zero, List.set_cons_succ, i64_w, i32_w]
      rfl
    refine done_ (by kernel_rfl) ?_
    go_wp2_with fail
    go_ret
    exact ⟨rfl, HB.out⟩
  · skip
    clear hb hok
    have e0 : b = l0 := by rw [eb]; exact List.take_of_length_le (by omega)
    clear eb
    subst e0
    have U := L0
    have Uc := L0c
    have c20b : decide ((200 : Int) < (b.length : Int)) = false := decide_eq_false c20
    clear c20
    clear hr0 hc0 w0 L0 L0c
    go_enter Tryd.func7, Tryd.ntmps7
    have HB := Aside0.mk (Below.refl w.heap.size w)
    go_wp2_with fail
    refine (wire_New.calls A0 c0 b w (U.out) (by have := hb_.out; omega)).mono ?_
    rintro e w1 ⟨g1, rfl, hg1, hn1, hb1⟩
    have HD : Aside0 (Below w.heap.size w w1) := ⟨below_step (Below.refl _ _) hb1⟩
    clear hb1
    have HG1 : Aside0 (w.heap.size ≤ g1) := ⟨by have := HB.out.size; (try simp at hg1); omega⟩
    have HX1 : Aside0 (w.heap.size ≤ g1) := ⟨by (try simp at hg1); omega⟩
    clear hg1
    have U_ := Aside0.mk (Kd.C_below U.out HD.out)
    clear U
    have U := U_
    clear U_
    have HB_ := Aside0.mk (below_step HB.out HD.out)
    clear HB HD
    have HB := HB_
    clear HB_
    have C := Aside0.mk hn1
    clear hn1
    go_wp2_with fail
    obtain ⟨W7, eW⟩ : ∃ W7, W7 = w1.alloc (.cells #[.slice A0 b.length c0, .int .i64 0, .int .i64 0] 46) := ⟨_, rfl⟩
    rw [← eW]
    obtain ⟨gx, eg⟩ : ∃ gx, gx = w1.heap.size := ⟨_, rfl⟩
    rw [← eg]
    have X : Aside0 (CurR W7 gx b 0 0) := ⟨by rw [eW, eg]; exact CurR.new w1 A0 c0 b 0 0 U.out Uc.out⟩
    have C_ : Aside0 (CurP W7 g1 b 0 0) := ⟨by rw [eW]; exact CurP.below C.out (below_alloc (Below.refl _ _) _)⟩
    have U_ : Aside0 ((Kd.int .u8).C W7 A0 b.length b) := ⟨by rw [eW]; exact Kd.C_alloc U.out _⟩
    have HB_ : Aside0 (Below w.heap.size w W7) := ⟨by rw [eW]; exact below_alloc HB.out _⟩
    have HLT : Aside0 (g1 < gx) := ⟨by rw [eg]; exact C.out.lt⟩
    have HX2 : Aside0 (w.heap.size ≤ gx) := ⟨by rw [eg]; exact HB.out.size⟩
    have HGX : Aside0 (gx < W7.heap.size) := ⟨X.out.lt⟩
    clear HB C U eW eg
    have HB := HB_
    have C := C_
    have U := U_
    clear HB_ C_ U_
    have HD : Aside0 (Below W7.heap.size W7 W7.drew) := ⟨below_drew1 (Below.refl _ _)⟩
    have U_ := Aside0.mk (Kd.C_below U.out HD.out)
    clear U
    have U := U_
    clear U_
    have C_ := Aside0.mk (CurP.below C.out HD.out)
    clear C
    have C := C_
    clear C_
    have X_ := Aside0.mk (CurR.below X.out HD.out)
    clear X
    have X := X_
    clear X_
    have HB_ := Aside0.mk (below_step HB.out HD.out)
    clear HB HD
    have HB := HB_
    clear HB_
    refine start_ (n := 32) (S := fun w' => True) (ds := []) #[false, false, false, false, false, false, false, false, false, false, false, false, false, false, false, false, false, false, false, false, false, false, false, false, false, false, false, false, false, false, false, false] (by kernel_rfl) rfl rfl trivial (fun hHeld => ?_)
    generalize W7.drew = wd2 at *
    refine pure_ (i := 0) (N := some 17) (v := ?_) (a' := ?_) #[true, false, false, false, false, false, false, false, false, false, false, false, false, false, false, false, false, false, false, false, false, false, false, false, false, false, false, false, false, false, false, false] rfl rfl (by kernel_rfl) (fun _ _ _ h => h) (Or.inl ⟨by rfl, ?_⟩) ?_ ?_
    rotate_left
    · intro w'
      go_simp
      with_reducible rfl
    rotate_left
    · simp only [Act.put, List.setIfInBounds_toArray, List.set_cons_zero, List.set_cons_succ, i64_w, i32_w]
      rfl
    refine pure_ (i := 2) (N := some 19) (v := ?_) (a' := ?_) #[true, false, true, false, false, false, false, false, false, false, false, false, false, false, false, false, false, false, false, false, false, false, false, false, false, false, false, false, false, false, false, false] rfl rfl (by kernel_rfl) (fun _ _ _ h => h) (Or.inl ⟨by rfl, ?_⟩) ?_ ?_
    rotate_left
    · intro w'
      go_simp
      with_reducible rfl
    rotate_left
    · simp only [Act.put, List.setIfInBounds_toArray, List.set_cons_zero, List.set_cons_succ, i64_w, i32_w]
      rfl
    refine one_ (i := 1) (N := some 18) #[true, true, true, false, false, false, false, false, false, false, false, false, false, false, false, false, false, false, false, false, false, false, false, false, false, false, false, false, false, false, false, false] rfl rfl (by kernel_rfl) (by decide) (fun K hK => ?_)
    refine goes_ Tryd.func22 (by kernel_rfl) rfl #[.pointer (some ⟨g1, 0, none⟩)] (by rfl) rfl rfl (by simp only [List.map_toArray, List.map_cons, List.map_nil]; rfl) ?_
    with_reducible refine (CurP_CRead C.out (d) (q) (n) (c) (s) (ao) (an) (bo) (bn) (p) (e) h1_.out).mono ?_
    rintro e w3 ⟨rfl, hp3, hk3, hb3⟩
    have HK := Aside0.mk hk3
    have HD := Aside0.mk hb3
    have HS := Aside0.mk C.out.blk
    have HN := Aside0.mk hp3
    clear hk3 hb3 hp3
    have U_ := Aside0.mk (C_keep U.out HS.out HK.out)
    clear U
    have U := U_
    clear U_
    have C_ := Aside0.mk (HN.out)
    clear C
    have C := C_
    clear C_
    have X_ := Aside0.mk (CurR.keep X.out HS.out HK.out (by have := HLT.out; omega))
    clear X
    have X := X_
    clear X_
    have HB_ := Aside0.mk (below_keep HB.out HD.out HG1.out)
    clear HB HD HK HS HN
    have HB := HB_
    clear HB_
    refine ⟨_, rfl, ?_⟩
    refine hK.out _ _ trivial (fun hHeld => ?_)
    clear hK K
    refine norm_ (a' := ?_) ?_ ?_
    rotate_left
    · show Act.put _ (some 18) _ = _
      simp only [Act.put, List.setIfInBounds_toArray, List.set_cons_zero, List.set_cons_succ, i64_w, i32_w]
      rfl
    refine one_ (i := 3) (N := some 20) #[true, true, true, true, false, false, false, false, false, false, false, false, false, false, false, false, false, false, false, false, false, false, false, false, false, false, false, false, false, false, false, false] rfl rfl (by kernel_rfl) (by decide) (fun K hK => ?_)
    refine goes_ Tryd.func23 (by kernel_rfl) rfl #[.pointer (some ⟨gx, 0, none⟩)] (by rfl) rfl rfl (by simp only [List.map_toArray, List.map_cons, List.map_nil]; rfl) ?_
    with_reducible refine (CurR_CRead X.out (100) (d) (q) (n) (c) (s) (ao) (an) (bo) (bn) (p) (e) h2_.out).mono ?_
    rintro e w4 ⟨rfl, hp4, hk4, hb4⟩
    have HK := Aside0.mk hk4
    have HD := Aside0.mk hb4
    have HS := Aside0.mk X.out.blk
    have HN := Aside0.mk hp4
    clear hk4 hb4 hp4
    have U_ := Aside0.mk (C_keep U.out HS.out HK.out)
    clear U
    have U := U_
    clear U_
    have C_ := Aside0.mk (CurP.keep C.out HS.out HK.out (by have := HLT.out; omega))
    clear C
    have C := C_
    clear C_
    have X_ := Aside0.mk (HN.out)
    clear X
    have X := X_
    clear X_
    have HB_ := Aside0.mk (below_keep HB.out HD.out HX2.out)
    clear HB HD HK HS HN
    have HB := HB_
    clear HB_
    refine ⟨_, rfl, ?_⟩
    refine hK.out _ _ trivial (fun hHeld => ?_)
    clear hK K
    refine norm_ (a' := ?_) ?_ ?_
    rotate_left
    · show Act.put _ (some 20) _ = _
      simp only [Act.put, List.setIfInBounds_toArray, List.set_cons_zero, List.set_cons_succ, i64_w, i32_w]
      rfl
    refine last_true (S := fun w' => w'.cell? ⟨gx, 1, none⟩ = some (.int .i64 p) ∧ w'.cell? ⟨gx, 2, none⟩ = some (.int .i64 e)) ?_
    clear hHeld
    have hHeld := And.intro (CurR.cellP X.out) (CurR.cellE X.out)
    refine pure_ (i := 4) (N := some 21) (v := ?_) (a' := ?_) #[true, true, true, true, true, false, false, false, false, false, false, false, false, false, false, false, false, false, false, false, false, false, false, false, false, false, false, false, false, false, false, false] rfl rfl (by kernel_rfl) (fun _ _ _ h => h) (Or.inl ⟨by rfl, ?_⟩) ?_ ?_
    rotate_left
    · intro w'
      go_simp
      with_reducible rfl
    rotate_left
    · simp only [Act.put, List.setIfInBounds_toArray, List.set_cons_zero, List.set_cons_succ, i64_w, i32_w]
      rfl
    refine pure_ (i := 5) (N := some 22) (v := ?_) (a' := ?_) #[true, true, true, true, true, true, false, false, false, false, false, false, false, false, false, false, false, false, false, false, false, false, false, false, false, false, false, false, false, false, false, false] rfl rfl (by kernel_rfl) (fun _ _ _ h => h) (Or.inl ⟨by rfl, ?_⟩) ?_ ?_
    rotate_left
    · intro w'
      go_simp
      with_reducible rfl
    rotate_left
    · simp only [Act.put, List.setIfInBounds_toArray, List.set_cons_zero, List.set_cons_succ, i64_w, i32_w]
      rfl
    refine pure_ (i := 6) (N := some 23) (v := ?_) (a' := ?_) #[true, true, true, true, true, true, true, false, false, false, false, false, false, false, false, false, false, false, false, false, false, false, false, false, false, false, false, false, false, false, false, false] rfl rfl (by kernel_rfl) (fun _ _ _ h => h) (Or.inl ⟨by rfl, ?_⟩) ?_ ?_
    rotate_left
    · intro w'
      go_simp
      with_reducible rfl
    rotate_left
    · simp only [Act.put, List.setIfInBounds_toArray, List.set_cons_zero, List.set_cons_succ, i64_w, i32_w]
      rfl
    refine pure_ (i := 8) (N := some 25) (v := ?_) (a' := ?_) #[true, true, true, true, true, true, true, false, true, false, false, false, false, false, false, false, false, false, false, false, false, false, false, false, false, false, false, false, false, false, false, false] rfl rfl (by kernel_rfl) (fun _ _ _ h => h) (Or.inl ⟨by rfl, ?_⟩) ?_ ?_
    rotate_left
    · intro w'
      go_simp
      with_reducible rfl
    rotate_left
    · simp only [Act.put, List.setIfInBounds_toArray, List.set_cons_zero, List.set_cons_succ, i64_w, i32_w]
      rfl
    refine pure_ (i := 9) (N := some 26) (v := ?_) (a' := ?_) #[true, true, true, true, true, true, true, false, true, true, false, false, false, false, false, false, false, false, false, false, false, false, false, false, false, false, false, false, false, false, false, false] rfl rfl (by kernel_rfl) (fun _ _ _ h => h) (Or.inl ⟨by rfl, ?_⟩) ?_ ?_
    rotate_left
    · intro w'
      go_simp
      with_reducible rfl
    rotate_left
    · simp only [Act.put, List.setIfInBounds_toArray, List.set_cons_zero, List.set_cons_succ, i64_w, i32_w]
      rfl
    refine pure_ (i := 10) (N := some 27) (v := ?_) (a' := ?_) #[true, true, true, true, true, true, true, false, true, true, true, false, false, false, false, false, false, false, false, false, false, false, false, false, false, false, false, false, false, false, false, false] rfl rfl (by kernel_rfl) (fun _ _ _ h => h) (Or.inl ⟨by rfl, ?_⟩) ?_ ?_
    rotate_left
    · intro w'
      go_simp
      with_reducible rfl
    rotate_left
    · simp only [Act.put, List.setIfInBounds_toArray, List.set_cons_zero, List.set_cons_succ, i64_w, i32_w]
      rfl
    refine take_ (i := 11) (N := some 28) (v := ?_) (a' := ?_) #[true, true, true, true, true, true, true, false, true, true, true, true, false, false, false, false, false, false, false, false, false, false, false, false, false, false, false, false, false, false, false, false] rfl rfl (by kernel_rfl) (fun _ _ _ h => h) (Or.inl ⟨by rfl, ?_⟩) hHeld ?_ ?_
    rotate_left
    · rintro w' ⟨s0, s1⟩
      go_simp
      with_reducible rfl
    rotate_left
    · simp only [Act.put, List.setIfInBounds_toArray, List.set_cons_zero, List.set_cons_succ, i64_w, i32_w]
      rfl
    refine one_ (i := 7) (N := some 24) #[true, true, true, true, true, true, true, true, true, true, true, true, false, false, false, false, false, false, false, false, false, false, false, false, false, false, false, false, false, false, false, false] rfl rfl (by kernel_rfl) (by decide) (fun K hK => ?_)
    refine goes_ Tryd.func24 (by kernel_rfl) rfl #[.pointer (some ⟨g1, 0, none⟩)] (by rfl) rfl rfl (by simp only [List.map_toArray, List.map_cons, List.map_nil]; rfl) ?_
    with_reducible refine (CurP_Place C.out (p) (p) (e) rfl).mono ?_
    rintro e w5 ⟨rfl, hp5, hk5, hb5⟩
    have HK := Aside0.mk hk5
    have HD := Aside0.mk hb5
    have HS := Aside0.mk C.out.blk
    have HN := Aside0.mk hp5
    clear hk5 hb5 hp5
    have U_ := Aside0.mk (C_keep U.out HS.out HK.out)
    clear U
    have U := U_
    clear U_
    have C_ := Aside0.mk (HN.out)
    clear C
    have C := C_
    clear C_
    have X_ := Aside0.mk (CurR.keep X.out HS.out HK.out (by have := HLT.out; omega))
    clear X
    have X := X_
    clear X_
    have HB_ := Aside0.mk (below_keep HB.out HD.out HG1.out)
    clear HB HD HK HS HN
    have HB := HB_
    clear HB_
    refine ⟨_, rfl, ?_⟩
    refine hK.out _ _ ⟨(CurR.cellP X.out), (CurR.cellE X.out)⟩ (fun hHeld => ?_)
    clear hK K
    refine norm_ (a' := ?_) ?_ ?_
    rotate_left
    · show Act.put _ (some 24) _ = _
      simp only [Act.put, List.setIfInBounds_toArray, List.set_cons_zero, List.set_cons_succ, i64_w, i32_w]
      rfl
    refine pure_ (i := 12) (N := some 29) (v := ?_) (a' := ?_) #[true, true, true, true, true, true, true, true, true, true, true, true, true, false, false, false, false, false, false, false, false, false, false, false, false, false, false, false, false, false, false, false] rfl rfl (by kernel_rfl) (fun _ _ _ h => h) (Or.inl ⟨by rfl, ?_⟩) ?_ ?_
    rotate_left
    · intro w'
      go_simp
      with_reducible rfl
    rotate_left
    · simp only [Act.put, List.setIfInBounds_toArray, List.set_cons_zero, List.set_cons_succ, i64_w, i32_w]
      rfl
    refine pure_ (i := 13) (N := some 30) (v := ?_) (a' := ?_) #[true, true, true, true, true, true, true, true, true, true, true, true, true, true, false, false, false, false, false, false, false, false, false, false, false, false, false, false, false, false, false, false] rfl rfl (by kernel_rfl) (fun _ _ _ h => h) (Or.inl ⟨by rfl, ?_⟩) ?_ ?_
    rotate_left
    · intro w'
      go_simp
      with_reducible rfl
    rotate_left
    · simp only [Act.put, List.setIfInBounds_toArray, List.set_cons_zero, List.set_cons_succ, i64_w, i32_w]
      rfl
    refine pure_ (i := 14) (N := some 31) (v := ?_) (a' := ?_) #[true, true, true, true, true, true, true, true, true, true, true, true, true, true, true, false, false, false, false, false, false, false, false, false, false, false, false, false, false, false, false, false] rfl rfl (by kernel_rfl) (fun _ _ _ h => h) (Or.inl ⟨by rfl, ?_⟩) ?_ ?_
    rotate_left
    · intro w'
      go_simp
      with_reducible rfl
    rotate_left
    · simp only [Act.put, List.setIfInBounds_toArray, List.set_cons_zero, List.set_cons_succ, i64_w, i32_w]
      rfl
    refine pure_ (i := 15) (N := some 32) (v := ?_) (a' := ?_) #[true, true, true, true, true, true, true, true, true, true, true, true, true, true, true, true, false, false, false, false, false, false, false, false, false, false, false, false, false, false, false, false] rfl rfl (by kernel_rfl) (fun _ _ _ h => h) (Or.inl ⟨by rfl, ?_⟩) ?_ ?_
    rotate_left
    · intro w'
      go_simp
      with_reducible rfl
    rotate_left
    · simp only [Act.put, List.setIfInBounds_toArray, List.set_cons_zero, List.set_cons_succ, i64_w, i32_w]
      rfl
    refine pure_ (i := 17) (N := some 34) (v := ?_) (a' := ?_) #[true, true, true, true, true, true, true, true, true, true, true, true, true, true, true, true, false, true, false, false, false, false, false, false, false, false, false, false, false, false, false, false] rfl rfl (by kernel_rfl) (fun _ _ _ h => h) (Or.inl ⟨by rfl, ?_⟩) ?_ ?_
    rotate_left
    · intro w'
      go_simp
      with_reducible rfl
    rotate_left
    · simp only [Act.put, List.setIfInBounds_toArray, List.set_cons_zero, List.set_cons_succ, i64_w, i32_w]
      rfl
    refine pure_ (i := 18) (N := some 35) (v := ?_) (a' := ?_) #[true, true, true, true, true, true, true, true, true, true, true, true, true, true, true, true, false, true, true, false, false, false, false, false, false, false, false, false, false, false, false, false] rfl rfl (by kernel_rfl) (fun _ _ _ h => h) (Or.inl ⟨by rfl, ?_⟩) ?_ ?_
    rotate_left
    · intro w'
      go_simp
      with_reducible rfl
    rotate_left
    · simp only [Act.put, List.setIfInBounds_toArray, List.set_cons_zero, List.set_cons_succ, i64_w, i32_w]
      rfl
    refine pure_ (i := 19) (N := some 36) (v := ?_) (a' := ?_) #[true, true, true, true, true, true, true, true, true, true, true, true, true, true, true, true, false, true, true, true, false, false, false, false, false, false, false, false, false, false, false, false] rfl rfl (by kernel_rfl) (fun _ _ _ h => h) (Or.inl ⟨by rfl, ?_⟩) ?_ ?_
    rotate_left
    · intro w'
      go_simp
      with_reducible rfl
    rotate_left
    · simp only [Act.put, List.setIfInBounds_toArray, List.set_cons_zero, List.set_cons_succ, i64_w, i32_w]
      rfl
    refine take_ (i := 20) (N := some 37) (v := ?_) (a' := ?_) #[true, true, true, true, true, true, true, true, true, true, true, true, true, true, true, true, false, true, true, true, true, false, false, false, false, false, false, false, false, false, false, false] rfl rfl (by kernel_rfl) (fun _ _ _ h => h) (Or.inl ⟨by rfl, ?_⟩) hHeld ?_ ?_
    rotate_left
    · rintro w' ⟨s0, s1⟩
      go_simp
      with_reducible rfl
    rotate_left
    · simp only [Act.put, List.setIfInBounds_toArray, List.set_cons_zero, List.set_cons_succ, i64_w, i32_w]
      rfl
    refine one_ (i := 16) (N := some 33) #[true, true, true, true, true, true, true, true, true, true, true, true, true, true, true, true, true, true, true, true, true, false, false, false, false, false, false, false, false, false, false, false] rfl rfl (by kernel_rfl) (by decide) (fun K hK => ?_)
    refine goes_ Tryd.func25 (by kernel_rfl) rfl #[.pointer (some ⟨g1, 0, none⟩)] (by rfl) rfl rfl (by simp only [List.map_toArray, List.map_cons, List.map_nil]; rfl) ?_
    with_reducible refine (CurP_Err C.out (e) (p) (e) rfl).mono ?_
    rintro e w6 ⟨rfl, hp6, hk6, hb6⟩
    have HK := Aside0.mk hk6
    have HD := Aside0.mk hb6
    have HS := Aside0.mk C.out.blk
    have HN := Aside0.mk hp6
    clear hk6 hb6 hp6
    have U_ := Aside0.mk (C_keep U.out HS.out HK.out)
    clear U
    have U := U_
    clear U_
    have C_ := Aside0.mk (HN.out)
    clear C
    have C := C_
    clear C_
    have X_ := Aside0.mk (CurR.keep X.out HS.out HK.out (by have := HLT.out; omega))
    clear X
    have X := X_
    clear X_
    have HB_ := Aside0.mk (below_keep HB.out HD.out HG1.out)
    clear HB HD HK HS HN
    have HB := HB_
    clear HB_
    refine ⟨_, rfl, ?_⟩
    refine hK.out _ _ ⟨(CurR.cellP X.out), (CurR.cellE X.out)⟩ (fun hHeld => ?_)
    clear hK K
    refine norm_ (a' := ?_) ?_ ?_
    rotate_left
    · show Act.put _ (some 33) _ = _
      simp only [Act.put, List.setIfInBounds_toArray, List.set_cons_zero, List.set_cons_succ, i64_w, i32_w]
      rfl
    refine pure_ (i := 21) (N := some 38) (v := ?_) (a' := ?_) #[true, true, true, true, true, true, true, true, true, true, true, true, true, true, true, true, true, true, true, true, true, true, false, false, false, false, false, false, false, false, false, false] rfl rfl (by kernel_rfl) (fun _ _ _ h => h) (Or.inl ⟨by rfl, ?_⟩) ?_ ?_
    rotate_left
    · intro w'
      go_simp
      with_reducible rfl
    rotate_left
    · simp only [Act.put, List.setIfInBounds_toArray, List.set_cons_zero, List.set_cons_succ, i64_w, i32_w]
      rfl
    refine pure_ (i := 22) (N := some 39) (v := ?_) (a' := ?_) #[true, true, true, true, true, true, true, true, true, true, true, true, true, true, true, true, true, true, true, true, true, true, true, false, false, false, false, false, false, false, false, false] rfl rfl (by kernel_rfl) (fun _ _ _ h => h) (Or.inl ⟨by rfl, ?_⟩) ?_ ?_
    rotate_left
    · intro w'
      go_simp
      with_reducible rfl
    rotate_left
    · simp only [Act.put, List.setIfInBounds_toArray, List.set_cons_zero, List.set_cons_succ, i64_w, i32_w]
      rfl
    refine pure_ (i := 23) (N := some 40) (v := ?_) (a' := ?_) #[true, true, true, true, true, true, true, true, true, true, true, true, true, true, true, true, true, true, true, true, true, true, true, true, false, false, false, false, false, false, false, false] rfl rfl (by kernel_rfl) (fun _ _ _ h => h) (Or.inl ⟨by rfl, ?_⟩) ?_ ?_
    rotate_left
    · intro w'
      go_simp
      with_reducible rfl
    rotate_left
    · simp only [Act.put, List.setIfInBounds_toArray, List.set_cons_zero, List.set_cons_succ, i64_w, i32_w]
      rfl
    refine pure_ (i := 25) (N := some 42) (v := ?_) (a' := ?_) #[true, true, true, true, true, true, true, true, true, true, true, true, true, true, true, true, true, true, true, true, true, true, true, true, false, true, false, false, false, false, false, false] rfl rfl (by kernel_rfl) (fun _ _ _ h => h) (Or.inl ⟨by rfl, ?_⟩) ?_ ?_
    rotate_left
    · intro w'
      go_simp
      with_reducible rfl
    rotate_left
    · simp only [Act.put, List.setIfInBounds_toArray, List.set_cons_zero, List.set_cons_succ, i64_w, i32_w]
      rfl
    refine one_ (i := 24) (N := some 41) #[true, true, true, true, true, true, true, true, true, true, true, true, true, true, true, true, true, true, true, true, true, true, true, true, true, true, false, false, false, false, false, false] rfl rfl (by kernel_rfl) (by decide) (fun K hK => ?_)
    refine goes_ Tryd.func22 (by kernel_rfl) rfl #[.pointer none] (by rfl) rfl rfl (by simp only [List.map_toArray, List.map_cons, List.map_nil]; rfl) ?_
    refine (cred_Read_nil  w6  ).mono ?_
    rintro e w7 ⟨rfl, hb7⟩
    have HD : Aside0 (Below w6.heap.size w6 w7) := ⟨below_step (Below.refl _ _) hb7⟩
    clear hb7
    have U_ := Aside0.mk (Kd.C_below U.out HD.out)
    clear U
    have U := U_
    clear U_
    have C_ := Aside0.mk (CurP.below C.out HD.out)
    clear C
    have C := C_
    clear C_
    have X_ := Aside0.mk (CurR.below X.out HD.out)
    clear X
    have X := X_
    clear X_
    have HB_ := Aside0.mk (below_step HB.out HD.out)
    clear HB HD
    have HB := HB_
    clear HB_
    refine ⟨_, rfl, ?_⟩
    refine hK.out _ _ ⟨(CurR.cellP X.out), (CurR.cellE X.out)⟩ (fun hHeld => ?_)
    clear hK K
    refine norm_ (a' := ?_) ?_ ?_
    rotate_left
    · show Act.put _ (some 41) _ = _
      simp only [Act.put, List.setIfInBounds_toArray, List.set_cons_zero, List.set_cons_succ, i64_w, i32_w]
      rfl
    refine pure_ (i := 26) (N := some 43) (v := ?_) (a' := ?_) #[true, true, true, true, true, true, true, true, true, true, true, true, true, true, true, true, true, true, true, true, true, true, true, true, true, true, true, false, false, false, false, false] rfl rfl (by kernel_rfl) (fun _ _ _ h => h) (Or.inl ⟨by rfl, ?_⟩) ?_ ?_
    rotate_left
    · intro w'
      go_simp
      with_reducible rfl
    rotate_left
    · simp only [Act.put, List.setIfInBounds_toArray, List.set_cons_zero, List.set_cons_succ, i64_w, i32_w]
      rfl
    refine pure_ (i := 27) (N := some 44) (v := ?_) (a' := ?_) #[true, true, true, true, true, true, true, true, true, true, true, true, true, true, true, true, true, true, true, true, true, true, true, true, true, true, true, true, false, false, false, false] rfl rfl (by kernel_rfl) (fun _ _ _ h => h) (Or.inl ⟨by rfl, ?_⟩) ?_ ?_
    rotate_left
    · intro w'
      go_simp
      with_reducible rfl
    rotate_left
    · simp only [Act.put, List.setIfInBounds_toArray, List.set_cons_zero, List.set_cons_succ, i64_w, i32_w]
      rfl
    refine pure_ (i := 28) (N := some 45) (v := ?_) (a' := ?_) #[true, true, true, true, true, true, true, true, true, true, true, true, true, true, true, true, true, true, true, true, true, true, true, true, true, true, true, true, true, false, false, false] rfl rfl (by kernel_rfl) (fun _ _ _ h => h) (Or.inl ⟨by rfl, ?_⟩) ?_ ?_
    rotate_left
    · intro w'
      go_simp
      with_reducible rfl
    rotate_left
    · simp only [Act.put, List.setIfInBounds_toArray, List.set_cons_zero, List.set_cons_succ, i64_w, i32_w]
      rfl
    refine one_ (i := 29) (N := some 46) #[true, true, true, true, true, true, true, true, true, true, true, true, true, true, true, true, true, true, true, true, true, true, true, true, true, true, true, true, true, true, false, false] rfl rfl (by kernel_rfl) (by decide) (fun K hK => ?_)
    refine goes_ Tryd.func15 (by kernel_rfl) rfl #[] (by rfl) rfl rfl (by simp only [List.map_toArray, List.map_cons, List.map_nil]) ?_
    with_reducible refine (liverylaw05_lives.calls 100  true w7  hlv_.out).mono ?_
    rintro e w8 ⟨rfl, hb8⟩
    have HD : Aside0 (Below w7.heap.size w7 w8) := ⟨below_step (Below.refl _ _) hb8⟩
    clear hb8
    have U_ := Aside0.mk (Kd.C_below U.out HD.out)
    clear U
    have U := U_
    clear U_
    have C_ := Aside0.mk (CurP.below C.out HD.out)
    clear C
    have C := C_
    clear C_
    have X_ := Aside0.mk (CurR.below X.out HD.out)
    clear X
    have X := X_
    clear X_
    have HB_ := Aside0.mk (below_step HB.out HD.out)
    clear HB HD
    have HB := HB_
    clear HB_
    refine ⟨_, rfl, ?_⟩
    refine hK.out _ _ ⟨(CurR.cellP X.out), (CurR.cellE X.out)⟩ (fun hHeld => ?_)
    clear hK K
    refine norm_ (a' := ?_) ?_ ?_
    rotate_left
    · show Act.put _ (some 46) _ = _
      simp only [Act.put, List.setIfInBounds_toArray, List.set_cons_zero, List.set_cons_succ, i64_w, i32_w]
      rfl
    refine pure_ (i := 30) (N := some 47) (v := ?_) (a' := ?_) #[true, true, true, true, true, true, true, true, true, true, true, true, true, true, true, true, true, true, true, true, true, true, true, true, true, true, true, true, true, true, true, false] rfl rfl (by kernel_rfl) (fun _ _ _ h => h) (Or.inl ⟨by rfl, ?_⟩) ?_ ?_
    rotate_left
    · intro w'
      go_simp
      with_reducible rfl
    rotate_left
    · simp only [Act.put, List.setIfInBounds_toArray, List.set_cons_zero, List.set_cons_succ, i64_w, i32_w]
      rfl
    refine pure_ (i := 31) (N := some 2) (v := ?_) (a' := ?_) #[true, true, true, true, true, true, true, true, true, true, true, true, true, true, true, true, true, true, true, true, true, true, true, true, true, true, true, true, true, true, true, true] rfl rfl (by kernel_rfl) (fun _ _ _ h => h) (Or.inl ⟨by rfl, ?_⟩) ?_ ?_
    rotate_left
    · intro w'
      go_simp
      with_reducible rfl
    rotate_left
    · simp only [Act.put, List.setIfInBounds_toArray, List.set_cons_zero, List.set_cons_succ, i64_w, i32_w]
      rfl
    refine done_ (by kernel_rfl) ?_
    go_wp2_with fail
    go_ret
    exact ⟨rfl, HB.out⟩
end Go.Proofs.YtpnmmkoiemeodaaDoor.P
