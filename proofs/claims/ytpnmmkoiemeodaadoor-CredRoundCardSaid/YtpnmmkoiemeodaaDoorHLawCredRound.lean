/- A credential that is put is read back; what is read is put as just those bytes. -/
import Derived.Test.YtpnmmkoiemeodaaDoorHMethC
import Derived.Test.YtpnmmkoiemeodaaDoorHNew
import Derived.Test.YtpnmmkoiemeodaaDoorC5Q
import Derived.Test.YtpnmmkoiemeodaaDoorP22
import Derived.Test.YtpnmmkoiemeodaaDoorP20
import Derived.Test.YtpnmmkoiemeodaaDoorP21
import Derived.Test.YtpnmmkoiemeodaaDoorP3
import Derived.Test.YtpnmmkoiemeodaaDoorP40
import Derived.Test.YtpnmmkoiemeodaaDoorHArgs
import Derived.OpenShut
import Derived.Outline
namespace Go.Proofs.YtpnmmkoiemeodaaDoor.P
open Go.RowKit Go.Proofs.YtpnmmkoiemeodaaDoorW.PrintWords Go.Proofs.YtpnmmkoiemeodaaDoorW.PrintLast Go.Proofs.YtpnmmkoiemeodaaDoorW.PrintMore
set_option linter.unusedVariables false
set_option linter.unusedSimpArgs false
attribute [local go_sem high] eqA27
theorem hcut_to (q : Nat) (A : Option Addr) (n c : Nat) (h : q ≤ n) (hc : n ≤ c) : ∀ W : World, (Instr.slice 34 (.slice A n c) none (some (.int .i64 (q : Int))) none).run Tryd.prog W = .ok (.slice A q c) W := by
  obtain ⟨i06, hi06, _, _, _⟩ := info_parts hinfo5
  have := cut_to (P := Tryd.prog) 34 5 .i64 Tryd.underlying34 hi06 A n c (q : Int) (by omega) (by omega) hc
  rwa [Int.toNat_natCast] at this
theorem CurP_End {W : World} {g : Nat} {b : List Int} {p e : Int} (h : CurP W g b p e)  (r1 : Int) (p' e' : Int) (hf : wire_Cursor_End.f b p e  = some (r1, p', e')) :
    Calls Tryd.prog 26 #[.pointer (some ⟨g, 0, none⟩)] W fun e2 w' => e2 = .returned (.int .i64 r1) ∧ CurP w' g b p' e' ∧ KeepBut W w' g none ∧ Below g W w' :=
  (wire_Cursor_End.calls g b p e  r1 p' e' (upTo W g) W h.isS h.isB hf).mono fun _ _ hq => ⟨hq.1, (h.ofS hq.2.1 hq.2.2.1 hq.2.2.2).1, hq.2.2.2, (h.ofS hq.2.1 hq.2.2.1 hq.2.2.2).2⟩
set_option maxHeartbeats 2000000 in
set_option maxRecDepth 100000 in
theorem credRound_calls (d : Int) (q : Int) (n : ByteArray) (c : Int) (s : ByteArray) (ao : ByteArray) (an : ByteArray) (bo : ByteArray) (bn : ByteArray) (A0 : Option Addr) (c0 : Nat) (l0 : List Int) (w : World) (hx0 : ∀ x ∈ l0, 0 ≤ x ∧ x ≤ 255) (hr0 : Kd.C (Kd.int .u8) w A0 l0.length l0) (hc0 : l0.length ≤ c0) :
    Calls Tryd.prog 8 #[.agg #[.int .i64 d, .int .i64 q, .string n, .int .i64 c, .string s, .string ao, .string an, .string bo, .string bn], .slice A0 l0.length c0] w fun e w' => e = .returned (.bool true) ∧ Below w.heap.size w w' := by
  have L0 := Aside0.mk hr0
  have L0c := Aside0.mk hc0
  obtain ⟨b, eb⟩ : ∃ v, v = l0.take 200 := ⟨_, rfl⟩
  have hb : b.length ≤ 200 := by rw [eb, List.length_take]; omega
  have hok : okB b = true := okB_of fun x hx => hx0 x (List.mem_of_mem_take (eb ▸ hx))
  have hlv := lives05 100 (by omega)
  have hb_ := Aside0.mk hb
  have hok_ := Aside0.mk hok
  have hlv_ := Aside0.mk hlv
  clear hb hok hlv hr0 hc0 hx0
  go_enter Tryd.func8, Tryd.ntmps8
  go_upto_if 15 with fail
  (try simp only [Act.put, List.setIfInBounds_toArray, List.set_cons_zero, List.set_cons_succ])
  go_cut [1] (fun v1 wc => Aside0 (v1 = .slice A0 b.length c0) ∧ Aside0 (b.length ≤ c0) ∧ Aside0 ((Kd.int .u8).C wc A0 b.length b) ∧ Aside0 (wc.heap[w.heap.size]? = some (.cells #[.int .i64 d, .int .i64 q, .string n, .int .i64 c, .string s, .string ao, .string an, .string bo, .string bn] 27 (0, 0))) ∧ Aside0 (Below w.heap.size w wc))
  case first =>
    by_cases c20 : (200 : Int) < (l0.length : Int)
    · obtain ⟨i06, hi06, _, _, _⟩ := info_parts hinfo5
      have hcut_ := cut_to (P := Tryd.prog) 34 5 .i64 Tryd.underlying34 hi06 A0 l0.length c0 200 (by decide) (by omega) L0c.out
      rw [show Int.toNat 200 = b.length by rw [eb, List.length_take]; simp; omega] at hcut_
      have c20b : decide ((200 : Int) < (l0.length : Int)) = true := decide_eq_true c20
      have U : Aside0 ((Kd.int .u8).C w A0 b.length b) := ⟨by rw [eb]; exact Kd.C_take (m := 200) L0.out (by omega)⟩
      have Uc : Aside0 (b.length ≤ c0) := ⟨by have := L0c.out; have := hb_.out; omega⟩
      clear hi06 eb c20
      (first | rw [c20b] | (simp only [i64_w, i32_w]; rw [c20b]) | skip)
      go_wp2
      go_meet
      case rel => exact ⟨⟨rfl⟩, Uc, ⟨Kd.C_alloc U.out _⟩, ⟨by exact blk_new _ _⟩, ⟨by exact below_alloc (Below.refl _ _) _⟩⟩
    · have e0 : b = l0 := by rw [eb]; exact List.take_of_length_le (by omega)
      clear eb
      subst e0
      have c20b : decide ((200 : Int) < (b.length : Int)) = false := decide_eq_false c20
      clear c20
      (first | rw [c20b] | (simp only [i64_w, i32_w]; rw [c20b]) | skip)
      go_wp2
      go_meet
      case rel => exact ⟨⟨rfl⟩, L0c, ⟨Kd.C_alloc L0.out _⟩, ⟨by exact blk_new _ _⟩, ⟨by exact below_alloc (Below.refl _ _) _⟩⟩
  case rest =>
    clear eb L0 L0c
    obtain ⟨ev, Uc, U, BK, HB⟩ := hcut
    have ev_ := ev.out
    subst ev_
    clear ev
    obtain ⟨⟨t, e1⟩, et⟩ : ∃ x, x = putR [] d q n c s ao an bo bn := ⟨_, rfl⟩
    have hput := cred_Put_eq 100 [] d q n c s ao an bo bn (by simp) (by omega)
    rw [← et] at hput
    have hput_ := Aside0.mk hput
    clear hput
    obtain ⟨hcz0, hcz1, hcz2, hcz3, hcz4, hcz5, hcz6, hcz7, hcz8, hfz0, hfz1, hfz2, hfz3, hfz4, hfz5, hfz6, hfz7, hfz8⟩ := blk_all9 BK.out
    go_wp2_with fail
    clear hcz0 hcz1 hcz2 hcz3 hcz4 hcz5 hcz6 hcz7 hcz8 hfz0 hfz1 hfz2 hfz3 hfz4 hfz5 hfz6 hfz7 hfz8
    refine (cred_Put.calls 100 none 0 ([] : List Int) (d) (q) (n) (c) (s) (ao) (an) (bo) (bn) t e1 wc (Kd.C_nil _ _) (by decide) hput_.out).mono ?_
    rintro e w1 ⟨v1, rfl, hv1, hb1⟩
    have HD : Aside0 (Below wc.heap.size wc w1) := ⟨below_step (Below.refl _ _) hb1⟩
    clear hb1
    have U_ := Aside0.mk (Kd.C_below U.out HD.out)
    clear U
    have U := U_
    clear U_
    have BK_ := Aside0.mk (blk_below BK.out HD.out)
    clear BK
    have BK := BK_
    clear BK_
    have HB_ := Aside0.mk (below_step HB.out HD.out)
    clear HB HD
    have HB := HB_
    clear HB_
    obtain ⟨A1, c1, ev1⟩ := Kd.R_slice hv1
    subst ev1
    have PAc := Aside0.mk (Kd.R_reads' hv1).2.1
    have PA := Aside0.mk (Kd.R_reads' hv1).2.2
    clear hv1
    go_upto_if 24 with fail
    (try simp only [Act.put, List.setIfInBounds_toArray, List.set_cons_zero, List.set_cons_succ])
    go_cut [] (fun wc => Aside0 ((Kd.int .u8).C wc A0 b.length b) ∧ Aside0 (Below w.heap.size w wc))
    case first =>
      by_cases hv : credB d q n c s ao an bo bn = true
      · skip
        unfold putR at et
        rw [if_pos hv] at et
        injection et with et1 et2
        rw [List.nil_append] at et1
        subst et2
        have htl : Aside0 (t.length ≤ 1000) := ⟨by rw [et1]; exact putC_len _ _ _ _ _ _ _ _ _ hv⟩
        have hto : okB t = true := by rw [et1]; exact okB_putC _ _ _ _ _ _ _ _ _ hv
        have hrd : readC t 0 0 = (d, q, n, c, s, ao, an, bo, bn, (t.length : Int), 0) := by rw [et1]; exact readC_put _ _ _ _ _ _ _ _ _ hv (et1 ▸ hto) (by have := htl.out; rw [et1] at this; omega)
        have h1 := cred_Read_eq t 0 0 hto (by omega) (by omega) (by have := htl.out; omega)
        rw [hrd] at h1
        have h1_ := Aside0.mk h1
        clear h1 hrd hto et1 hv
        go_wp2_with fail
        have HLB := Aside0.mk (blk_lt BK.out)
        refine (wire_New.calls A1 c1 t w1 (PA.out) (by have := htl.out; omega)).mono ?_
        rintro e w2 ⟨g2, rfl, hg2, hn2, hb2⟩
        have HD : Aside0 (Below w1.heap.size w1 w2) := ⟨below_step (Below.refl _ _) hb2⟩
        clear hb2
        have HG2 : Aside0 (w.heap.size ≤ g2) := ⟨by have := HB.out.size; (try simp at hg2); omega⟩
        have HX2 : Aside0 (w1.heap.size ≤ g2) := ⟨by (try simp at hg2); omega⟩
        clear hg2
        have U_ := Aside0.mk (Kd.C_below U.out HD.out)
        clear U
        have U := U_
        clear U_
        have BK_ := Aside0.mk (blk_below BK.out HD.out)
        clear BK
        have BK := BK_
        clear BK_
        have PA_ := Aside0.mk (Kd.C_below PA.out HD.out)
        clear PA
        have PA := PA_
        clear PA_
        have HB_ := Aside0.mk (below_step HB.out HD.out)
        clear HB HD
        have HB := HB_
        clear HB_
        have C := Aside0.mk hn2
        clear hn2
        go_wp2_with fail
        clear PA PAc
        have GLT := Aside0.mk (Nat.lt_of_lt_of_le HLB.out HX2.out)
        have HD : Aside0 (Below w2.heap.size w2 w2.drew) := ⟨below_drew1 (Below.refl _ _)⟩
        have U_ := Aside0.mk (Kd.C_below U.out HD.out)
        clear U
        have U := U_
        clear U_
        have BK_ := Aside0.mk (blk_below BK.out HD.out)
        clear BK
        have BK := BK_
        clear BK_
        have C_ := Aside0.mk (CurP.below C.out HD.out)
        clear C
        have C := C_
        clear C_
        have HB_ := Aside0.mk (below_step HB.out HD.out)
        clear HB HD
        have HB := HB_
        clear HB_
        refine start_ (n := 9) (S := fun w' => w'.cell? ⟨w.heap.size, 0, none⟩ = some (.int .i64 d) ∧ w'.cell? ⟨w.heap.size, 1, none⟩ = some (.int .i64 q) ∧ w'.cell? ⟨w.heap.size, 2, none⟩ = some (.string n) ∧ w'.cell? ⟨w.heap.size, 3, none⟩ = some (.int .i64 c) ∧ w'.cell? ⟨w.heap.size, 4, none⟩ = some (.string s) ∧ w'.cell? ⟨w.heap.size, 5, none⟩ = some (.string ao) ∧ w'.cell? ⟨w.heap.size, 6, none⟩ = some (.string an) ∧ w'.cell? ⟨w.heap.size, 7, none⟩ = some (.string bo) ∧ w'.cell? ⟨w.heap.size, 8, none⟩ = some (.string bn)) (ds := []) #[false, false, false, false, false, false, false, false, false] (by kernel_rfl) rfl rfl ⟨((blk_cell BK.out 0).trans rfl), ((blk_cell BK.out 1).trans rfl), ((blk_cell BK.out 2).trans rfl), ((blk_cell BK.out 3).trans rfl), ((blk_cell BK.out 4).trans rfl), ((blk_cell BK.out 5).trans rfl), ((blk_cell BK.out 6).trans rfl), ((blk_cell BK.out 7).trans rfl), ((blk_cell BK.out 8).trans rfl)⟩ (fun hHeld => ?_)
        generalize w2.drew = wd3 at *
        refine pure_ (i := 0) (N := some 29) (v := ?_) (a' := ?_) #[true, false, false, false, false, false, false, false, false] rfl rfl (by kernel_rfl) (fun _ _ _ h => h) (Or.inl ⟨by rfl, ?_⟩) ?_ ?_
        rotate_left
        · intro w'
          go_simp
          with_reducible rfl
        rotate_left
        · simp only [Act.put, List.setIfInBounds_toArray, List.set_cons_zero, List.set_cons_succ, i64_w, i32_w]
          rfl
        refine take_ (i := 2) (N := some 31) (v := ?_) (a' := ?_) #[true, false, true, false, false, false, false, false, false] rfl rfl (by kernel_rfl) (fun _ _ _ h => h) (Or.inl ⟨by rfl, ?_⟩) hHeld ?_ ?_
        rotate_left
        · rintro w' ⟨s0, s1, s2, s3, s4, s5, s6, s7, s8⟩
          go_simp
          with_reducible rfl
        rotate_left
        · simp only [Act.put, List.setIfInBounds_toArray, List.set_cons_zero, List.set_cons_succ, i64_w, i32_w]
          rfl
        refine one_ (i := 1) (N := some 30) #[true, true, true, false, false, false, false, false, false] rfl rfl (by kernel_rfl) (by decide) (fun K hK => ?_)
        refine goes_ Tryd.func22 (by kernel_rfl) rfl #[.pointer (some ⟨g2, 0, none⟩)] (by rfl) rfl rfl (by simp only [List.map_toArray, List.map_cons, List.map_nil]; rfl) ?_
        with_reducible refine (CurP_CRead C.out (d) (q) (n) (c) (s) (ao) (an) (bo) (bn) ((t.length : Int)) (0) h1_.out).mono ?_
        rintro e w4 ⟨rfl, hp4, hk4, hb4⟩
        have HK := Aside0.mk hk4
        have HD := Aside0.mk hb4
        have HS := Aside0.mk C.out.blk
        have HN := Aside0.mk hp4
        clear hk4 hb4 hp4
        have U_ := Aside0.mk (C_keep U.out HS.out HK.out)
        clear U
        have U := U_
        clear U_
        have BK_ := Aside0.mk (KeepBut.blk HK.out BK.out (by have := GLT.out; omega) (by simp))
        clear BK
        have BK := BK_
        clear BK_
        have C_ := Aside0.mk (HN.out)
        clear C
        have C := C_
        clear C_
        have HB_ := Aside0.mk (below_keep HB.out HD.out HG2.out)
        clear HB HD HK HS HN
        have HB := HB_
        clear HB_
        refine ⟨_, rfl, ?_⟩
        refine hK.out _ _ ⟨((blk_cell BK.out 0).trans rfl), ((blk_cell BK.out 1).trans rfl), ((blk_cell BK.out 2).trans rfl), ((blk_cell BK.out 3).trans rfl), ((blk_cell BK.out 4).trans rfl), ((blk_cell BK.out 5).trans rfl), ((blk_cell BK.out 6).trans rfl), ((blk_cell BK.out 7).trans rfl), ((blk_cell BK.out 8).trans rfl)⟩ (fun hHeld => ?_)
        clear hK K
        refine norm_ (a' := ?_) ?_ ?_
        rotate_left
        · show Act.put _ (some 30) _ = _
          simp only [Act.put, List.setIfInBounds_toArray, List.set_cons_zero, List.set_cons_succ, i64_w, i32_w]
          rfl
        refine pure_ (i := 3) (N := some 32) (v := ?_) (a' := ?_) #[true, true, true, true, false, false, false, false, false] rfl rfl (by kernel_rfl) (fun _ _ _ h => h) (Or.inl ⟨by rfl, ?_⟩) ?_ ?_
        rotate_left
        · intro w'
          go_simp
          with_reducible rfl
        rotate_left
        · simp only [Act.put, List.setIfInBounds_toArray, List.set_cons_zero, List.set_cons_succ, i64_w, i32_w]
          rfl
        refine pure_ (i := 4) (N := some 33) (v := ?_) (a' := ?_) #[true, true, true, true, true, false, false, false, false] rfl rfl (by kernel_rfl) (fun _ _ _ h => h) (Or.inl ⟨by rfl, ?_⟩) ?_ ?_
        rotate_left
        · intro w'
          go_simp
          with_reducible rfl
        rotate_left
        · simp only [Act.put, List.setIfInBounds_toArray, List.set_cons_zero, List.set_cons_succ, i64_w, i32_w]
          rfl
        refine pure_ (i := 5) (N := some 34) (v := ?_) (a' := ?_) #[true, true, true, true, true, true, false, false, false] rfl rfl (by kernel_rfl) (fun _ _ _ h => h) (Or.inl ⟨by rfl, ?_⟩) ?_ ?_
        rotate_left
        · intro w'
          go_simp
          with_reducible rfl
        rotate_left
        · simp only [Act.put, List.setIfInBounds_toArray, List.set_cons_zero, List.set_cons_succ, i64_w, i32_w]
          rfl
        refine one_ (i := 6) (N := some 35) #[true, true, true, true, true, true, true, false, false] rfl rfl (by kernel_rfl) (by decide) (fun K hK => ?_)
        refine goes_ Tryd.func26 (by kernel_rfl) rfl #[.pointer (some ⟨g2, 0, none⟩)] (by rfl) rfl rfl (by simp only [List.map_toArray, List.map_cons, List.map_nil]; rfl) ?_
        with_reducible refine (CurP_End C.out (0) ((t.length : Int)) (0) (by unfold wire_Cursor_End.f endAt; rw [if_pos (by omega), if_pos (by omega), if_pos rfl, if_neg (by omega)])).mono ?_
        rintro e w5 ⟨rfl, hp5, hk5, hb5⟩
        have HK := Aside0.mk hk5
        have HD := Aside0.mk hb5
        have HS := Aside0.mk C.out.blk
        have HN := Aside0.mk hp5
        clear hk5 hb5 hp5
        have U_ := Aside0.mk (C_keep U.out HS.out HK.out)
        clear U
        have U := U_
        clear U_
        have BK_ := Aside0.mk (KeepBut.blk HK.out BK.out (by have := GLT.out; omega) (by simp))
        clear BK
        have BK := BK_
        clear BK_
        have C_ := Aside0.mk (HN.out)
        clear C
        have C := C_
        clear C_
        have HB_ := Aside0.mk (below_keep HB.out HD.out HG2.out)
        clear HB HD HK HS HN
        have HB := HB_
        clear HB_
        refine ⟨_, rfl, ?_⟩
        refine hK.out _ _ ⟨((blk_cell BK.out 0).trans rfl), ((blk_cell BK.out 1).trans rfl), ((blk_cell BK.out 2).trans rfl), ((blk_cell BK.out 3).trans rfl), ((blk_cell BK.out 4).trans rfl), ((blk_cell BK.out 5).trans rfl), ((blk_cell BK.out 6).trans rfl), ((blk_cell BK.out 7).trans rfl), ((blk_cell BK.out 8).trans rfl)⟩ (fun hHeld => ?_)
        clear hK K
        refine norm_ (a' := ?_) ?_ ?_
        rotate_left
        · show Act.put _ (some 35) _ = _
          simp only [Act.put, List.setIfInBounds_toArray, List.set_cons_zero, List.set_cons_succ, i64_w, i32_w]
          rfl
        refine pure_ (i := 7) (N := some 36) (v := ?_) (a' := ?_) #[true, true, true, true, true, true, true, true, false] rfl rfl (by kernel_rfl) (fun _ _ _ h => h) (Or.inl ⟨by rfl, ?_⟩) ?_ ?_
        rotate_left
        · intro w'
          go_simp
          with_reducible rfl
        rotate_left
        · simp only [Act.put, List.setIfInBounds_toArray, List.set_cons_zero, List.set_cons_succ, i64_w, i32_w]
          rfl
        refine pure_ (i := 8) (N := some 37) (v := ?_) (a' := ?_) #[true, true, true, true, true, true, true, true, true] rfl rfl (by kernel_rfl) (fun _ _ _ h => h) (Or.inl ⟨by rfl, ?_⟩) ?_ ?_
        rotate_left
        · intro w'
          go_simp
          with_reducible rfl
        rotate_left
        · simp only [Act.put, List.setIfInBounds_toArray, List.set_cons_zero, List.set_cons_succ, i64_w, i32_w]
          rfl
        refine done_ (by kernel_rfl) ?_
        go_wp2
        go_meet
        case rel => exact ⟨U, HB⟩
      · skip
        unfold putR at et
        rw [if_neg hv] at et
        injection et with et1 et2
        subst et1 et2
        go_wp2
        go_meet
        case rel => exact ⟨U, HB⟩
    case rest =>
      clear et hput_
      obtain ⟨U, HB⟩ := hcut
      obtain ⟨⟨d2, q2, n2, c2, s2, ao2, an2, bo2, bn2, p, e⟩, ev⟩ : ∃ x, x = readC b 0 0 := ⟨_, rfl⟩
      have h1 := cred_Read_eq b 0 0 hok_.out (by omega) (by omega) (by have := hb_.out; omega)
      rw [← ev] at h1
      have h1_ := Aside0.mk h1
      clear h1
      by_cases he : e = 0
      · skip
        subst he
        obtain ⟨z1, z2, z3, z4⟩ := readC_back b hok_.out (by have := hb_.out; omega) ev.symm
        obtain ⟨m, em⟩ : ∃ m : Nat, p = (m : Int) := ⟨p.toNat, by omega⟩
        subst em
        rw [Int.toNat_natCast] at z4
        have hml : m ≤ b.length := by omega
        have k1 := cred_Put_eq 100 [] d2 q2 n2 c2 s2 ao2 an2 bo2 bn2 (by simp) (by omega)
        unfold putR at k1
        rw [if_pos z1, List.nil_append, ← z4] at k1
        have hm2 : (b.take m).length = m := by rw [List.length_take]; omega
        obtain ⟨t2, et2⟩ : ∃ t2, t2 = b.take m := ⟨_, rfl⟩
        rw [← et2] at k1 hm2
        subst hm2
        have k2 : liveryref01_Same.f 1001 t2 t2 = some true := by rw [ref01_Same 1001 t2 t2 (by have := hb_.out; omega) (by have := hb_.out; omega)]; simp
        have k1_ := Aside0.mk k1
        have k2_ := Aside0.mk k2
        have et2_ := Aside0.mk et2
        have hml_ := Aside0.mk hml
        have hgt : decide ((b.length : Int) < (t2.length : Int)) = false := decide_eq_false (by omega)
        have hgn : decide (b.length < t2.length) = false := decide_eq_false (by omega)
        clear k1 k2 et2 hml z1 z2 z3 z4 ev
        go_wp2_with fail
        refine (wire_New.calls A0 c0 b wc (U.out) (by have := hb_.out; omega)).mono ?_
        rintro e w26 ⟨g26, rfl, hg26, hn26, hb26⟩
        have HD : Aside0 (Below wc.heap.size wc w26) := ⟨below_step (Below.refl _ _) hb26⟩
        clear hb26
        have HG26 : Aside0 (w.heap.size ≤ g26) := ⟨by have := HB.out.size; (try simp at hg26); omega⟩
        have HX26 : Aside0 (wc.heap.size ≤ g26) := ⟨by (try simp at hg26); omega⟩
        clear hg26
        have U_ := Aside0.mk (Kd.C_below U.out HD.out)
        clear U
        have U := U_
        clear U_
        have HB_ := Aside0.mk (below_step HB.out HD.out)
        clear HB HD
        have HB := HB_
        clear HB_
        have C := Aside0.mk hn26
        clear hn26
        go_wp2_with fail
        refine (CurP_CRead C.out (d2) (q2) (n2) (c2) (s2) (ao2) (an2) (bo2) (bn2) ((t2.length : Int)) (0) h1_.out).mono ?_
        rintro e w27 ⟨rfl, hp27, hk27, hb27⟩
        have HK := Aside0.mk hk27
        have HD := Aside0.mk hb27
        have HS := Aside0.mk C.out.blk
        have HN := Aside0.mk hp27
        clear hk27 hb27 hp27
        have U_ := Aside0.mk (C_keep U.out HS.out HK.out)
        clear U
        have U := U_
        clear U_
        have C_ := Aside0.mk (HN.out)
        clear C
        have C := C_
        clear C_
        have HB_ := Aside0.mk (below_keep HB.out HD.out HG26.out)
        clear HB HD HK HS HN
        have HB := HB_
        clear HB_
        go_wp2_with fail
        obtain ⟨W7, eW⟩ : ∃ W7, W7 = (w27.alloc (.cells #[.int .i64 d2, .int .i64 q2, .string n2, .int .i64 c2, .string s2, .string ao2, .string an2, .string bo2, .string bn2] 27)) := ⟨_, rfl⟩
        rw [← eW]
        have HLT := Aside0.mk C.out.lt
        have BD : Aside0 (W7.heap[w27.heap.size]? = some (.cells #[.int .i64 d2, .int .i64 q2, .string n2, .int .i64 c2, .string s2, .string ao2, .string an2, .string bo2, .string bn2] 27 (0, 0))) := ⟨by rw [eW]; exact blk_new _ _⟩
        have HD : Aside0 (Below w27.heap.size w27 W7) := ⟨by rw [eW]; exact below_alloc (Below.refl _ _) _⟩
        clear eW
        have U_ := Aside0.mk (Kd.C_below U.out HD.out)
        clear U
        have U := U_
        clear U_
        have C_ := Aside0.mk (CurP.below C.out HD.out)
        clear C
        have C := C_
        clear C_
        have HB_ := Aside0.mk (below_step HB.out HD.out)
        clear HB HD
        have HB := HB_
        clear HB_
        obtain ⟨gd, eg⟩ : ∃ gd, gd = w27.heap.size := ⟨_, rfl⟩
        rw [← eg] at BD HLT ⊢
        clear eg
        refine (CurP_Err C.out (0) ((t2.length : Int)) (0) rfl).mono ?_
        rintro e w28 ⟨rfl, hp28, hk28, hb28⟩
        have HK := Aside0.mk hk28
        have HD := Aside0.mk hb28
        have HS := Aside0.mk C.out.blk
        have HN := Aside0.mk hp28
        clear hk28 hb28 hp28
        have U_ := Aside0.mk (C_keep U.out HS.out HK.out)
        clear U
        have U := U_
        clear U_
        have C_ := Aside0.mk (HN.out)
        clear C
        have C := C_
        clear C_
        have BD_ := Aside0.mk (KeepBut.blk HK.out BD.out (by have := HLT.out; omega) (by simp))
        clear BD
        have BD := BD_
        clear BD_
        have HB_ := Aside0.mk (below_keep HB.out HD.out HG26.out)
        clear HB HD HK HS HN
        have HB := HB_
        clear HB_
        obtain ⟨hcz0, hcz1, hcz2, hcz3, hcz4, hcz5, hcz6, hcz7, hcz8, hfz0, hfz1, hfz2, hfz3, hfz4, hfz5, hfz6, hfz7, hfz8⟩ := blk_all9 BD.out
        go_wp2_with fail
        clear hcz0 hcz1 hcz2 hcz3 hcz4 hcz5 hcz6 hcz7 hcz8 hfz0 hfz1 hfz2 hfz3 hfz4 hfz5 hfz6 hfz7 hfz8
        clear BD
        refine (cred_Put.calls 100 none 0 ([] : List Int) (d2) (q2) (n2) (c2) (s2) (ao2) (an2) (bo2) (bn2) t2 0 w28 (Kd.C_nil _ _) (by decide) k1_.out).mono ?_
        rintro e w29 ⟨v29, rfl, hv29, hb29⟩
        have HD : Aside0 (Below w28.heap.size w28 w29) := ⟨below_step (Below.refl _ _) hb29⟩
        clear hb29
        have U_ := Aside0.mk (Kd.C_below U.out HD.out)
        clear U
        have U := U_
        clear U_
        have C_ := Aside0.mk (CurP.below C.out HD.out)
        clear C
        have C := C_
        clear C_
        have HB_ := Aside0.mk (below_step HB.out HD.out)
        clear HB HD
        have HB := HB_
        clear HB_
        obtain ⟨A29, c29, ev29⟩ := Kd.R_slice hv29
        subst ev29
        have PBc := Aside0.mk (Kd.R_reads' hv29).2.1
        have PB := Aside0.mk (Kd.R_reads' hv29).2.2
        clear hv29
        go_wp2_with fail
        refine (CurP_Place C.out ((t2.length : Int)) ((t2.length : Int)) (0) rfl).mono ?_
        rintro e w30 ⟨rfl, hp30, hk30, hb30⟩
        have HK := Aside0.mk hk30
        have HD := Aside0.mk hb30
        have HS := Aside0.mk C.out.blk
        have HN := Aside0.mk hp30
        clear hk30 hb30 hp30
        have U_ := Aside0.mk (C_keep U.out HS.out HK.out)
        clear U
        have U := U_
        clear U_
        have C_ := Aside0.mk (HN.out)
        clear C
        have C := C_
        clear C_
        have PB_ := Aside0.mk (C_keep PB.out HS.out HK.out)
        clear PB
        have PB := PB_
        clear PB_
        have HB_ := Aside0.mk (below_keep HB.out HD.out HG26.out)
        clear HB HD HK HS HN
        have HB := HB_
        clear HB_
        go_wp2_with fail
        refine (CurP_Place C.out ((t2.length : Int)) ((t2.length : Int)) (0) rfl).mono ?_
        rintro e w31 ⟨rfl, hp31, hk31, hb31⟩
        have HK := Aside0.mk hk31
        have HD := Aside0.mk hb31
        have HS := Aside0.mk C.out.blk
        have HN := Aside0.mk hp31
        clear hk31 hb31 hp31
        have U_ := Aside0.mk (C_keep U.out HS.out HK.out)
        clear U
        have U := U_
        clear U_
        have C_ := Aside0.mk (HN.out)
        clear C
        have C := C_
        clear C_
        have PB_ := Aside0.mk (C_keep PB.out HS.out HK.out)
        clear PB
        have PB := PB_
        clear PB_
        have HB_ := Aside0.mk (below_keep HB.out HD.out HG26.out)
        clear HB HD HK HS HN
        have HB := HB_
        clear HB_
        have hcut2 := hcut_to t2.length A0 b.length c0 hml_.out Uc.out
        go_wp2_with fail
        clear hcut2
        have CB := Aside0.mk (show (Kd.int .u8).C w31 A0 t2.length t2 by have h_ := Kd.C_take (m := t2.length) U.out hml_.out; rw [← et2_.out] at h_; exact h_)
        have CBc := Aside0.mk (show t2.length ≤ c0 by have := hml_.out; have := Uc.out; omega)
        refine (liveryref01_Same.calls 1001 A29 c29 t2 A0 c0 t2 true w31 (PB.out) PBc.out (CB.out) CBc.out k2_.out).mono ?_
        rintro e w_ ⟨rfl, ⟨n32, rfl⟩⟩
        obtain ⟨w32, e32⟩ : ∃ W_ : World, W_ = World.drewN w31 n32 := ⟨_, rfl⟩
        have HD : Aside0 (Below w31.heap.size w31 w32) := ⟨by rw [e32]; exact pw_below_drewN (Below.refl _ _) _⟩
        rw [← e32]
        clear e32
        have U_ := Aside0.mk (Kd.C_below U.out HD.out)
        clear U
        have U := U_
        clear U_
        have C_ := Aside0.mk (CurP.below C.out HD.out)
        clear C
        have C := C_
        clear C_
        have PB_ := Aside0.mk (Kd.C_below PB.out HD.out)
        clear PB
        have PB := PB_
        clear PB_
        have CB_ := Aside0.mk (Kd.C_below CB.out HD.out)
        clear CB
        have CB := CB_
        clear CB_
        have HB_ := Aside0.mk (below_step HB.out HD.out)
        clear HB HD
        have HB := HB_
        clear HB_
        go_wp2_with fail
        refine (liverylaw05_lives.calls 100  true w32  hlv_.out).mono ?_
        rintro e w33 ⟨rfl, hb33⟩
        have HD : Aside0 (Below w32.heap.size w32 w33) := ⟨below_step (Below.refl _ _) hb33⟩
        clear hb33
        have U_ := Aside0.mk (Kd.C_below U.out HD.out)
        clear U
        have U := U_
        clear U_
        have C_ := Aside0.mk (CurP.below C.out HD.out)
        clear C
        have C := C_
        clear C_
        have PB_ := Aside0.mk (Kd.C_below PB.out HD.out)
        clear PB
        have PB := PB_
        clear PB_
        have CB_ := Aside0.mk (Kd.C_below CB.out HD.out)
        clear CB
        have CB := CB_
        clear CB_
        have HB_ := Aside0.mk (below_step HB.out HD.out)
        clear HB HD
        have HB := HB_
        clear HB_
        go_wp2_with fail
        go_ret
        exact ⟨rfl, HB.out⟩
      · skip
        have hz := readC_zero b ev.symm he
        simp only [Prod.mk.injEq] at hz
        obtain ⟨rfl, rfl, rfl, rfl, rfl, rfl, rfl, rfl, rfl⟩ := hz
        have heb : (e == 0) = false := beq_eq_false_iff_ne.2 he
        have hec : (e != 0) = true := bne_iff_ne.2 he
        clear he ev
        go_wp2_with fail
        refine (wire_New.calls A0 c0 b wc (U.out) (by have := hb_.out; omega)).mono ?_
        rintro e w46 ⟨g46, rfl, hg46, hn46, hb46⟩
        have HD : Aside0 (Below wc.heap.size wc w46) := ⟨below_step (Below.refl _ _) hb46⟩
        clear hb46
        have HG46 : Aside0 (w.heap.size ≤ g46) := ⟨by have := HB.out.size; (try simp at hg46); omega⟩
        have HX46 : Aside0 (wc.heap.size ≤ g46) := ⟨by (try simp at hg46); omega⟩
        clear hg46
        have U_ := Aside0.mk (Kd.C_below U.out HD.out)
        clear U
        have U := U_
        clear U_
        have HB_ := Aside0.mk (below_step HB.out HD.out)
        clear HB HD
        have HB := HB_
        clear HB_
        have C := Aside0.mk hn46
        clear hn46
        go_wp2_with fail
        refine (CurP_CRead C.out (0) (0) (⟨#[]⟩) (0) (⟨#[]⟩) (⟨#[]⟩) (⟨#[]⟩) (⟨#[]⟩) (⟨#[]⟩) (p) (e) h1_.out).mono ?_
        rintro e w47 ⟨rfl, hp47, hk47, hb47⟩
        have HK := Aside0.mk hk47
        have HD := Aside0.mk hb47
        have HS := Aside0.mk C.out.blk
        have HN := Aside0.mk hp47
        clear hk47 hb47 hp47
        have U_ := Aside0.mk (C_keep U.out HS.out HK.out)
        clear U
        have U := U_
        clear U_
        have C_ := Aside0.mk (HN.out)
        clear C
        have C := C_
        clear C_
        have HB_ := Aside0.mk (below_keep HB.out HD.out HG46.out)
        clear HB HD HK HS HN
        have HB := HB_
        clear HB_
        go_wp2_with fail
        obtain ⟨W7, eW⟩ : ∃ W7, W7 = (w47.alloc (.cells #[.int .i64 0, .int .i64 0, .string ⟨#[]⟩, .int .i64 0, .string ⟨#[]⟩, .string ⟨#[]⟩, .string ⟨#[]⟩, .string ⟨#[]⟩, .string ⟨#[]⟩] 27)) := ⟨_, rfl⟩
        rw [← eW]
        have HLT := Aside0.mk C.out.lt
        have BD : Aside0 (W7.heap[w47.heap.size]? = some (.cells #[.int .i64 0, .int .i64 0, .string ⟨#[]⟩, .int .i64 0, .string ⟨#[]⟩, .string ⟨#[]⟩, .string ⟨#[]⟩, .string ⟨#[]⟩, .string ⟨#[]⟩] 27 (0, 0))) := ⟨by rw [eW]; exact blk_new _ _⟩
        have HD : Aside0 (Below w47.heap.size w47 W7) := ⟨by rw [eW]; exact below_alloc (Below.refl _ _) _⟩
        clear eW
        have U_ := Aside0.mk (Kd.C_below U.out HD.out)
        clear U
        have U := U_
        clear U_
        have C_ := Aside0.mk (CurP.below C.out HD.out)
        clear C
        have C := C_
        clear C_
        have HB_ := Aside0.mk (below_step HB.out HD.out)
        clear HB HD
        have HB := HB_
        clear HB_
        obtain ⟨gd, eg⟩ : ∃ gd, gd = w47.heap.size := ⟨_, rfl⟩
        rw [← eg] at BD HLT ⊢
        clear eg
        refine (CurP_Err C.out (e) (p) (e) rfl).mono ?_
        rintro e w48 ⟨rfl, hp48, hk48, hb48⟩
        have HK := Aside0.mk hk48
        have HD := Aside0.mk hb48
        have HS := Aside0.mk C.out.blk
        have HN := Aside0.mk hp48
        clear hk48 hb48 hp48
        have U_ := Aside0.mk (C_keep U.out HS.out HK.out)
        clear U
        have U := U_
        clear U_
        have C_ := Aside0.mk (HN.out)
        clear C
        have C := C_
        clear C_
        have BD_ := Aside0.mk (KeepBut.blk HK.out BD.out (by have := HLT.out; omega) (by simp))
        clear BD
        have BD := BD_
        clear BD_
        have HB_ := Aside0.mk (below_keep HB.out HD.out HG46.out)
        clear HB HD HK HS HN
        have HB := HB_
        clear HB_
        obtain ⟨hcz0, hcz1, hcz2, hcz3, hcz4, hcz5, hcz6, hcz7, hcz8, hfz0, hfz1, hfz2, hfz3, hfz4, hfz5, hfz6, hfz7, hfz8⟩ := blk_all9 BD.out
        go_wp2_with fail
        clear hcz0 hcz1 hcz2 hcz3 hcz4 hcz5 hcz6 hcz7 hcz8 hfz0 hfz1 hfz2 hfz3 hfz4 hfz5 hfz6 hfz7 hfz8
        clear BD
        refine (liverylaw05_lives.calls 100  true w48  hlv_.out).mono ?_
        rintro e w49 ⟨rfl, hb49⟩
        have HD : Aside0 (Below w48.heap.size w48 w49) := ⟨below_step (Below.refl _ _) hb49⟩
        clear hb49
        have U_ := Aside0.mk (Kd.C_below U.out HD.out)
        clear U
        have U := U_
        clear U_
        have C_ := Aside0.mk (CurP.below C.out HD.out)
        clear C
        have C := C_
        clear C_
        have HB_ := Aside0.mk (below_step HB.out HD.out)
        clear HB HD
        have HB := HB_
        clear HB_
        go_wp2_with fail
        go_ret
        exact ⟨rfl, HB.out⟩
theorem liverylaw05_CredRound.walk (x0 : S27) (A1 : Option Addr) (c1 : Nat) (l1 : List Int) (w : World) (w0 : q27 x0) (w1 : (l1.length ≤ maxLen ∧ l1.length * 1 ≤ 140737488351232 ∧ ∀ x ∈ l1, (Lit.int .u8 x).wf = true)) (hr1 : Kd.C (Kd.int .u8) w A1 l1.length l1) (hc1 : l1.length ≤ c1) :
    Calls Tryd.prog 8 #[.agg #[.int .i64 x0.f0.f0, .int .i64 x0.f0.f1, .string x0.f1, .int .i64 x0.f2, .string x0.f3, .string x0.f4.f0, .string x0.f4.f1, .string x0.f5.f0, .string x0.f5.f1], .slice A1 l1.length c1] w fun e w' => e = .returned (.bool true) ∧ Below w.heap.size w w' :=
  credRound_calls x0.f0.f0 x0.f0.f1 x0.f1 x0.f2 x0.f3 x0.f4.f0 x0.f4.f1 x0.f5.f0 x0.f5.f1 A1 c1 l1 w (fun x hx => Go.bounds_u8 (w1.2.2 x hx)) hr1 hc1
end Go.Proofs.YtpnmmkoiemeodaaDoor.P
