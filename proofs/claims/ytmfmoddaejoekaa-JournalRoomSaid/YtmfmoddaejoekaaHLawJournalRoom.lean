/- A law: what has no room is refused. -/
import Derived.Test.YtmfmoddaejoekaaHLaws17
import Derived.Test.YtmfmoddaejoekaaR17h
set_option linter.unusedVariables false
set_option linter.unusedSimpArgs false
namespace Go.Proofs.Ytmfmoddaejoekaa.P
open Go.RowKit Go.Proofs.YtmfmoddaejoekaaW.PrintWords Go.Proofs.YtmfmoddaejoekaaW.PrintLast Go.Proofs.YtmfmoddaejoekaaW.PrintMore
/-- A row of zeros, new. -/
theorem make_at {w0 W : World} {S : Nat → Prop} {Rs : List Res} (h : St w0 S W Rs) (m : Nat) (hm : m ≤ 1000000) : St w0 S (W.alloc (.cells (madeCells #[.int .u8 0] m) 5)) (Rs ++ [RowB (.slice (some ⟨W.heap.size, 0, none⟩) m m) (List.replicate m 0)]) := by
  refine h.add (below_alloc (Below.refl _ _) _) ?_
  have h1 := own_made_of (enc := Value.int .u8) (d := (0 : Int)) W 0 5 m (Nat.zero_le _) (by omega)
  have h2 : (List.replicate m (0 : Int)).length = m := List.length_replicate
  refine Kd.R_of_own (enc := Value.int .u8) (xs := List.replicate m (0 : Int)) (by rw [h2]; exact h1) (fun k hk => ?_)
  simp only [Value.ownBlock] at hk
  try cases hk
  try exact Nat.le_refl _
set_option maxHeartbeats 32000000 in
set_option maxRecDepth 100000 in
theorem liverylaw17_JournalRoom.walk (A0 : Option Addr) (c0 : Nat) (l0 : List Int) (a1 : Int) (w : World) (w0 : l0.length ≤ maxLen ∧ l0.length * 8 ≤ 140737488351232 ∧ ∀ x ∈ l0, (Lit.int .i64 x).wf = true) (hr0 : Kd.C (Kd.int .i64) w A0 l0.length l0) (hc0 : l0.length ≤ c0) (w1 : (Lit.int .i64 a1).wf = true) :
    Calls Try.prog 4 #[.slice A0 l0.length c0, .int .i64 a1] w fun e w' => e = .returned (.bool true) ∧ Below w.heap.size w w' := by
  have HC0 := Aside0.mk hr0
  have HST := Aside0.mk (St.mk0 w (fun _ => False) (Q := fun _ => True) (fun _ _ => trivial))
  have hml := w0.2.1
  have HQ := Aside0.mk w0.2.2
  have HA := Aside0.mk (wf64 w1)
  obtain ⟨N, hN1, hN2, hN3⟩ : ∃ N, N ≤ l0.length ∧ N ≤ 12 ∧ (N = l0.length ∨ (N = 12 ∧ N < l0.length)) := by
    by_cases h : l0.length ≤ 12
    · exact ⟨l0.length, by omega, h, .inl rfl⟩
    · exact ⟨12, by omega, by omega, .inr ⟨rfl, by omega⟩⟩
  obtain ⟨T1, J1, ho1, hc1, hz1⟩ := room_new
  have HO1 := Aside0.mk ho1
  have HC1 := Aside0.mk hc1
  clear w0 hr0 ho1 hc1 hz1 w1
  have hmk : ∀ (m : Nat), m ≤ 1000000 → ∀ W : World, (Instr.makeSlice 30 (.int .i64 (m : Int)) (.int .i64 (m : Int))).run Try.prog W = .ok (.slice (some ⟨W.heap.size, 0, none⟩) m m) (W.alloc (.cells (madeCells #[.int .u8 0] m) 5)) := fun m hm => print_make 30 5 .u8 1 Try.underlying30 hinfoB (by decide) m (by omega)
  have HMK := Aside0.mk hmk
  clear hmk
  go_enter Try.func4, Try.ntmps4
  go_wp2_with fail
  refine (newT_at HST.out).mono ?_
  rintro e v1 ⟨g, rfl, h1⟩
  have HST1 := Aside0.mk (show St w (fun _ => False) v1 [Res.view (fun _ => True), PTape g TM.new] from h1)
  clear h1
  go_wp2_with fail
  refine (open_at HST1.out 1 rfl (by decide) TM.new_ok (by decide) TM.By.new).mono ?_
  rw [HO1.out]
  rintro e w2 ⟨gj, rfl, h2⟩
  have HST2 := Aside0.mk (show St w (fun _ => False) w2 [Res.view (fun _ => True), PTJ g gj T1 J1] from h2)
  clear h2
  go_wp2_with fail
  refine (size_at HST2.out 1 rfl).mono ?_
  rintro e w3 ⟨rfl, h3⟩
  have HST3 := Aside0.mk h3
  clear h3
  go_wp2_with fail
  go_loopw [8, 9] (fun s8 s9 wr => ∃ (i : Nat) (T : TM) (J : JM), i ≤ N ∧ s8 = .int .i64 J.size ∧ s9 = .int .i64 (i : Int) ∧ Aside0 (RoomS i T J) ∧ Aside0 (St w (fun _ => False) wr [Res.view (fun _ => True), PTJ g gj T J])) (fun _ s9 _ => (13 - (intOf s9).toNat))
  case atStart => exact ⟨0, T1, J1, by omega, rfl, rfl, HC1, HST3⟩
  case round =>
    obtain ⟨i, T, J, hi, rfl, rfl, HC, HSR⟩ := hrel
    clear HST HST1 HST2 HST3 HO1 HC1
    by_cases hiN : i < N
    · have hlt : i < l0.length := by omega
      have b1 : decide ((i : Int) < (l0.length : Int)) = true := decide_eq_true (by omega)
      have b2 : decide ((i : Int) < 12) = true := decide_eq_true (by omega)
      obtain ⟨ad, eA, hx⟩ := Kd.at_int (Kd.C_below HC0.out HSR.out.below) (i : Int) (by omega) (by omega)
      subst eA
      rw [Int.toNat_natCast] at hx
      have hxr : -9223372036854775808 ≤ rd l0 (i : Int) ∧ rd l0 (i : Int) ≤ 9223372036854775807 := by
        have : rd l0 (i : Int) = l0[i] := by simp [rd, hlt]
        rw [this]
        exact wf64 (HQ.out _ (List.getElem_mem hlt))
      have HXR := Aside0.mk hxr
      clear hxr
      go_wp2_with fail
      refine (pick_at HSR.out _ 8194 (by decide)).mono ?_
      rintro e w4 ⟨rfl, h4⟩
      have HS4 := Aside0.mk h4
      obtain ⟨hp0, hp1⟩ := pk_range _ 8194 HXR.out (by decide)
      obtain ⟨m, em⟩ := Int.eq_ofNat_of_zero_le hp0
      rw [em] at hp1 ⊢
      have hm : m ≤ 8193 := by omega
      obtain ⟨e, T', J', hap, hC', hcase⟩ := room_append HC.out m hm
      have HAP := Aside0.mk hap
      have HC' := Aside0.mk hC'
      have HSZ := Aside0.mk (And.intro HC.out.size hC'.size)
      clear h4 hp0 hp1 em hx hap hC'
      have hmk2 := HMK.out m (by omega)
      obtain ⟨r, er⟩ : ∃ r, List.replicate m (0 : Int) = r := ⟨_, rfl⟩
      have HM4 := Aside0.mk (make_at HS4.out m (by omega))
      rw [er] at HAP HM4
      have hrl : m = r.length := by rw [← er, List.length_replicate]
      subst hrl
      clear er HS4
      go_wp2_with fail
      refine (append_at (r := r) HM4.out 1 rfl (by decide) HC.out.ok (by omega) (Nat.le_refl _) (by have := HC.out.L; omega) (by have := HC.out.size; omega) (fun W' hW => ?_)).mono ?_
      · obtain ⟨ok3, hp3⟩ := hW 2 _ (by decide) rfl
        exact (Kd.R_reads' (show (Kd.int .u8).R 5 W' 0 ok3 (.slice (some ⟨w4.heap.size, 0, none⟩) r.length r.length) r from hp3)).2.2
      rw [HAP.out]
      rintro e5 w5 ⟨rfl, h5⟩
      have HS5 := Aside0.mk (show St w (fun _ => False) w5 [Res.view (fun _ => True), PTJ g gj T' J'] from drops_at (Xs := [RowB (.slice (some ⟨w4.heap.size, 0, none⟩) r.length r.length) r]) h5)
      obtain ⟨k, ek⟩ : ∃ k, r.length = k := ⟨_, rfl⟩
      rw [ek] at hcase hm ⊢
      obtain ⟨z, ez⟩ : ∃ z, J.size = z := ⟨_, rfl⟩
      rw [ez] at hcase HSZ ⊢
      have hz1 := HSZ.out.1.1
      have hz2 := HSZ.out.1.2
      clear h5 HM4 HAP ek hmk2 ez HSZ HSR HC
      by_cases hc1 : k < 1 ∨ 8192 < k
      · rw [if_pos hc1] at hcase
        obtain ⟨rfl, hsz⟩ := hcase
        by_cases hc2 : k < 1
        · have b3 : decide ((k : Int) < 1) = true := decide_eq_true (by omega)
          go_wp2_with fail
          refine (size_at HS5.out 1 rfl).mono ?_
          rintro e6 w6 ⟨rfl, h6⟩
          have HS6 := Aside0.mk h6
          clear h6 HS5
          rw [hsz]
          go_wp2_with fail
          go_roundw
          case rel => exact ⟨i + 1, T', J', by omega, by first | rw [hsz] | (rw [hsz]; rfl), by simp, HC', HS6⟩
          case measure => simp [intOf]; omega
        · have b3 : decide ((k : Int) < 1) = false := decide_eq_false (by omega)
          have b4 : decide ((k : Int) > 8192) = true := decide_eq_true (by omega)
          have b5 : decide ((8192 : Int) < (k : Int)) = true := decide_eq_true (by omega)
          go_wp2_with fail
          refine (size_at HS5.out 1 rfl).mono ?_
          rintro e6 w6 ⟨rfl, h6⟩
          have HS6 := Aside0.mk h6
          clear h6 HS5
          rw [hsz]
          go_wp2_with fail
          go_roundw
          case rel => exact ⟨i + 1, T', J', by omega, by first | rw [hsz] | (rw [hsz]; rfl), by simp, HC', HS6⟩
          case measure => simp [intOf]; omega
      · rw [if_neg hc1] at hcase
        have b3 : decide ((k : Int) < 1) = false := decide_eq_false (by omega)
        have b4 : decide ((k : Int) > 8192) = false := decide_eq_false (by omega)
        have b5 : decide ((8192 : Int) < (k : Int)) = false := decide_eq_false (by omega)
        by_cases hc3 : 65536 < z + (k : Int) + 4
        · rw [if_pos hc3] at hcase
          obtain ⟨rfl, hsz⟩ := hcase
          have b6 : decide (z + (k : Int) + 4 > 65536) = true := decide_eq_true (by omega)
          have b7 : decide (65536 < z + (k : Int) + 4) = true := decide_eq_true (by omega)
          go_wp2_with fail
          refine (size_at HS5.out 1 rfl).mono ?_
          rintro e6 w6 ⟨rfl, h6⟩
          have HS6 := Aside0.mk h6
          clear h6 HS5
          rw [hsz]
          go_wp2_with fail
          go_roundw
          case rel => exact ⟨i + 1, T', J', by omega, by first | rw [hsz] | (rw [hsz]; rfl), by simp, HC', HS6⟩
          case measure => simp [intOf]; omega
        · rw [if_neg hc3] at hcase
          obtain ⟨rfl, hsz⟩ := hcase
          have b6 : decide (z + (k : Int) + 4 > 65536) = false := decide_eq_false (by omega)
          have b7 : decide (65536 < z + (k : Int) + 4) = false := decide_eq_false (by omega)
          go_wp2_with fail
          refine (size_at HS5.out 1 rfl).mono ?_
          rintro e6 w6 ⟨rfl, h6⟩
          have HS6 := Aside0.mk h6
          clear h6 HS5
          rw [hsz]
          go_wp2_with fail
          go_roundw
          case rel => exact ⟨i + 1, T', J', by omega, by first | rw [hsz] | (rw [hsz]; rfl), by simp, HC', HS6⟩
          case measure => simp [intOf]; omega
    · have eiN : N = i := by omega
      subst eiN
      clear hi hiN
      rcases hN3 with eN | ⟨eN, eN2⟩
      · have b1 : decide ((N : Int) < (l0.length : Int)) = false := decide_eq_false (by omega)
        go_wp2_with fail
        refine (records_at HSR.out 1 rfl (by have := HC.out.L; omega) (fun r hr => by have := HC.out.rcs r hr; omega)).mono ?_
        rintro e v3 ⟨A9, c9, rfl, _, _, _, h3⟩
        have HST3 := Aside0.mk (show St w (fun _ => False) v3 [Res.view (fun _ => True), PTJ g gj T J] from drops_at (Xs := [_]) h3)
        clear h3 HSR
        obtain ⟨was, ewas⟩ : ∃ n, J.L.length = n := ⟨_, rfl⟩
        have hwas : was ≤ 12 := by rw [← ewas]; have := HC.out.L; omega
        rw [ewas]
        go_wp2_with fail
        refine (pick_at HST3.out a1 12 (by decide)).mono ?_
        rintro e v4 ⟨rfl, h4⟩
        obtain ⟨hp0, hp1⟩ := pk_range a1 12 HA.out (by decide)
        obtain ⟨k, em⟩ := Int.eq_ofNat_of_zero_le hp0
        rw [em] at hp1 ⊢
        have hk : k ≤ 11 := by omega
        have HST4 := Aside0.mk (show St w (fun _ => False) v4 [Res.view (fun _ => True), PTJ g gj T J, RowL (.slice none 0 0) (List.replicate 0 (List.replicate 8000 0))] from St.nil h4 _ _)
        clear h4 hp0 hp1 em HST3
        go_wp2_with fail
        go_loopw [13, 15] (fun s13 s15 wr => ∃ p : Nat, p ≤ k ∧ s15 = .int .i64 (p : Int) ∧ Aside0 (St w (fun _ => False) wr [Res.view (fun _ => True), PTJ g gj T J, RowL s13 (List.replicate p (List.replicate 8000 0))])) (fun _ s15 _ => (k + 1 - (intOf s15).toNat))
        case atStart => exact ⟨0, by omega, rfl, HST4⟩
        case round =>
          obtain ⟨p, hp, rfl, HSP⟩ := hrel
          clear HST4
          by_cases hpk : p < k
          · have b7 : decide ((p : Int) < (k : Int)) = true := decide_eq_true (by omega)
            have hmk2 : ∀ W : World, (Instr.makeSlice 30 (.int .i64 8000) (.int .i64 8000)).run Try.prog W = .ok (.slice (some ⟨W.heap.size, 0, none⟩) 8000 8000) (W.alloc (.cells (madeCells #[.int .u8 0] 8000) 5)) := HMK.out 8000 (by omega)
            obtain ⟨Z, eZ⟩ : ∃ Z, List.replicate 8000 (0 : Int) = Z := ⟨_, rfl⟩
            have HM := Aside0.mk (make_at HSP.out 8000 (by omega))
            obtain ⟨o, eo⟩ : ∃ o, madeCells #[Value.int .u8 0] 8000 = o := ⟨_, rfl⟩
            rw [eZ] at HM ⊢
            rw [eo] at hmk2 HM
            go_wp2_with (at_builtin; refine St.app_row rfl (.tmp 87) (.tmp 89) 29 30 rfl Try.underlying29 hinfoR HM.out 2 3 u13 (.slice (some ⟨wr.heap.size, 0, none⟩) 8000 8000) (List.replicate p Z) Z rfl (by rw [heap_size_alloc2]; rfl) rfl rfl (by decide) (by decide) (by decide) (by rw [List.length_replicate]; omega) ?_)
            intro v5 w5 h5
            rw [← List.replicate_succ'] at h5
            have HS5 := Aside0.mk (show St w (fun _ => False) w5 [Res.view (fun _ => True), PTJ g gj T J, RowL v5 (List.replicate (p + 1) Z)] from drops_at (Xs := [Res.any]) h5)
            clear h5 HM hmk2 HSP eo
            go_wp2_with fail
            go_roundw
            case rel => exact ⟨p + 1, by omega, by simp, HS5⟩
            case measure => simp [intOf]; omega
          · have epk : k = p := by omega
            subst epk
            have b7 : decide ((k : Int) < (k : Int)) = false := decide_eq_false (by omega)
            obtain ⟨l, el⟩ : ∃ l, List.replicate k (List.replicate 8000 (0 : Int)) = l := ⟨_, rfl⟩
            have hll : l.length = k := by rw [← el, List.length_replicate]
            obtain ⟨e, T', J', hre, hjl, hjr, hcase⟩ := room_renew HC.out k hk
            rw [el] at hre HSP
            obtain ⟨Ab, cb, eb, hcb, _⟩ := row_slice HSP.out 2 rfl
            subst eb
            have HRE := Aside0.mk hre
            have HJR := Aside0.mk hjr
            have HLL := Aside0.mk hll
            clear hre hjr el hll
            go_wp2_with fail
            refine (renew_at (l := l) HSP.out 1 rfl (by decide) HC.out.ok (by omega) HC.out.good.sd (by have := HC.out.g; omega) (by have := HLL.out; omega) (fun W' hW => ?_)).mono ?_
            · obtain ⟨ok3, hp3⟩ := hW 2 _ (by decide) rfl
              exact (Kd.R_reads' (show (Kd.slice 5 (Kd.int .u8)).R 30 W' 0 ok3 (.slice Ab l.length cb) l from hp3)).2.2
            rw [HRE.out]
            rintro e6 w6 ⟨rfl, h6⟩
            have HS6 := Aside0.mk (show St w (fun _ => False) w6 [Res.view (fun _ => True), PTJ g gj T' J'] from drops_at (Xs := [RowL (.slice Ab l.length cb) l]) h6)
            clear h6 HSP HRE HLL hcb
            by_cases hbig : 65536 < k * 8004 + 9
            · rw [if_pos hbig] at hcase
              obtain ⟨rfl, rfl⟩ := hcase
              have b8 : decide ((k : Int) * 8004 + 9 > 65536) = true := decide_eq_true (by omega)
              have b9 : decide (65536 < (k : Int) * 8004 + 9) = true := decide_eq_true (by omega)
              go_wp2_with fail
              refine (records_at HS6.out 1 rfl (by omega) (fun r hr => by have := HJR.out r hr; omega)).mono ?_
              rintro e v7 ⟨A7, c7, rfl, _, _, _, h7⟩
              have HS7 := Aside0.mk (show St w (fun _ => False) v7 [Res.view (fun _ => True), PTJ g gj T' J'] from drops_at (Xs := [_]) h7)
              clear h7 HS6
              rw [ewas]
              go_wp2_with fail
              refine (size_at HS7.out 1 rfl).mono ?_
              rintro e v8 ⟨rfl, h8⟩
              have HS8 := Aside0.mk h8
              clear h8 HS7
              go_wp2_with fail
              refine (lives_at HS8.out).mono ?_
              rintro e v9 ⟨rfl, h9⟩
              have HS9 := Aside0.mk h9
              clear h9
              go_wp2_with fail
              go_ret
              exact ⟨rfl, HS9.out.below⟩
            · rw [if_neg hbig] at hcase
              obtain ⟨rfl, hjk⟩ := hcase
              have b8 : decide ((k : Int) * 8004 + 9 > 65536) = false := decide_eq_false (by omega)
              have b9 : decide (65536 < (k : Int) * 8004 + 9) = false := decide_eq_false (by omega)
              go_wp2_with fail
              refine (records_at HS6.out 1 rfl (by omega) (fun r hr => by have := HJR.out r hr; omega)).mono ?_
              rintro e v7 ⟨A7, c7, rfl, _, _, _, h7⟩
              have HS7 := Aside0.mk (show St w (fun _ => False) v7 [Res.view (fun _ => True), PTJ g gj T' J'] from drops_at (Xs := [_]) h7)
              clear h7 HS6
              rw [hjk]
              go_wp2_with fail
              refine (lives_at HS7.out).mono ?_
              rintro e v9 ⟨rfl, h9⟩
              have HS9 := Aside0.mk h9
              clear h9
              go_wp2_with fail
              go_ret
              exact ⟨rfl, HS9.out.below⟩
      · have b1 : decide ((N : Int) < (l0.length : Int)) = true := decide_eq_true (by omega)
        have b2 : decide ((N : Int) < 12) = false := decide_eq_false (by omega)
        go_wp2_with fail
        refine (records_at HSR.out 1 rfl (by have := HC.out.L; omega) (fun r hr => by have := HC.out.rcs r hr; omega)).mono ?_
        rintro e v3 ⟨A9, c9, rfl, _, _, _, h3⟩
        have HST3 := Aside0.mk (show St w (fun _ => False) v3 [Res.view (fun _ => True), PTJ g gj T J] from drops_at (Xs := [_]) h3)
        clear h3 HSR
        obtain ⟨was, ewas⟩ : ∃ n, J.L.length = n := ⟨_, rfl⟩
        have hwas : was ≤ 12 := by rw [← ewas]; have := HC.out.L; omega
        rw [ewas]
        go_wp2_with fail
        refine (pick_at HST3.out a1 12 (by decide)).mono ?_
        rintro e v4 ⟨rfl, h4⟩
        obtain ⟨hp0, hp1⟩ := pk_range a1 12 HA.out (by decide)
        obtain ⟨k, em⟩ := Int.eq_ofNat_of_zero_le hp0
        rw [em] at hp1 ⊢
        have hk : k ≤ 11 := by omega
        have HST4 := Aside0.mk (show St w (fun _ => False) v4 [Res.view (fun _ => True), PTJ g gj T J, RowL (.slice none 0 0) (List.replicate 0 (List.replicate 8000 0))] from St.nil h4 _ _)
        clear h4 hp0 hp1 em HST3
        go_wp2_with fail
        go_loopw [13, 15] (fun s13 s15 wr => ∃ p : Nat, p ≤ k ∧ s15 = .int .i64 (p : Int) ∧ Aside0 (St w (fun _ => False) wr [Res.view (fun _ => True), PTJ g gj T J, RowL s13 (List.replicate p (List.replicate 8000 0))])) (fun _ s15 _ => (k + 1 - (intOf s15).toNat))
        case atStart => exact ⟨0, by omega, rfl, HST4⟩
        case round =>
          obtain ⟨p, hp, rfl, HSP⟩ := hrel
          clear HST4
          by_cases hpk : p < k
          · have b7 : decide ((p : Int) < (k : Int)) = true := decide_eq_true (by omega)
            have hmk2 : ∀ W : World, (Instr.makeSlice 30 (.int .i64 8000) (.int .i64 8000)).run Try.prog W = .ok (.slice (some ⟨W.heap.size, 0, none⟩) 8000 8000) (W.alloc (.cells (madeCells #[.int .u8 0] 8000) 5)) := HMK.out 8000 (by omega)
            obtain ⟨Z, eZ⟩ : ∃ Z, List.replicate 8000 (0 : Int) = Z := ⟨_, rfl⟩
            have HM := Aside0.mk (make_at HSP.out 8000 (by omega))
            obtain ⟨o, eo⟩ : ∃ o, madeCells #[Value.int .u8 0] 8000 = o := ⟨_, rfl⟩
            rw [eZ] at HM ⊢
            rw [eo] at hmk2 HM
            go_wp2_with (at_builtin; refine St.app_row rfl (.tmp 87) (.tmp 89) 29 30 rfl Try.underlying29 hinfoR HM.out 2 3 u13 (.slice (some ⟨wr.heap.size, 0, none⟩) 8000 8000) (List.replicate p Z) Z rfl (by rw [heap_size_alloc2]; rfl) rfl rfl (by decide) (by decide) (by decide) (by rw [List.length_replicate]; omega) ?_)
            intro v5 w5 h5
            rw [← List.replicate_succ'] at h5
            have HS5 := Aside0.mk (show St w (fun _ => False) w5 [Res.view (fun _ => True), PTJ g gj T J, RowL v5 (List.replicate (p + 1) Z)] from drops_at (Xs := [Res.any]) h5)
            clear h5 HM hmk2 HSP eo
            go_wp2_with fail
            go_roundw
            case rel => exact ⟨p + 1, by omega, by simp, HS5⟩
            case measure => simp [intOf]; omega
          · have epk : k = p := by omega
            subst epk
            have b7 : decide ((k : Int) < (k : Int)) = false := decide_eq_false (by omega)
            obtain ⟨l, el⟩ : ∃ l, List.replicate k (List.replicate 8000 (0 : Int)) = l := ⟨_, rfl⟩
            have hll : l.length = k := by rw [← el, List.length_replicate]
            obtain ⟨e, T', J', hre, hjl, hjr, hcase⟩ := room_renew HC.out k hk
            rw [el] at hre HSP
            obtain ⟨Ab, cb, eb, hcb, _⟩ := row_slice HSP.out 2 rfl
            subst eb
            have HRE := Aside0.mk hre
            have HJR := Aside0.mk hjr
            have HLL := Aside0.mk hll
            clear hre hjr el hll
            go_wp2_with fail
            refine (renew_at (l := l) HSP.out 1 rfl (by decide) HC.out.ok (by omega) HC.out.good.sd (by have := HC.out.g; omega) (by have := HLL.out; omega) (fun W' hW => ?_)).mono ?_
            · obtain ⟨ok3, hp3⟩ := hW 2 _ (by decide) rfl
              exact (Kd.R_reads' (show (Kd.slice 5 (Kd.int .u8)).R 30 W' 0 ok3 (.slice Ab l.length cb) l from hp3)).2.2
            rw [HRE.out]
            rintro e6 w6 ⟨rfl, h6⟩
            have HS6 := Aside0.mk (show St w (fun _ => False) w6 [Res.view (fun _ => True), PTJ g gj T' J'] from drops_at (Xs := [RowL (.slice Ab l.length cb) l]) h6)
            clear h6 HSP HRE HLL hcb
            by_cases hbig : 65536 < k * 8004 + 9
            · rw [if_pos hbig] at hcase
              obtain ⟨rfl, rfl⟩ := hcase
              have b8 : decide ((k : Int) * 8004 + 9 > 65536) = true := decide_eq_true (by omega)
              have b9 : decide (65536 < (k : Int) * 8004 + 9) = true := decide_eq_true (by omega)
              go_wp2_with fail
              refine (records_at HS6.out 1 rfl (by omega) (fun r hr => by have := HJR.out r hr; omega)).mono ?_
              rintro e v7 ⟨A7, c7, rfl, _, _, _, h7⟩
              have HS7 := Aside0.mk (show St w (fun _ => False) v7 [Res.view (fun _ => True), PTJ g gj T' J'] from drops_at (Xs := [_]) h7)
              clear h7 HS6
              rw [ewas]
              go_wp2_with fail
              refine (size_at HS7.out 1 rfl).mono ?_
              rintro e v8 ⟨rfl, h8⟩
              have HS8 := Aside0.mk h8
              clear h8 HS7
              go_wp2_with fail
              refine (lives_at HS8.out).mono ?_
              rintro e v9 ⟨rfl, h9⟩
              have HS9 := Aside0.mk h9
              clear h9
              go_wp2_with fail
              go_ret
              exact ⟨rfl, HS9.out.below⟩
            · rw [if_neg hbig] at hcase
              obtain ⟨rfl, hjk⟩ := hcase
              have b8 : decide ((k : Int) * 8004 + 9 > 65536) = false := decide_eq_false (by omega)
              have b9 : decide (65536 < (k : Int) * 8004 + 9) = false := decide_eq_false (by omega)
              go_wp2_with fail
              refine (records_at HS6.out 1 rfl (by omega) (fun r hr => by have := HJR.out r hr; omega)).mono ?_
              rintro e v7 ⟨A7, c7, rfl, _, _, _, h7⟩
              have HS7 := Aside0.mk (show St w (fun _ => False) v7 [Res.view (fun _ => True), PTJ g gj T' J'] from drops_at (Xs := [_]) h7)
              clear h7 HS6
              rw [hjk]
              go_wp2_with fail
              refine (lives_at HS7.out).mono ?_
              rintro e v9 ⟨rfl, h9⟩
              have HS9 := Aside0.mk h9
              clear h9
              go_wp2_with fail
              go_ret
              exact ⟨rfl, HS9.out.below⟩
end Go.Proofs.Ytmfmoddaejoekaa.P
