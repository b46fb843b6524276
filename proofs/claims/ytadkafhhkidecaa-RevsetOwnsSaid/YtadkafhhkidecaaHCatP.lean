/- Contracts, typed by hand: rows that begin with others; slices.Grow, slices.Concat. -/
import Derived.Test.YtadkafhhkidecaaHMayP
import Derived.Test.YtadkafhhkidecaaWZeros
import Derived.Test.YtadkafhhkidecaaWApart
set_option linter.unusedVariables false
set_option linter.unusedSimpArgs false
namespace Go.Proofs.Ytadkafhhkidecaa.P
open Go.RowKit Go.Proofs.YtadkafhhkidecaaW.PrintWords Go.Proofs.YtadkafhhkidecaaW.PrintLast Go.Proofs.YtadkafhhkidecaaW.PrintMore
theorem hcutT (A : Option Addr) (n c m : Nat) (hm : m ≤ n) (hc : n ≤ c) : ∀ W : World, (Instr.slice 30 (.slice A n c) none (some (.int .i64 (m : Int))) none).run Try.prog W = .ok (.slice A m c) W := by
  obtain ⟨i0, hi, _, _, _⟩ := info_parts hinfo3
  have := cut_to (P := Try.prog) 30 3 .i64 Try.underlying30 hi A n c (m : Int) (by omega) (by omega) hc
  simpa using this
theorem hcutF (A : Option Addr) (n c m : Nat) (hm : m ≤ n) : ∀ W : World, (Instr.slice 30 (.slice A n c) (some (.int .i64 (m : Int))) none none).run Try.prog W = .ok (.slice (if c = m then A else A.map (·.add m)) (n - m) (c - m)) W := by
  obtain ⟨i0, hi, _, hs, _⟩ := info_parts hinfo3
  have := cut_from (P := Try.prog) 30 3 .i64 Try.underlying30 hi 1 hs A n c (m : Int) (by omega) (by omega)
  simpa using this
theorem pw_bd {W w : World} (h : Drawn0 W w) : Below W.heap.size W w := h.below
theorem ret_bool {a b : Bool} (h : a = b) : Ending.returned (.bool a) = .returned (.bool b) := by rw [h]
theorem ret_int {k : IntKind} {a b : Int} (h : a = b) : Ending.returned (.int k a) = .returned (.int k b) := by rw [h]
set_option maxHeartbeats 1000000 in
theorem Begins.calls (A : Option Addr) (c : Nat) (a : List Int) (B : Option Addr) (c' : Nat) (b : List Int) (W : World) (ha : Kd.C (Kd.int .i64) W A a.length a) (hca : a.length ≤ c) (hb : Kd.C (Kd.int .i64) W B b.length b) (hcb : b.length ≤ c') (hl : a.length ≤ 1000000) :
    Calls Try.prog 22 #[.slice A a.length c, .slice B b.length c'] W fun e W' => e = .returned (.bool (decide (a.take b.length = b))) ∧ Drawn0 W W' := by
  have HA := Aside0.mk ha
  have HB := Aside0.mk hb
  clear ha hb
  by_cases h : b.length ≤ a.length
  · have h1 : decide ((b.length : Int) ≤ (a.length : Int)) = true := decide_eq_true (by omega)
    have h2 : decide (b.length ≤ a.length) = true := decide_eq_true h
    have hcut := hcutT A a.length c b.length h hca
    have hC := Kd.C_take (m := b.length) HA.out h
    have hl2 : (a.take b.length).length = b.length := by rw [List.length_take]; omega
    rw [hl2] at hC
    have HS := Aside0.mk (show liveryref10_Same.f 1000002 (a.take b.length) b = some (decide (a.take b.length = b)) from ref10_Same 1000002 _ _ (by rw [hl2]; omega) (by rw [hl2]; omega))
    obtain ⟨t, et⟩ : ∃ t, t = a.take b.length := ⟨_, rfl⟩
    rw [← et] at hC HS hl2 ⊢
    obtain ⟨r, er⟩ : ∃ r, decide (t = b) = r := ⟨_, rfl⟩
    rw [er] at HS ⊢
    have HC := Aside0.mk (show (Kd.int .i64).C W A t.length t by rw [hl2]; exact hC)
    have HL := Aside0.mk hl2
    have HCC := Aside0.mk (show t.length ≤ c by omega)
    replace hcut : ∀ W : World, (Instr.slice 30 (.slice A a.length c) none (some (.int .i64 (b.length : Int))) none).run Try.prog W = .ok (.slice A t.length c) W := by rw [hl2]; exact hcut
    clear h hC hl2 et er
    go_enter Try.func22, Try.ntmps22
    go_wp2_with fail
    refine (liveryref10_Same.calls 1000002 A c t B c' b r _ HC.out HCC.out HB.out hcb HS.out).mono ?_
    rintro e w' ⟨rfl, ⟨n, rfl⟩⟩
    go_wp2_with fail
    go_ret
    exact ⟨rfl, ⟨n, rfl⟩⟩
  · have h1 : decide ((b.length : Int) ≤ (a.length : Int)) = false := decide_eq_false (by omega)
    have h2 : decide (b.length ≤ a.length) = false := decide_eq_false h
    have HR := Aside0.mk (show decide (a.take b.length = b) = false from decide_eq_false fun e => by
      have := congrArg List.length e
      rw [List.length_take] at this
      omega)
    clear h
    go_enter Try.func22, Try.ntmps22
    go_wp2_with fail
    go_ret
    exact ⟨ret_bool HR.out.symm, Drawn0.refl _⟩
set_option maxHeartbeats 2000000 in
theorem refMay.calls (A : Option Addr) (c : Nat) (l : List Int) (W : World) (hC : Kd.C (Kd.int .i64) W A l.length l) (hc : l.length ≤ c) (hl : l.length ≤ 1000000) :
    Calls Try.prog 40 #[.slice A l.length c] W fun e W' => e = .returned (.bool (mayS l)) ∧ Drawn0 W W' := by
  have HC := Aside0.mk hC
  clear hC
  by_cases h32 : 32 < l.length
  · have h1 : decide ((32 : Int) < (l.length : Int)) = true := decide_eq_true (by omega)
    have h2 : decide (32 < l.length) = true := decide_eq_true h32
    have HR := Aside0.mk (show mayS l = false from decide_eq_false fun hh => by omega)
    clear h32
    go_enter Try.func40, Try.ntmps40
    go_wp2_with fail
    go_ret
    exact ⟨ret_bool HR.out.symm, Drawn0.refl _⟩
  · have h1 : decide ((32 : Int) < (l.length : Int)) = false := decide_eq_false (by omega)
    have h2 : decide (32 < l.length) = false := decide_eq_false h32
    have h3 : l.length ≤ 32 := by omega
    clear h32
    go_enter Try.func40, Try.ntmps40
    go_wp2_with fail
    go_loopw [3] (fun s3 wr => ∃ i : Nat, i ≤ l.length ∧ s3 = .int .i64 (i : Int) ∧ Aside0 (mayTo l i) ∧ Drawn0 W wr) (fun s3 _ => (l.length - (intOf s3).toNat))
    case atStart => exact ⟨0, by omega, rfl, ⟨mayTo_zero l⟩, Drawn0.refl _⟩
    case round =>
      obtain ⟨i, hi, rfl, HT, HD⟩ := hrel
      by_cases hlt : i < l.length
      · have HCW := Aside0.mk (Kd.C_below HC.out (pw_bd HD))
        obtain ⟨ad, rfl, hx⟩ := Kd.at_int HCW.out (i : Int) (by omega) (by omega)
        have hrd : rd l (i : Int) = l[i] := rd_nat l i hlt
        rw [hrd, Int.toNat_natCast] at hx
        have HX := Aside0.mk (fun h => mayTo_not hlt h)
        have HSN := Aside0.mk (fun h1 h2 h3 => mayTo_succ HT.out hlt h1 h2 h3)
        have HT2 := Aside0.mk (Kd.C_take (m := i) HCW.out (by omega))
        have hcut := hcutT (some ad) l.length c i (by omega) hc
        have hl2 : (l.take i).length = i := by rw [List.length_take]; omega
        obtain ⟨x, ex⟩ : ∃ x, l[i] = x := ⟨_, rfl⟩
        rw [ex] at hx HX HSN
        have HIN := Aside0.mk (in_eq 1000002 (l.take i) x (by omega) (by omega))
        obtain ⟨t, et⟩ : ∃ t, t = l.take i := ⟨_, rfl⟩
        rw [← et] at hl2 HX HSN HT2 HIN
        have HT3 := Aside0.mk (show (Kd.int .i64).C wr (some ad) t.length t from HT2.out)
        clear ex hrd et HT2
        by_cases h1 : x < 1
        · have h1b : decide (x < 1) = true := decide_eq_true h1
          have HR := Aside0.mk (HX.out (by omega))
          clear h1 hl2 hcut
          go_wp2_with fail
          go_quiet (fail)
          go_wp2_with fail
          go_ret
          exact ⟨ret_bool HR.out.symm, HD.step _⟩
        by_cases h2 : 4000 < x
        · have h1b : decide (x < 1) = false := decide_eq_false h1
          have h2b : decide (4000 < x) = true := decide_eq_true h2
          have HR := Aside0.mk (HX.out (by omega))
          clear h1 h2 hl2 hcut
          go_wp2_with fail
          go_quiet (fail)
          go_wp2_with fail
          go_ret
          exact ⟨ret_bool HR.out.symm, HD.step _⟩
        have h1b : decide (x < 1) = false := decide_eq_false h1
        have h2b : decide (4000 < x) = false := decide_eq_false h2
        have HLT := Aside0.mk hl2
        replace hcut : ∀ W : World, (Instr.slice 30 (.slice (some ad) l.length c) none (some (.int .i64 (i : Int))) none).run Try.prog W = .ok (.slice (some ad) t.length c) W := by rw [hl2]; exact hcut
        by_cases h3 : x ∈ t
        · have HR := Aside0.mk (HX.out (fun hh => hh.2.2 h3))
          have HI := Aside0.mk (show liveryref11_in.f 1000002 t x = some true by rw [HIN.out, decide_eq_true h3])
          clear h1 h2 h3 hl2
          go_wp2_with fail
          go_quiet ((go_at_call 34; exact quiet_drawn (liveryref11_in.calls 1000002 (some ad) c t x true _ (Kd.C_drewN HT3.out _) (by have := HLT.out; omega) HI.out)))
          go_wp2_with fail
          go_ret
          exact ⟨ret_bool HR.out.symm, HD.step _⟩
        · have HT1 := Aside0.mk (HSN.out (by omega) (by omega) h3)
          have HI := Aside0.mk (show liveryref11_in.f 1000002 t x = some false by rw [HIN.out, decide_eq_false h3])
          clear h1 h2 h3 hl2 HX HSN
          go_wp2_with fail
          go_quiet ((go_at_call 34; exact quiet_drawn (liveryref11_in.calls 1000002 (some ad) c t x false _ (Kd.C_drewN HT3.out _) (by have := HLT.out; omega) HI.out)))
          go_wp2_with fail
          go_roundw
          case rel => exact ⟨i + 1, by omega, by simp, HT1, HD.step _⟩
          case measure => simp [intOf]; omega
      · have e : i = l.length := by omega
        subst e
        have HE := Aside0.mk ((mayTo_all HT.out).trans (decide_eq_true h3))
        clear HT hi hlt
        go_wp2_with fail
        go_ret
        exact ⟨ret_bool HE.out.symm, HD⟩
set_option maxHeartbeats 1000000 in
theorem Grow0.calls (n : Nat) (hn : n ≤ 1000000) (W : World) :
    Calls Try.prog 48 #[.slice none 0 0, .int .i64 (n : Int)] W fun e W' => ∃ v : Value, e = .returned v ∧ (Kd.int .i64).R 3 W' 0 (fun k => W.heap.size ≤ k) v [] ∧ Below W.heap.size W W' := by
  have hcut := hcutT none 0 0 0 (Nat.le_refl _) (Nat.le_refl _)
  by_cases h0 : 0 < n
  · have h1 : decide ((0 : Int) < (n : Int)) = true := decide_eq_true (by omega)
    have h2 : decide ((n : Int) < 0) = false := decide_eq_false (by omega)
    go_enter Try.func48, Try.ntmps48
    go_wp2_with (at_builtin; refine Kd.R_append_zeros (Kd.int .i64) (w0 := W) 0 rfl (.tmp 20) (.tmp 21) 30 3 3 (.int .i64 0) 8 rfl Try.underlying30 Try.underlying3 hinfo3 rfl (by decide) (by decide) (.slice none 0 0) [] 0 (kx := .i64) (n : Int) (fun k => W.heap.size ≤ k) rfl rfl rfl (fun _ hk => hk) (Kd.R_nil _ _ _ _ _) (by omega) (Below.refl _ _) (Nat.zero_le _) ?cL ?_)
    case cL => simp only [List.length_nil]; omega
    intro v1 w1 hR _ hg _
    obtain ⟨A, c, ev⟩ := Kd.R_slice hR
    rw [List.length_replicate] at ev
    subst ev
    have hR2 := Kd.R_take (m := 0) hR (Nat.zero_le _)
    rw [List.take_zero] at hR2
    have hcut2 := hcutT A n c 0 (Nat.zero_le _) (Kd.R_reads' hR).2.1
    have HR := Aside0.mk hR2
    have HB := Aside0.mk (pw_below_grown (Below.refl W.heap.size W) none (Nat.le_refl _) hg (by intro k hk; cases hk))
    clear hR hR2 hg
    go_wp2_with fail
    go_ret
    exact ⟨_, rfl, HR.out, HB.out⟩
  · obtain rfl : n = 0 := by omega
    go_enter Try.func48, Try.ntmps48
    go_wp2_with fail
    go_ret
    exact ⟨_, rfl, Kd.R_nil _ _ _ _ _, Below.refl _ _⟩
/-- The first i rows, one behind the other. -/
def flatS (ls : List (List Int)) (i : Nat) : List Int := (ls.take i).flatten
theorem flatS_zero (ls : List (List Int)) : flatS ls 0 = [] := by simp [flatS]
theorem flatS_all (ls : List (List Int)) : flatS ls ls.length = ls.flatten := by rw [flatS, List.take_length]
theorem flat_succ (ls : List (List Int)) (i : Nat) (hi : i < ls.length) : flatS ls (i + 1) = flatS ls i ++ ls.getD i [] := by
  rw [flatS, flatS, List.take_succ_eq_append_getElem hi, List.flatten_append, List.getD_eq_getElem?_getD, List.getElem?_eq_getElem hi]
  simp
theorem flat_le (ls : List (List Int)) (i : Nat) : (flatS ls i).length ≤ ls.flatten.length := by
  unfold flatS
  have h : ls.flatten = (ls.take i).flatten ++ (ls.drop i).flatten := by rw [← List.flatten_append, List.take_append_drop]
  have h2 := congrArg List.length h
  rw [List.length_append] at h2
  omega
set_option maxHeartbeats 2000000 in
theorem Concat.calls (A : Option Addr) (c : Nat) (ls : List (List Int)) (W : World) (hC : Kd.C (Kd.slice 3 (Kd.int .i64)) W A ls.length ls) (hc : ls.length ≤ c) (hl : ls.flatten.length ≤ 1000000) (hl2 : ls.length ≤ 1000000) :
    Calls Try.prog 43 #[.slice A ls.length c] W fun e W' => ∃ v : Value, e = .returned v ∧ (Kd.int .i64).R 3 W' 0 (fun k => W.heap.size ≤ k) v ls.flatten ∧ Below W.heap.size W W' := by
  have HC := Aside0.mk hC
  clear hC
  obtain ⟨fl, hfl0⟩ : ∃ fl, ls.flatten = fl := ⟨_, rfl⟩
  have HFL := Aside0.mk hfl0
  rw [hfl0] at hl ⊢
  clear hfl0
  go_enter Try.func43, Try.ntmps43
  go_wp2_with fail
  go_loop [3, 11] (fun s3 s11 => ∃ i : Nat, i ≤ ls.length ∧ s11 = .int .i64 (i : Int) ∧ s3 = .int .i64 (((flatS ls i).length : Nat) : Int)) (fun _ s11 => (ls.length - (intOf s11).toNat))
  case atStart => exact ⟨0, by omega, rfl, by rw [flatS_zero]; rfl⟩
  case round =>
    obtain ⟨i, hi, rfl, rfl⟩ := hrel
    have hfl := HFL.out ▸ flat_le ls i
    by_cases hlt : i < ls.length
    · obtain ⟨ad, B, c2, rfl, hx, _, _⟩ := at_slice HC.out i hlt
      have hs := flat_succ ls i hlt
      have hs2 := HFL.out ▸ flat_le ls (i + 1)
      have hs3 := congrArg List.length hs
      rw [List.length_append] at hs3
      obtain ⟨r, er⟩ : ∃ r, ls.getD i [] = r := ⟨_, rfl⟩
      rw [er] at hx hs3
      have HN := Aside0.mk hs3
      have h1 : decide ((((flatS ls i).length : Nat) : Int) + ((r.length : Nat) : Int) < 0) = false := decide_eq_false (by omega)
      have h2 : (((flatS ls i).length : Nat) : Int) + ((r.length : Nat) : Int) ≤ 1000000 := by omega
      clear hs hs3 er
      go_wp2_with fail
      go_round
      case rel => exact ⟨i + 1, by omega, by simp, by rw [HN.out]; go_num⟩
      case measure => simp [intOf]; omega
    · have e : i = ls.length := by omega
      subst e
      rw [flatS_all, HFL.out]
      clear hi hlt hfl
      go_wp2_with fail
      refine (Grow0.calls fl.length hl W).mono ?_
      rintro e w1 ⟨v, rfl, hR, hB⟩
      have HR0 := Aside0.mk hR
      have HB0 := Aside0.mk hB
      clear hR hB
      go_wp2_with fail
      go_loopw [6, 27] (fun s6 s27 wr => ∃ i : Nat, i ≤ ls.length ∧ s27 = .int .i64 (i : Int) ∧ Aside0 ((Kd.int .i64).R 3 wr 0 (fun k => W.heap.size ≤ k) s6 (flatS ls i)) ∧ Aside0 (Below W.heap.size W wr)) (fun _ s27 _ => (ls.length - (intOf s27).toNat))
      case atStart => exact ⟨0, by omega, rfl, by rw [flatS_zero]; exact HR0, HB0⟩
      case round =>
        obtain ⟨i, hi, rfl, HR, HB⟩ := hrel
        have hfl := HFL.out ▸ flat_le ls i
        by_cases hlt : i < ls.length
        · have HCW := Aside0.mk (Kd.C_below HC.out HB.out)
          obtain ⟨ad, B, c2, rfl, hx, _, hCr⟩ := at_slice HCW.out i hlt
          have HS := Aside0.mk (flat_succ ls i hlt)
          have hs2 := HFL.out ▸ flat_le ls (i + 1)
          have hs3 := congrArg List.length HS.out
          rw [List.length_append] at hs3
          obtain ⟨r, er⟩ : ∃ r, ls.getD i [] = r := ⟨_, rfl⟩
          rw [er] at hx hCr hs3 HS
          have HCR := Aside0.mk hCr
          have HN := Aside0.mk (show (flatS ls i).length + r.length ≤ 1000000 by omega)
          clear hCr er hs3 hs2
          go_wp2_with (at_builtin; refine app_int (k := .i64) rfl (.tmp 31) (.tmp 32) 30 3 8 rfl Try.underlying30 hinfo3 (by decide) u6 (flatS ls i) r B r.length c2 (fun k => W.heap.size ≤ k) rfl rfl HR.out HCR.out ?cL ?_)
          case cL => have := HN.out; omega
          intro v1 w2 hR1 hg
          rw [← HS.out] at hR1
          have HR1 := Aside0.mk hR1
          have HB1 := Aside0.mk (pw_below_grown HB.out _ HB.out.size hg (fun k hk => HR.out.1 k hk))
          have HSZ := Aside0.mk HB.out.size
          clear hR1 hg HR HB HS HCW HCR
          go_wp2_with fail
          go_roundw
          case rel => exact ⟨i + 1, by omega, by simp, ⟨Kd.R_mono HR1.out (fun k hk => by have := HSZ.out; omega)⟩, HB1⟩
          case measure => simp [intOf]; omega
        · have e : i = ls.length := by omega
          subst e
          rw [flatS_all, HFL.out] at HR
          clear hi hlt hfl
          go_wp2_with fail
          go_ret
          exact ⟨_, rfl, HR.out, HB.out⟩
end Go.Proofs.Ytadkafhhkidecaa.P
