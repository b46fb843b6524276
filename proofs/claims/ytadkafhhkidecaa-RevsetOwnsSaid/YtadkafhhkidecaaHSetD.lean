/- Contracts, typed by hand: the program's set: Delta. -/
import Derived.Test.YtadkafhhkidecaaHSetC
set_option linter.unusedVariables false
set_option linter.unusedSimpArgs false
namespace Go.Proofs.Ytadkafhhkidecaa.P
open Go.RowKit Go.Proofs.YtadkafhhkidecaaW.PrintWords Go.Proofs.YtadkafhhkidecaaW.PrintLast Go.Proofs.YtadkafhhkidecaaW.PrintMore
theorem hinfo30B : (Try.prog.info? 30).map (fun i => (i.zero, i.size, i.bytes)) = some (some (.slice none 0 0), 1, 24) := by kernel_rfl
theorem delta_grown {W wo wr w2 : World} {v : Value} {xs : List (List Int)} (hB : Below W.heap.size W wr) (hg : wr.grownBy w2 v.ownBlock) (hR : (Kd.slice 3 (Kd.int .i64)).R 30 wr 0 (fun k => W.heap.size ≤ k) v xs) : Below W.heap.size W w2 :=
  pw_below_grown hB _ hB.size hg (fun k hk => hR.1 k hk)
set_option maxHeartbeats 4000000 in
set_option maxRecDepth 100000 in
theorem revset_Delta.calls (g : Nat) (L : List (List Int)) (hL : Good L) (A1 : Option Addr) (c1 : Nat) (known : List Int) (W : World) (ok : Nat → Prop) (hP : (PSet g L).P ok W) (hK : Kd.C (Kd.int .i64) W A1 known.length known) (hc1 : known.length ≤ c1) :
    Calls Try.prog 16 #[.pointer (some ⟨g, 0, none⟩), .slice A1 known.length c1] W fun e W' => ∃ v : Value, e = .returned v ∧ (Kd.slice 3 (Kd.int .i64)).R 30 W' 0 (fun k => W.heap.size ≤ k) v (deltaS L known) ∧ Below W.heap.size W W' := by
  have HP := Aside0.mk hP
  have HL := Aside0.mk hL
  have HK := Aside0.mk hK
  clear hP hL hK
  go_enter Try.func16, Try.ntmps16
  go_wp2_with fail
  go_loopw [5, 6] (fun s5 s6 wr => ∃ i : Nat, i ≤ 16 ∧ s6 = .int .i64 ((i : Int) + 1) ∧ Aside0 ((Kd.slice 3 (Kd.int .i64)).R 30 wr 0 (fun k => W.heap.size ≤ k) s5 (deltaTo L known i)) ∧ Aside0 (Below W.heap.size W wr)) (fun _ s6 _ => (17 - intOf s6).toNat)
  case atStart => exact ⟨0, by omega, rfl, ⟨Kd.R_nil _ _ _ _ _⟩, ⟨Below.refl _ _⟩⟩
  case round =>
    obtain ⟨i, hi, rfl, HR, HB⟩ := hrel
    by_cases hlt : i < 16
    · obtain ⟨A, c, hc, hcap, hC⟩ := rows_C HP.out (pset_at HL.out (m := i + 1) (by omega) (by omega))
      replace hc := pw_cell_below HB.out hc
      have hlen := HL.out.lenS ((i + 1 : Nat) : Int)
      have hps : partS L known i = (rowS L ((i + 1 : Nat) : Int)).drop (getV known ((i : Int) + 1)).toNat := by rw [partS, rowS]; congr 2
      rw [show ((i + 1 : Nat) : Int) = (i : Int) + 1 by simp] at hc hcap hC hlen hps
      obtain ⟨r, hr⟩ : ∃ r, rowS L ((i : Int) + 1) = r := ⟨_, rfl⟩
      rw [hr] at hc hcap hC hlen hps
      have HC := Aside0.mk hC
      have HCP := Aside0.mk hcap
      have HLN := Aside0.mk hlen
      have HKW := Aside0.mk (Kd.C_below HK.out HB.out)
      have hi17 : (i : Int) + 1 < 17 := by omega
      clear hcap hC hr hlen
      go_wp2_with fail
      clear hc
      refine (vector_Get.calls A1 c1 known ((i : Int) + 1) _ wr HKW.out hc1 (vector_Get_eq known _)).mono ?_
      rintro e w1 ⟨rfl, hB1⟩
      have HR1 := Aside0.mk (Kd.R_below HR.out hB1)
      have HB1 := Aside0.mk (below_step HB.out hB1)
      have hgr := getV_range known ((i : Int) + 1)
      obtain ⟨kn, ek⟩ : ∃ kn : Nat, getV known ((i : Int) + 1) = (kn : Int) := ⟨(getV known ((i : Int) + 1)).toNat, by omega⟩
      rw [ek] at hgr hps ⊢
      rw [Int.toNat_natCast] at hps
      have hk2 : (kn : Int) ≤ 1099511627776 := hgr.2
      clear hB1 HR HB HKW ek hgr
      by_cases hk : kn < r.length
      · have hkb : decide ((kn : Int) < (r.length : Int)) = true := decide_eq_true (by omega)
        have hkc : decide (kn < r.length) = true := decide_eq_true hk
        have hne : partS L known i ≠ [] := by
          rw [hps]
          intro he
          have := congrArg List.length he
          rw [List.length_drop] at this
          simp at this
          omega
        have HSET := Aside0.mk (padTo_set hne)
        have hcut := hcutF A r.length c kn (by omega)
        rw [hps] at HSET
        obtain ⟨A', eA⟩ : ∃ A', (if c = kn then A else A.map (fun x => x.add kn)) = A' := ⟨_, rfl⟩
        have hD2 : ∀ w : World, Below W.heap.size W w → (Kd.int .i64).C w A' (r.drop kn).length (r.drop kn) := fun w hb => by
          rw [← eA]
          have h9 := Kd.C_drop (m := kn) (Kd.C_below HC.out hb) (by omega) HCP.out
          rw [show kn * (Kd.int .i64).sz = kn from Nat.mul_one kn] at h9
          exact h9
        rw [eA] at hcut
        have htl : (r.drop kn).length = r.length - kn := List.length_drop
        obtain ⟨t, et⟩ : ∃ t, t = r.drop kn := ⟨_, rfl⟩
        rw [← et] at htl HSET
        replace hD2 : ∀ w : World, Below W.heap.size W w → (Kd.int .i64).C w A' t.length t := fun w hb => by rw [et]; exact hD2 w hb
        rw [← htl] at hcut
        have HD := Aside0.mk hD2
        have HTL := Aside0.mk (show t.length ≤ 1000000 by have := HLN.out; omega)
        have HLE := Aside0.mk (lastNe_le L known i)
        have hk0 : (0 : Int) ≤ (kn : Int) := by omega
        clear hk hne hD2 htl eA et hps
        go_wp2_with fail
        obtain ⟨wo, rfl⟩ : ∃ wo : World, wo = w1 := ⟨_, rfl⟩
        go_loopw [5] (fun s5 wr => ∃ m : Nat, m ≤ i + 1 ∧ Aside0 (lastNe L known i ≤ m) ∧ Aside0 ((Kd.slice 3 (Kd.int .i64)).R 30 wr 0 (fun k => W.heap.size ≤ k) s5 (padTo L known i m)) ∧ Aside0 (Below W.heap.size W wr)) (fun s5 _ => (i + 1 - (match s5 with | .slice _ n _ => n | _ => 0)))
        case atStart => exact ⟨lastNe L known i, by have := HLE.out; omega, ⟨Nat.le_refl _⟩, by rw [padTo_start]; exact HR1, HB1⟩
        case round =>
          obtain ⟨m, hm, HM, HR2, HB2⟩ := hrel
          have hpl := padTo_length L known i m HM.out
          obtain ⟨A5, c5, ev⟩ := Kd.R_slice HR2.out
          rw [hpl] at ev
          subst ev
          by_cases hmlt : m < i + 1
          · have hb1 : decide ((m : Int) < (i : Int) + 1) = true := decide_eq_true (by omega)
            have HPS := Aside0.mk (padTo_succ L known i m HM.out)
            have HSZ := Aside0.mk (show W.heap.size ≤ wr.heap.size from HB2.out.size)
            clear hpl
            go_wp2_with (at_builtin; refine Kd.R_append (Kd.slice 3 (Kd.int .i64)) (w0 := wr) 0 rfl (.tmp 30) (.tmp 31) 31 30 (.slice none 0 0) 24 rfl Try.underlying31 hinfo30B rfl Nat.one_pos (by decide) (.slice A5 m c5) (padTo L known i m) [] [.slice none 0 0] (fun k => W.heap.size ≤ k) (fun _ => False) rfl rfl ⟨_, rfl, Kd.R_nil _ _ _ _ _⟩ (fun _ hk => hk.elim) (fun k hk => Nat.le_trans HSZ.out hk) HR2.out (Below.refl _ _) (Nat.zero_le _) ?cL ?_)
            case cL => rw [padTo_length L known i m HM.out]; omega
            intro v1 w2 hR3 _ hg _
            rw [← HPS.out] at hR3
            obtain ⟨A6, c6, ev6⟩ := Kd.R_slice hR3
            rw [padTo_length L known i (m + 1) (by have := HM.out; omega)] at ev6
            subst ev6
            have HR3 := Aside0.mk hR3
            have HB3 := Aside0.mk (delta_grown (wo := W) HB2.out hg HR2.out)
            clear hR3 hg HR2 HB2
            go_wp2_with fail
            go_roundw
            case rel => exact ⟨m + 1, by omega, ⟨by have := HM.out; omega⟩, HR3, HB3⟩
            case measure => simp; omega
          · have em : m = i + 1 := by omega
            subst em
            have hb1 : decide (((i + 1 : Nat) : Int) < (i : Int) + 1) = false := decide_eq_false (by omega)
            clear hpl hm hmlt
            go_wp2_with fail
            refine (Clone.calls A' (c - kn) t _ (HD.out _ HB2.out) HTL.out).mono ?_
            rintro e w3 ⟨v3, rfl, hR3, hB3⟩
            obtain ⟨A3, c3, ev3⟩ := Kd.R_slice hR3
            subst ev3
            have hR5 := Kd.R_below HR2.out hB3
            obtain ⟨g5, cap5, ev5, _, _, _⟩ := Kd.R_form hR5 (by rw [padTo_length L known i (i + 1) (by have := HM.out; omega)]; omega)
            rw [padTo_length L known i (i + 1) (by have := HM.out; omega)] at ev5
            obtain ⟨e51, e52⟩ : A5 = some ⟨g5, 0, none⟩ ∧ c5 = cap5 := by injection ev5 with h1 _ h2; exact ⟨h1, h2⟩
            subst e51 e52
            have hp := rows_put hR5 i (by omega) (Kd.R_mono hR3 (ok' := fun k => W.heap.size ≤ k ∧ k ≠ g5) (fun k hk => ⟨Nat.le_trans HB2.out.size hk, fun he => by have := Kd.R_lt HR2.out g5 rfl; rw [he] at hk; omega⟩)) (fun k hk => hk)
            obtain ⟨⟨u5, hu5⟩, hf5⟩ := rows_cell hR5 i (by omega)
            rw [HSET.out] at hp
            have HP5 := Aside0.mk hp.1
            have HB5 := Aside0.mk (delta_grown (wo := W) (below_step HB2.out hB3) hp.2 hR5)
            have hi0 : (0 : Int) ≤ (i : Int) := by omega
            have hi1 : (i : Int) < ((i + 1 : Nat) : Int) := by omega
            have hi2 : (i : Int) < (i : Int) + 1 := by omega
            clear hR3 hB3 hR5 ev5 hp HR2 HB2 HB1
            go_wp2_with fail
            go_roundw
            case rel => exact ⟨i + 1, by omega, by simp, HP5, HB5⟩
            case measure => simp [intOf]; omega
      · have hkb : decide ((kn : Int) < (r.length : Int)) = false := decide_eq_false (by omega)
        have hkc : decide (kn < r.length) = false := decide_eq_false hk
        have HN := Aside0.mk (deltaTo_none (L := L) (known := known) (n := i) (by rw [hps]; exact List.drop_eq_nil_of_le (by omega)))
        clear hk hps
        go_wp2_with fail
        go_roundw
        case rel => exact ⟨i + 1, by omega, by simp, by rw [HN.out]; exact HR1, HB1⟩
        case measure => simp [intOf]; omega
    · have e16 : i = 16 := by omega
      subst e16
      clear hi hlt
      go_wp2_with fail
      go_ret
      exact ⟨_, rfl, HR.out, HB.out⟩
end Go.Proofs.Ytadkafhhkidecaa.P
