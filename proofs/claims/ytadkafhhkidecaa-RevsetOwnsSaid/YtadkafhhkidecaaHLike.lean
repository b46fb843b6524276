/- Contracts, typed by hand: what the laws hold against each other: like; the laws' calls. -/
import Derived.Test.YtadkafhhkidecaaHDoes
import Derived.Test.YtadkafhhkidecaaVPure
import Derived.Test.YtadkafhhkidecaaP2
import Derived.Test.YtadkafhhkidecaaP6
set_option linter.unusedVariables false
set_option linter.unusedSimpArgs false
namespace Go.Proofs.Ytadkafhhkidecaa.P
open Go.RowKit Go.Proofs.YtadkafhhkidecaaW.PrintWords Go.Proofs.YtadkafhhkidecaaW.PrintLast Go.Proofs.YtadkafhhkidecaaW.PrintMore
theorem Same11.calls (A : Option Addr) (c : Nat) (a : List Int) (B : Option Addr) (c' : Nat) (b : List Int) (W : World) (ha : (Kd.int .i64).C W A a.length a) (hca : a.length ≤ c) (hb : (Kd.int .i64).C W B b.length b) (hcb : b.length ≤ c') (hl : a.length ≤ 1000000) :
    Calls Try.prog 27 #[.slice A a.length c, .slice B b.length c'] W fun e W' => e = .returned (.bool (decide (a = b))) ∧ Drawn0 W W' :=
  liveryref10_Same.calls (a.length + 1) A c a B c' b _ W ha hca hb hcb (ref10_Same _ a b (by omega) (by omega))
theorem sameRows_l0 (L : List (List Int)) (hl : L.length ≤ 1000000) (hm : ∀ r ∈ L, r.length ≤ 1000000) : ∀ (d k i : Nat), L.length - i = d → i ≤ L.length → d + 1000002 < k → liveryref11_SameRows.l0 k L L (i : Int) = some true := by
  intro d
  induction d with
  | zero =>
    intro k i hd hi hk
    obtain ⟨k, rfl⟩ : ∃ m, k = m + 1 := ⟨k - 1, by omega⟩
    simp only [liveryref11_SameRows.l0]
    rw [if_neg (by omega)]
  | succ d ih =>
    intro k i hd hi hk
    obtain ⟨k, rfl⟩ : ∃ m, k = m + 1 := ⟨k - 1, by omega⟩
    simp only [liveryref11_SameRows.l0]
    have h1 : i < L.length := by omega
    have h2 : (rd_L1 L (i : Int)).length ≤ 1000000 := by
      unfold rd_L1
      rw [Int.toNat_natCast, List.getD_eq_getElem?_getD, List.getElem?_eq_getElem h1]
      exact hm _ (List.getElem_mem h1)
    rw [if_pos (by omega), if_pos (by omega), if_pos (by omega), ref10_Same k _ _ (by omega) (by omega), decide_eq_true rfl]
    have := ih k (i + 1) (by omega) (by omega) (by omega)
    rw [Int.natCast_add] at this
    have hw : wrap64 ((i : Int) + 1) = (i : Int) + 1 := w64 (by omega) (by omega)
    simp only [Option.bind_some, if_true, hw]
    exact this
theorem SameRows.self (A : Option Addr) (c : Nat) (B : Option Addr) (c' : Nat) (L : List (List Int)) (W : World) (ha : (Kd.slice 3 (Kd.int .i64)).C W A L.length L) (hca : L.length ≤ c) (hb : (Kd.slice 3 (Kd.int .i64)).C W B L.length L) (hcb : L.length ≤ c') (hl : L.length ≤ 1000000) (hm : ∀ r ∈ L, r.length ≤ 1000000) :
    Calls Try.prog 15 #[.slice A L.length c, .slice B L.length c'] W fun e W' => e = .returned (.bool true) ∧ Drawn0 W W' := by
  refine liveryref11_SameRows.calls (L.length + 1000004) A c L B c' L true W ha hca hb hcb ?_
  unfold liveryref11_SameRows.f
  rw [if_pos rfl]
  exact sameRows_l0 L hl hm L.length _ 0 (by omega) (by omega) (by omega)
theorem rowN_len {L : List (List Int)} (h : Good L) (d : Int) : (rowN L d).length ≤ 32 := by
  unfold rowN
  split
  · exact h.lenS d
  · simp
theorem vectorS_len (L : List (List Int)) : (vectorS L).length ≤ 16 := by
  unfold vectorS
  rw [bareOf_length]
  exact lastPos_le _ 16
set_option maxHeartbeats 4000000 in
set_option maxRecDepth 100000 in
theorem like.calls (gs gr : Nat) (L : List (List Int)) (hL : Good L) (W : World) (ok ok' : Nat → Prop) (hP : (PSet gs L).P ok W) (hR : (RSet gr L).P ok' W) :
    Calls Try.prog 11 #[.pointer (some ⟨gs, 0, none⟩), .pointer (some ⟨gr, 0, none⟩)] W fun e W' => e = .returned (.bool true) ∧ Below W.heap.size W W' := by
  have HP := Aside0.mk ((PSet gs L).bound hP)
  have HR := Aside0.mk ((RSet gr L).bound hR)
  have HL := Aside0.mk hL
  clear hP hR hL
  go_enter Try.func11, Try.ntmps11
  go_wp2_with fail
  go_loopw [5] (fun s5 wr => ∃ i : Nat, i ≤ 18 ∧ s5 = .int .i64 (i : Int) ∧ Aside0 (Below W.heap.size W wr)) (fun s5 _ => (19 - (intOf s5).toNat))
  case atStart => exact ⟨0, by omega, rfl, ⟨Below.refl _ _⟩⟩
  case round =>
    obtain ⟨i, hi, rfl, HB⟩ := hrel
    by_cases hlt : i < 18
    · have b1 : decide ((i : Int) ≤ 17) = true := decide_eq_true (by omega)
      have b2 : decide (i ≤ 17) = true := decide_eq_true (by omega)
      go_wp2_with fail
      refine (revset_Set_Row.all gs L HL.out i wr _ ((PSet gs L).on HP.out HB.out)).mono ?_
      rintro e w1 ⟨v, rfl, hR1, hB1⟩
      obtain ⟨A1, c1, ev⟩ := Kd.R_slice hR1
      subst ev
      have HR1 := Aside0.mk (Kd.R_reads' hR1)
      have HB1 := Aside0.mk (below_step HB.out hB1)
      clear hR1 hB1 HB
      go_wp2_with fail
      refine (ref_Row.all gr L HL.out i w1 _ ((RSet gr L).on HR.out HB1.out)).mono ?_
      rintro e w2 ⟨A2, c2, rfl, hc2, hC2, rfl⟩
      have HC2 := Aside0.mk (And.intro hc2 hC2)
      clear hc2 hC2
      go_wp2_with fail
      refine (Same11.calls A1 c1 _ A2 c2 _ w1 HR1.out.2.2 HR1.out.2.1 HC2.out.2 HC2.out.1 (by have := rowN_len HL.out i; omega)).mono ?_
      rintro e w3 ⟨rfl, ⟨n, rfl⟩⟩
      rw [decide_eq_true (rfl : rowN L (i : Int) = rowN L (i : Int))]
      have HB3 := Aside0.mk (pw_below_drewN HB1.out n)
      clear HR1 HC2 HB1
      go_wp2_with fail
      go_roundw
      case rel => exact ⟨i + 1, by omega, by simp, HB3⟩
      case measure => simp [intOf]; omega
    · have e18 : i = 18 := by omega
      subst e18
      clear hlt hi
      go_wp2_with fail
      refine (revset_Set_Vector.calls gs L HL.out wr _ ((PSet gs L).on HP.out HB.out)).mono ?_
      rintro e w1 ⟨v, rfl, hV1, hB1⟩
      obtain ⟨A1, c1, ev⟩ := Kd.V_slice hV1
      subst ev
      have HV1 := Aside0.mk (Kd.V_reads' hV1)
      have HB1 := Aside0.mk (below_step HB.out hB1)
      clear hV1 hB1 HB
      go_wp2_with fail
      refine (ref_Vector.calls gr L HL.out w1 _ ((RSet gr L).on HR.out HB1.out)).mono ?_
      rintro e w2 ⟨v2, rfl, hV2, hB2⟩
      obtain ⟨A2, c2, ev⟩ := Kd.V_slice hV2
      subst ev
      have HV2 := Aside0.mk (Kd.V_reads' hV2)
      have HV1' := Aside0.mk (Kd.C_below HV1.out.2.2 hB2)
      have HB2 := Aside0.mk (below_step HB1.out hB2)
      clear hV2 hB2 HB1
      go_wp2_with fail
      refine (Same11.calls A1 c1 _ A2 c2 _ w2 HV1'.out HV1.out.2.1 HV2.out.2.2 HV2.out.2.1 (by have := vectorS_len L; omega)).mono ?_
      rintro e w3 ⟨rfl, ⟨n, rfl⟩⟩
      rw [decide_eq_true (rfl : vectorS L = vectorS L)]
      have HB3 := Aside0.mk (pw_below_drewN HB2.out n)
      clear HV1 HV2 HV1' HB2
      go_wp2_with fail
      go_ret
      exact ⟨rfl, HB3.out⟩
end Go.Proofs.Ytadkafhhkidecaa.P
