/- Contracts, typed by hand: the program's set of what was revoked: what only reads. -/
import Derived.Test.YtadkafhhkidecaaHRw
import Derived.Test.YtadkafhhkidecaaR11
import Derived.Lib.SliceRun
import Derived.Test.YtadkafhhkidecaaHBase
import Derived.Test.YtadkafhhkidecaaHVector
import Derived.Test.YtadkafhhkidecaaP1
import Derived.Test.YtadkafhhkidecaaP2
set_option linter.unusedVariables false
set_option linter.unusedSimpArgs false
namespace Go.Proofs.Ytadkafhhkidecaa.P
open Go.RowKit Go.Proofs.YtadkafhhkidecaaW.PrintWords Go.Proofs.YtadkafhhkidecaaW.PrintLast Go.Proofs.YtadkafhhkidecaaW.PrintMore
/-- The program's set: row 0 is no domain's. -/
def PSet (g : Nat) (L : List (List Int)) : Res := Res.rows (Kd.int .i64) 55 3 g ([] :: L)
theorem pset_at {L : List (List Int)} (h : Good L) {m : Nat} (h1 : 1 ≤ m) (h2 : m ≤ 16) : ([] :: L)[m]? = some (rowS L (m : Int)) := by
  obtain ⟨n, rfl⟩ : ∃ n, m = n + 1 := ⟨m - 1, by omega⟩
  rw [List.getElem?_cons_succ, h.at_ (by omega), rowS]
  congr 2
theorem int_nat (d : Int) (h : 1 ≤ d) : ∃ m : Nat, d = (m : Int) ∧ 1 ≤ m := ⟨d.toNat, by omega, by omega⟩
set_option maxHeartbeats 1000000 in
theorem revset_Set_Has.no (g : Nat) (L : List (List Int)) (d s : Int) (W : World) (hd : ¬ (1 ≤ d ∧ d ≤ 16)) :
    Calls Try.prog 12 #[.pointer (some ⟨g, 0, none⟩), .agg #[.int .i64 d, .int .i64 s]] W fun e W' => e = .returned (.bool false) ∧ Below W.heap.size W W' := by
  have HI := Aside0.mk (show revset_is.f d = some false by rw [is_eq, decide_eq_false hd])
  clear hd
  go_enter Try.func12, Try.ntmps12
  go_wp2_with fail
  go_quiet ((go_at_call 32; exact quiet_drawn (revset_is.calls d false _ HI.out)))
  go_wp2_with fail
  go_ret
  exact ⟨rfl, pw_below_drewN (below_alloc (Below.refl _ _) _) _⟩
set_option maxHeartbeats 1000000 in
theorem revset_Set_Has.yes (g : Nat) (L : List (List Int)) (hL : Good L) (m : Nat) (s : Int) (W : World) (ok : Nat → Prop) (hP : (PSet g L).P ok W) (h1 : 1 ≤ m) (h2 : m ≤ 16) :
    Calls Try.prog 12 #[.pointer (some ⟨g, 0, none⟩), .agg #[.int .i64 (m : Int), .int .i64 s]] W fun e W' => e = .returned (.bool (hasS L m s)) ∧ Below W.heap.size W W' := by
  have HI := Aside0.mk (show revset_is.f m = some true by rw [is_eq, decide_eq_true (by omega)])
  obtain ⟨A, c, hc, hcap, hC⟩ := rows_C hP (pset_at hL h1 h2)
  have hlt := rows_lt hP
  have hlen := hL.lenS (m : Int)
  obtain ⟨b, hb⟩ : ∃ b, hasS L m s = b := ⟨_, rfl⟩
  have HK := Aside0.mk (show slices_Contains_int_int.f 100 (rowS L m) s = some b by
    rw [contains_eq 100 _ s (by omega) (by omega), ← hb]
    exact congrArg some (decide_eq_decide.2 ⟨fun h => ⟨by omega, by omega, h⟩, fun h => h.2.2⟩))
  rw [hb]
  obtain ⟨r, hr⟩ : ∃ r, rowS L (m : Int) = r := ⟨_, rfl⟩
  rw [hr] at hc hcap hC HK
  have HC := Aside0.mk hC
  have HP := Aside0.mk hcap
  clear hC hcap hP hr hb hL hlen
  go_enter Try.func12, Try.ntmps12
  go_wp2_with fail
  go_quiet ((first | (go_at_call 32; exact quiet_drawn (revset_is.calls m true _ HI.out)) | (go_at_call 33; exact quiet_drawn (slices_Contains_int_int.calls 100 A c r s b _ (Kd.C_drewN (Kd.C_alloc HC.out _) _) HP.out HK.out))))
  go_wp2_with fail
  go_ret
  exact ⟨rfl, pw_below_drewN (below_alloc (Below.refl _ _) _) _⟩
theorem revset_Set_Has.all (g : Nat) (L : List (List Int)) (hL : Good L) (d s : Int) (W : World) (ok : Nat → Prop) (hP : (PSet g L).P ok W) :
    Calls Try.prog 12 #[.pointer (some ⟨g, 0, none⟩), .agg #[.int .i64 d, .int .i64 s]] W fun e W' => e = .returned (.bool (hasS L d s)) ∧ Below W.heap.size W W' := by
  by_cases h : 1 ≤ d ∧ d ≤ 16
  · obtain ⟨m, rfl, hm⟩ := int_nat d h.1
    exact revset_Set_Has.yes g L hL m s W ok hP hm (by omega)
  · have := revset_Set_Has.no g L d s W h
    rwa [show hasS L d s = false from decide_eq_false (fun hh => h ⟨hh.1, hh.2.1⟩)]
/-! slices.Clone -/
theorem R_of_ownsRow' {k : IntKind} {e : Nat} {w : World} {base : Nat} {v : Value} {xs : List Int} (h : w.ownsRow base e 1 v xs.length (nums k xs)) : (Kd.int k).R e w 0 (fun k => base ≤ k) v xs :=
  Kd.R_lower (Kd.R_of_own (enc := Value.int k) (h1 := fun _ => rfl) h (fun k hk => own_base h k hk)) (Nat.zero_le _)
theorem C_none' {k : IntKind} {w : World} {n : Nat} {l : List Int} (h : (Kd.int k).C w none n l) : n = 0 := by
  rcases Nat.eq_zero_or_pos n with h0 | h0
  · exact h0
  · obtain ⟨ad, e, _⟩ := h.2.2 h0
    cases e
set_option maxHeartbeats 1000000 in
theorem Clone.calls (A : Option Addr) (c : Nat) (l : List Int) (W : World) (hC : Kd.C (Kd.int .i64) W A l.length l) (hl : l.length ≤ 1000000) :
    Calls Try.prog 36 #[.slice A l.length c] W fun e W' => ∃ v : Value, e = .returned v ∧ (Kd.int .i64).R 3 W' 0 (fun k => W.heap.size ≤ k) v l ∧ Below W.heap.size W W' := by
  have hnil := fun W : World => Lib.run_eql_slice_nil (P := Try.prog) W 30 3 A l.length c 0 0 Try.underlying30
  have HR := Aside0.mk hC
  cases A with
  | none =>
    have h0 := C_none' hC
    obtain rfl : l = [] := List.eq_nil_of_length_eq_zero h0
    clear hC h0 hnil
    have hnil := fun W : World => Lib.run_eql_slice_nil (P := Try.prog) W 30 3 none 0 c 0 0 Try.underlying30
    go_enter Try.func36, Try.ntmps36
    go_wp2_with fail
    go_ret
    exact ⟨.slice none 0 0, rfl, Kd.R_nil _ _ _ _ _, Below.refl _ _⟩
  | some ad =>
    clear hC
    go_enter Try.func36, Try.ntmps36
    have HO := Aside0.mk (R_of_ownsRow' (own_lit W W.heap.size 3 .i64 [] (Nat.le_refl _) (by decide)))
    go_wp2_with (at_builtin; refine app_int (k := .i64) rfl (.tmp 5) (.tmp 6) 30 3 8 rfl Try.underlying30 hinfo3 (by decide) (.slice (some ⟨W.heap.size, 0, none⟩) 0 0) [] l (some ad) l.length c (fun k => W.heap.size ≤ k) rfl rfl HO.out ?c1 ?c2 ?_)
    case c1 => exact Kd.C_alloc HR.out _
    case c2 => simp only [List.length_nil]; omega
    intro v1 w1 hR hg
    have HR1 := Aside0.mk hR
    have HB := Aside0.mk (pw_below_grown (below_alloc (Below.refl W.heap.size W) (.cells #[] 3)) _ (by simp) hg (fun k hk => by have e : W.heap.size = k := Option.some.inj hk; omega))
    clear hR hg HO hnil
    go_wp2_with fail
    go_ret
    exact ⟨v1, rfl, Kd.R_mono HR1.out (fun k hk => by omega), HB.out⟩
/-! Row -/
set_option maxHeartbeats 1000000 in
theorem revset_Set_Row.no (g : Nat) (d : Int) (W : World) (hd : ¬ (1 ≤ d ∧ d ≤ 16)) :
    Calls Try.prog 18 #[.pointer (some ⟨g, 0, none⟩), .int .i64 d] W fun e W' => ∃ v : Value, e = .returned v ∧ (Kd.int .i64).R 3 W' 0 (fun k => W.heap.size ≤ k) v [] ∧ Below W.heap.size W W' := by
  have HI := Aside0.mk (show revset_is.f d = some false by rw [is_eq, decide_eq_false hd])
  clear hd
  go_enter Try.func18, Try.ntmps18
  go_wp2_with fail
  refine (revset_is.calls d false _ HI.out).mono ?_
  rintro e w' ⟨rfl, ⟨n, rfl⟩⟩
  go_wp2_with fail
  go_ret
  exact ⟨_, rfl, Kd.R_nil _ _ _ _ _, pw_below_drewN (Below.refl _ _) _⟩
set_option maxHeartbeats 1000000 in
theorem revset_Set_Row.yes (g : Nat) (L : List (List Int)) (hL : Good L) (m : Nat) (W : World) (ok : Nat → Prop) (hP : (PSet g L).P ok W) (h1 : 1 ≤ m) (h2 : m ≤ 16) :
    Calls Try.prog 18 #[.pointer (some ⟨g, 0, none⟩), .int .i64 (m : Int)] W fun e W' => ∃ v : Value, e = .returned v ∧ (Kd.int .i64).R 3 W' 0 (fun k => W.heap.size ≤ k) v (rowS L m) ∧ Below W.heap.size W W' := by
  have HI := Aside0.mk (show revset_is.f m = some true by rw [is_eq, decide_eq_true (by omega)])
  obtain ⟨A, c, hc, hcap, hC⟩ := rows_C hP (pset_at hL h1 h2)
  have hlen := hL.lenS (m : Int)
  obtain ⟨r, hr⟩ : ∃ r, rowS L (m : Int) = r := ⟨_, rfl⟩
  rw [hr] at hc hcap hC hlen ⊢
  have HC := Aside0.mk hC
  have HL := Aside0.mk hlen
  clear hC hcap hP hr hL hlen
  go_enter Try.func18, Try.ntmps18
  go_wp2_with fail
  refine (revset_is.calls m true _ HI.out).mono ?_
  rintro e w' ⟨rfl, ⟨n, rfl⟩⟩
  go_wp2_with fail
  refine (Clone.calls A c r _ (Kd.C_drewN HC.out n) (by have := HL.out; omega)).mono ?_
  rintro e w' ⟨v, rfl, hR, hB⟩
  have HR := Aside0.mk hR
  have HB := Aside0.mk (below_then (pw_below_drewN (Below.refl W.heap.size W) n) (Nat.le_refl _) hB)
  clear hR hB
  go_wp2_with fail
  go_ret
  exact ⟨_, rfl, HR.out, HB.out⟩
theorem revset_Set_Row.all (g : Nat) (L : List (List Int)) (hL : Good L) (d : Int) (W : World) (ok : Nat → Prop) (hP : (PSet g L).P ok W) :
    Calls Try.prog 18 #[.pointer (some ⟨g, 0, none⟩), .int .i64 d] W fun e W' => ∃ v : Value, e = .returned v ∧ (Kd.int .i64).R 3 W' 0 (fun k => W.heap.size ≤ k) v (rowN L d) ∧ Below W.heap.size W W' := by
  unfold rowN
  by_cases h : 1 ≤ d ∧ d ≤ 16
  · rw [if_pos h]
    obtain ⟨m, rfl, hm⟩ := int_nat d h.1
    exact revset_Set_Row.yes g L hL m W ok hP hm (by omega)
  · rw [if_neg h]
    exact revset_Set_Row.no g d W h
/-! Vector -/
theorem lensS_length (L : List (List Int)) : (lensS L).length = L.length := by simp [lensS]
theorem lensS_take {L : List (List Int)} (hL : Good L) {n : Nat} (hn : n < 16) : (lensS L).take (n + 1) = (lensS L).take n ++ [((rowS L ((n : Int) + 1)).length : Int)] := by
  have h1 := hL.1
  have h2 : n < (lensS L).length := by rw [lensS_length]; omega
  rw [List.take_succ_eq_append_getElem h2]
  congr 2
  have h3 := hL.at_ hn
  simp only [lensS, List.getElem_map, rowS]
  rw [show ((n : Int) + 1).toNat - 1 = n by omega, List.getD_eq_getElem?_getD, List.getElem?_eq_getElem (by omega)]
  rfl
set_option maxHeartbeats 2000000 in
theorem revset_Set_Vector.calls (g : Nat) (L : List (List Int)) (hL : Good L) (W : World) (ok : Nat → Prop) (hP : (PSet g L).P ok W) :
    Calls Try.prog 25 #[.pointer (some ⟨g, 0, none⟩)] W fun e W' => ∃ v : Value, e = .returned v ∧ Kd.V (Kd.int .i64) 3 W' W.heap.size (fun k => W.heap.size ≤ k) v (vectorS L) ∧ Below W.heap.size W W' := by
  have HPP := Aside0.mk hP
  have HL := Aside0.mk hL
  clear hP hL
  go_enter Try.func25, Try.ntmps25
  go_wp2_with fail
  go_loopw [3, 4] (fun s3 s4 wr => ∃ i : Nat, i ≤ 16 ∧ s4 = .int .i64 ((i : Int) + 1) ∧ Aside0 ((Kd.int .i64).R 3 wr 0 (fun k => W.heap.size ≤ k) s3 ((lensS L).take i)) ∧ Aside0 (Below W.heap.size W wr)) (fun _ s4 _ => (17 - intOf s4).toNat)
  case atStart => exact ⟨0, by omega, rfl, ⟨Kd.R_nil _ _ _ _ _⟩, ⟨Below.refl _ _⟩⟩
  case round =>
    obtain ⟨i, hi, rfl, HR, HB⟩ := hrel
    by_cases hlt : i < 16
    · obtain ⟨A, c, hc, hcap, hC⟩ := rows_C ((PSet g L).on HPP.out HB.out) (pset_at HL.out (m := i + 1) (by omega) (by omega))
      have hsnoc := lensS_take HL.out hlt
      rw [show ((i + 1 : Nat) : Int) = (i : Int) + 1 by simp] at hc hcap hC
      obtain ⟨r, hr⟩ : ∃ r, rowS L ((i : Int) + 1) = r := ⟨_, rfl⟩
      rw [hr] at hc hsnoc
      have HSN := Aside0.mk hsnoc
      clear hcap hC hr hsnoc
      go_wp2_with (at_builtin; refine app_int (k := .i64) rfl (.tmp 9) (.tmp 17) 30 3 8 rfl Try.underlying30 hinfo3 (by decide) u3 ((lensS L).take i) [(r.length : Int)] (some ⟨wr.heap.size, 0, none⟩) 1 1 (fun k => W.heap.size ≤ k) rfl rfl ?cO ?cR ?cL ?_)
      case cO => exact Kd.R_alloc HR.out _
      case cR => exact lit_C (k := .i64) wr 3 [(r.length : Int)] _ rfl (by simp)
      case cL => rw [List.length_take]; omega
      intro v1 w1 hR hg
      rw [← HSN.out] at hR
      have HR1 := Aside0.mk hR
      have HB1 := Aside0.mk (pw_below_grown (below_alloc HB.out (.cells #[.int .i64 (r.length : Int)] 3)) _ (by have := HB.out.size; simp; omega) hg (fun k hk => HR.out.1 k hk))
      have HSZ := Aside0.mk HB.out.size
      clear hR hg HR HB HSN
      go_wp2_with fail
      go_roundw
      case rel => exact ⟨i + 1, by omega, by simp, ⟨Kd.R_mono HR1.out (fun k hk => by have := HSZ.out; omega)⟩, HB1⟩
      case measure => simp [intOf]; omega
    · have e16 : i = 16 := by omega
      subst e16
      have e2 : (lensS L).take 16 = lensS L := List.take_of_length_le (by rw [lensS_length, HL.out.1]; exact Nat.le_refl _)
      rw [e2] at HR
      obtain ⟨A, c, hu⟩ := Kd.R_slice HR.out
      subst hu
      have HR1 := Aside0.mk (Kd.R_reads' HR.out)
      clear HR e2 hi
      go_wp2_with fail
      refine (vector_Bare.calls A c (lensS L) _ _ HR1.out.2.2 HR1.out.2.1 rfl).mono ?_
      rintro e w' ⟨v, rfl, hV, hB⟩
      have HV := Aside0.mk (Kd.V_lower (base' := W.heap.size) (Kd.V_mono hV (ok' := fun k => W.heap.size ≤ k) (fun k hk => Nat.le_trans HB.out.size hk)) HB.out.size)
      have HB2 := Aside0.mk (below_step HB.out hB)
      clear hV hB HB HR1
      go_wp2_with fail
      go_ret
      exact ⟨_, rfl, HV.out, HB2.out⟩
end Go.Proofs.Ytadkafhhkidecaa.P
