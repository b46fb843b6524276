/- Contracts, typed by hand: the document's set: what only reads. -/
import Derived.Test.YtadkafhhkidecaaHSetD
import Derived.IntWalk
import Derived.Test.YtadkafhhkidecaaP3
import Derived.Test.YtadkafhhkidecaaP5
set_option linter.unusedVariables false
set_option linter.unusedSimpArgs false
namespace Go.Proofs.Ytadkafhhkidecaa.P
open Go.RowKit Go.Proofs.YtadkafhhkidecaaW.PrintWords Go.Proofs.YtadkafhhkidecaaW.PrintLast Go.Proofs.YtadkafhhkidecaaW.PrintMore
/-- The document's set: a struct of one slice of rows. -/
def RSet (g : Nat) (L : List (List Int)) : Res where
  P := fun ok W => ∃ v, ok g ∧ W.heap[g]? = some (.cells #[v] 57 (0, 0)) ∧ (Kd.slice 3 (Kd.int .i64)).R 30 W 0 (fun k => ok k ∧ k ≠ g) v L
  mono := fun hok ⟨v, h1, h2, h3⟩ => ⟨v, hok _ h1, h2, Kd.R_mono h3 (fun k hk => ⟨hok k hk.1, hk.2⟩)⟩
  step := fun ⟨v, h1, h2, h3⟩ hm => ⟨v, h1, (hm _ h1 (blk_lt h2)).trans h2, Kd.R_step h3 (fun k hk => hm k hk.1)⟩
  bound := fun ⟨v, h1, h2, h3⟩ => ⟨v, ⟨h1, blk_lt h2⟩, h2, Kd.R_mono (Kd.R_bound h3) (fun k hk => ⟨⟨hk.1.1, hk.2.2.1⟩, hk.1.2⟩)⟩
section
variable {g : Nat} {L : List (List Int)} {ok : Nat → Prop} {W : World}
theorem rset_open (h : (RSet g L).P ok W) (hL : Good L) : ∃ B c, W.cell? ⟨g, 0, none⟩ = some (.slice (some ⟨B, 0, none⟩) 16 c) ∧ W.heap[g]? = some (.cells #[.slice (some ⟨B, 0, none⟩) 16 c] 57 (0, 0)) ∧ 16 ≤ c ∧ ok g ∧ B ≠ g ∧
    (Kd.slice 3 (Kd.int .i64)).R 30 W 0 (fun k => ok k ∧ k ≠ g) (.slice (some ⟨B, 0, none⟩) 16 c) L := by
  obtain ⟨v, h1, h2, h3⟩ := h
  obtain ⟨B, c, ev, _, _, _⟩ := Kd.R_form h3 (by have := hL.1; omega)
  rw [hL.1] at ev
  subst ev
  exact ⟨B, c, by rw [blk_cell h2]; rfl, h2, (Kd.R_reads' h3).2.1, h1, (h3.1 B rfl).2, h3⟩
/-- Row i. -/
theorem rset_row {B c : Nat} (h : (Kd.slice 3 (Kd.int .i64)).R 30 W 0 ok (.slice (some ⟨B, 0, none⟩) 16 c) L) (hL : Good L) (i : Nat) (hi : i < 16) :
    ∃ A c', W.cell? ⟨B, i, none⟩ = some (.slice A (L.getD i []).length c') ∧ (L.getD i []).length ≤ c' ∧ (Kd.int .i64).C W A (L.getD i []).length (L.getD i []) := by
  have hr := Kd.R_reads' h
  have hC := hr.2.2
  obtain ⟨ad, A, c', e1, hc, hl, hC2⟩ := at_slice hC i (by rw [hL.1]; exact hi)
  cases e1
  rw [add_plain] at hc
  exact ⟨A, c', hc, hl, hC2⟩
end
theorem int_nat1 (d : Int) (h : 1 ≤ d) : ∃ n : Nat, d = (n : Int) + 1 := ⟨(d - 1).toNat, by omega⟩
theorem rowS_nat (L : List (List Int)) (n : Nat) : rowS L ((n : Int) + 1) = L.getD n [] := by rw [rowS]; congr 1
set_option maxHeartbeats 1000000 in
theorem ref_Has.no (g : Nat) (d s : Int) (W : World) (hd : ¬ (1 ≤ d ∧ d ≤ 16)) :
    Calls Try.prog 13 #[.pointer (some ⟨g, 0, none⟩), .agg #[.int .i64 d, .int .i64 s]] W fun e W' => e = .returned (.bool false) ∧ Below W.heap.size W W' := by
  by_cases h1 : 1 ≤ d
  · have h1b : decide (1 ≤ d) = true := decide_eq_true h1
    have h2b : decide (d ≤ 16) = false := decide_eq_false (by omega)
    clear hd h1
    go_enter Try.func13, Try.ntmps13
    go_wp2_with fail
    go_quiet (fail)
    go_wp2_with fail
    go_ret
    exact ⟨rfl, pw_below_drewN (below_alloc (Below.refl _ _) _) _⟩
  · have h1b : decide (1 ≤ d) = false := decide_eq_false h1
    clear hd h1
    go_enter Try.func13, Try.ntmps13
    go_wp2_with fail
    go_quiet (fail)
    go_wp2_with fail
    go_ret
    exact ⟨rfl, pw_below_drewN (below_alloc (Below.refl _ _) _) _⟩
set_option maxHeartbeats 1000000 in
theorem ref_Has.yes (g : Nat) (L : List (List Int)) (hL : Good L) (d : Int) (n : Nat) (s : Int) (W : World) (ok : Nat → Prop) (hP : (RSet g L).P ok W) (hn : n < 16) (hd : d = (n : Int) + 1) :
    Calls Try.prog 13 #[.pointer (some ⟨g, 0, none⟩), .agg #[.int .i64 d, .int .i64 s]] W fun e W' => e = .returned (.bool (hasS L d s)) ∧ Below W.heap.size W W' := by
  obtain ⟨B, c, hcg, hbg, hc16, _, _, hR⟩ := rset_open hP hL
  have hlt := blk_lt hbg
  have hltB := Kd.R_lt hR B rfl
  obtain ⟨A, c', hcB, hcap, hC⟩ := rset_row hR hL n hn
  have hlen := hL.len n
  obtain ⟨b, hb⟩ : ∃ b, hasS L d s = b := ⟨_, rfl⟩
  have HK := Aside0.mk (show liveryref11_in.f 100 (L.getD n []) s = some b by
    rw [in_eq 100 _ s (by omega) (by omega), ← hb, hasS, hd, rowS_nat]
    exact congrArg some (decide_eq_decide.2 ⟨fun h => ⟨by omega, by omega, h⟩, fun h => h.2.2⟩))
  rw [hb]
  obtain ⟨r, hr⟩ : ∃ r, L.getD n [] = r := ⟨_, rfl⟩
  rw [hr] at hcB hcap hC HK
  have HC := Aside0.mk hC
  have HP := Aside0.mk hcap
  have h1b : decide (1 ≤ d) = true := decide_eq_true (by omega)
  have h2b : decide (d ≤ 16) = true := decide_eq_true (by omega)
  have hw : IntKind.i64.wrap (d - 1) = (n : Int) := by rw [hd]; exact (IntWalk.i64_in _ (by omega)).trans (by omega)
  have h0 : (0 : Int) ≤ (n : Int) := by omega
  have h16 : (n : Int) < 16 := by omega
  clear hC hcap hP hr hb hL hlen hR hd hbg
  go_enter Try.func13, Try.ntmps13
  go_wp2_with fail
  go_quiet ((go_at_call 34; exact quiet_drawn (liveryref11_in.calls 100 A c' r s b _ (Kd.C_drewN (Kd.C_alloc HC.out _) _) HP.out HK.out)))
  go_wp2_with fail
  go_ret
  exact ⟨rfl, pw_below_drewN (below_alloc (Below.refl _ _) _) _⟩
theorem ref_Has.all (g : Nat) (L : List (List Int)) (hL : Good L) (d s : Int) (W : World) (ok : Nat → Prop) (hP : (RSet g L).P ok W) :
    Calls Try.prog 13 #[.pointer (some ⟨g, 0, none⟩), .agg #[.int .i64 d, .int .i64 s]] W fun e W' => e = .returned (.bool (hasS L d s)) ∧ Below W.heap.size W W' := by
  by_cases h : 1 ≤ d ∧ d ≤ 16
  · obtain ⟨n, rfl⟩ := int_nat1 d h.1
    exact ref_Has.yes g L hL _ n s W ok hP (by omega) rfl
  · have := ref_Has.no g d s W h
    rwa [show hasS L d s = false from decide_eq_false (fun hh => h ⟨hh.1, hh.2.1⟩)]
set_option maxHeartbeats 1000000 in
theorem ref_Row.all (g : Nat) (L : List (List Int)) (hL : Good L) (d : Int) (W : World) (ok : Nat → Prop) (hP : (RSet g L).P ok W) :
    Calls Try.prog 30 #[.pointer (some ⟨g, 0, none⟩), .int .i64 d] W fun e W' => ∃ A c, e = .returned (.slice A (rowN L d).length c) ∧ (rowN L d).length ≤ c ∧ (Kd.int .i64).C W A (rowN L d).length (rowN L d) ∧ W = W' := by
  unfold rowN
  by_cases h : 1 ≤ d ∧ d ≤ 16
  · rw [if_pos h]
    obtain ⟨n, rfl⟩ := int_nat1 d h.1
    have hn : n < 16 := by omega
    obtain ⟨B, c, hcg, _, hc16, _, _, hR⟩ := rset_open hP hL
    obtain ⟨A, c', hcB, hcap, hC⟩ := rset_row hR hL n hn
    rw [rowS_nat]
    obtain ⟨r, hr⟩ : ∃ r, L.getD n [] = r := ⟨_, rfl⟩
    rw [hr] at hcB hcap hC ⊢
    have HC := Aside0.mk hC
    have HP := Aside0.mk hcap
    have h1b : decide ((n : Int) + 1 < 1) = false := decide_eq_false (by omega)
    have h2b : decide (16 < (n : Int) + 1) = false := decide_eq_false (by omega)
    have h0 : (0 : Int) ≤ (n : Int) := by omega
    have h16 : (n : Int) < 16 := by omega
    clear hC hcap hP hr hL hR h
    go_enter Try.func30, Try.ntmps30
    go_wp2_with fail
    go_ret
    exact ⟨A, c', rfl, HP.out, HC.out, rfl⟩
  · rw [if_neg h]
    by_cases h1 : d < 1
    · have h1b : decide (d < 1) = true := decide_eq_true h1
      clear h h1
      go_enter Try.func30, Try.ntmps30
      go_wp2_with fail
      go_ret
      exact ⟨none, 0, rfl, Nat.le_refl _, Kd.C_nil _ _, rfl⟩
    · have h1b : decide (d < 1) = false := decide_eq_false h1
      have h2b : decide (16 < d) = true := decide_eq_true (by omega)
      clear h h1
      go_enter Try.func30, Try.ntmps30
      go_wp2_with fail
      go_ret
      exact ⟨none, 0, rfl, Nat.le_refl _, Kd.C_nil _ _, rfl⟩
set_option maxHeartbeats 2000000 in
theorem ref_Vector.calls (g : Nat) (L : List (List Int)) (hL : Good L) (W : World) (ok : Nat → Prop) (hP : (RSet g L).P ok W) :
    Calls Try.prog 31 #[.pointer (some ⟨g, 0, none⟩)] W fun e W' => ∃ v : Value, e = .returned v ∧ Kd.V (Kd.int .i64) 3 W' W.heap.size (fun k => W.heap.size ≤ k) v (vectorS L) ∧ Below W.heap.size W W' := by
  have HPP := Aside0.mk hP
  have HL := Aside0.mk hL
  clear hP hL
  go_enter Try.func31, Try.ntmps31
  go_wp2_with fail
  go_loopw [3, 4] (fun s3 s4 wr => ∃ i : Nat, i ≤ 16 ∧ s4 = .int .i64 ((i : Int) + 1) ∧ Aside0 ((Kd.int .i64).R 3 wr 0 (fun k => W.heap.size ≤ k) s3 ((lensS L).take i)) ∧ Aside0 (Below W.heap.size W wr)) (fun _ s4 _ => (17 - intOf s4).toNat)
  case atStart => exact ⟨0, by omega, rfl, ⟨Kd.R_nil _ _ _ _ _⟩, ⟨Below.refl _ _⟩⟩
  case round =>
    obtain ⟨i, hi, rfl, HR, HB⟩ := hrel
    by_cases hlt : i < 16
    · obtain ⟨B, c, hcg, _, hc16, _, _, hRR⟩ := rset_open ((RSet g L).on HPP.out HB.out) HL.out
      obtain ⟨A, c', hcB, hcap, hC⟩ := rset_row hRR HL.out i hlt
      have hsnoc := lensS_take HL.out hlt
      rw [rowS_nat] at hsnoc
      obtain ⟨r, hr⟩ : ∃ r, L.getD i [] = r := ⟨_, rfl⟩
      rw [hr] at hcB hsnoc
      have HSN := Aside0.mk hsnoc
      have h0 : (0 : Int) ≤ (i : Int) := by omega
      have h16 : (i : Int) < 16 := by omega
      clear hcap hC hr hsnoc hRR
      go_wp2_with (at_builtin; refine app_int (k := .i64) rfl (.tmp 9) (.tmp 19) 30 3 8 rfl Try.underlying30 hinfo3 (by decide) u3 ((lensS L).take i) [(r.length : Int)] (some ⟨wr.heap.size, 0, none⟩) 1 1 (fun k => W.heap.size ≤ k) rfl rfl ?cO ?cR ?cL ?_)
      case cO => exact Kd.R_alloc HR.out _
      case cR => exact lit_C (k := .i64) wr 3 [(r.length : Int)] _ rfl (by simp)
      case cL => rw [List.length_take]; omega
      intro v1 w1 hR hg
      rw [← HSN.out] at hR
      have HR1 := Aside0.mk hR
      have HB1 := Aside0.mk (pw_below_grown (below_alloc HB.out (.cells #[.int .i64 (r.length : Int)] 3)) _ (by have := HB.out.size; simp; omega) hg (fun k hk => HR.out.1 k hk))
      have HSZ := Aside0.mk HB.out.size
      clear hR hg HR HB HSN
      go_wp2_with fail
      go_roundw
      case rel => exact ⟨i + 1, by omega, by simp, ⟨Kd.R_mono HR1.out (fun k hk => by have := HSZ.out; omega)⟩, HB1⟩
      case measure => simp [intOf]; omega
    · have e16 : i = 16 := by omega
      subst e16
      have e2 : (lensS L).take 16 = lensS L := List.take_of_length_le (by rw [lensS_length, HL.out.1]; exact Nat.le_refl _)
      rw [e2] at HR
      obtain ⟨A, c, hu⟩ := Kd.R_slice HR.out
      subst hu
      have HR1 := Aside0.mk (Kd.R_reads' HR.out)
      clear HR e2 hi
      go_wp2_with fail
      refine (liveryref10_Bare.calls 100 A c (lensS L) _ _ HR1.out.2.2 HR1.out.2.1 (ref_Bare 100 (lensS L) (by decide))).mono ?_
      rintro e w' ⟨v, rfl, hV, hB⟩
      have HV := Aside0.mk (Kd.V_lower (base' := W.heap.size) (Kd.V_mono hV (ok' := fun k => W.heap.size ≤ k) (fun k hk => Nat.le_trans HB.out.size hk)) HB.out.size)
      have HB2 := Aside0.mk (below_step HB.out hB)
      clear hV hB HB HR1
      go_wp2_with fail
      go_ret
      exact ⟨_, rfl, HV.out, HB2.out⟩
end Go.Proofs.Ytadkafhhkidecaa.P
