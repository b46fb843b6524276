/- Contracts, typed by hand: may a row be: the program's, by a map, and the document's. -/
import Derived.Test.YtadkafhhkidecaaHMap
import Derived.Test.YtadkafhhkidecaaHSetP
import Derived.Test.YtadkafhhkidecaaP3
import Derived.Test.YtadkafhhkidecaaP2
set_option linter.unusedVariables false
set_option linter.unusedSimpArgs false
namespace Go.Proofs.Ytadkafhhkidecaa.P
open Go.RowKit Go.Proofs.YtadkafhhkidecaaW.PrintWords Go.Proofs.YtadkafhhkidecaaW.PrintLast Go.Proofs.YtadkafhhkidecaaW.PrintMore
/-- The first i of a row may be. -/
def mayTo (l : List Int) (i : Nat) : Prop := (∀ x ∈ l.take i, 1 ≤ x ∧ x ≤ 4000) ∧ (l.take i).Nodup
theorem mayTo_zero (l : List Int) : mayTo l 0 := by simp [mayTo]
theorem mayTo_succ {l : List Int} {i : Nat} (h : mayTo l i) (hi : i < l.length) (h1 : 1 ≤ l[i]) (h2 : l[i] ≤ 4000) (h3 : l[i] ∉ l.take i) : mayTo l (i + 1) := by
  unfold mayTo
  rw [List.take_succ_eq_append_getElem hi]
  refine ⟨fun x hx => ?_, List.nodup_append.2 ⟨h.2, by simp, fun a ha b hb => ?_⟩⟩
  · rcases List.mem_append.1 hx with hx | hx
    · exact h.1 x hx
    · rw [List.mem_singleton.1 hx]; exact ⟨h1, h2⟩
  · rw [List.mem_singleton.1 hb]
    intro e
    exact h3 (e ▸ ha)
theorem mayTo_not {l : List Int} {i : Nat} (hi : i < l.length) (h : ¬ (1 ≤ l[i] ∧ l[i] ≤ 4000 ∧ l[i] ∉ l.take i)) : mayS l = false := by
  unfold mayS
  refine decide_eq_false fun hh => h ⟨(hh.2.1 _ (List.getElem_mem hi)).1, (hh.2.1 _ (List.getElem_mem hi)).2, fun hm => ?_⟩
  have h2 := hh.2.2
  rw [← List.take_append_drop (i + 1) l, List.take_succ_eq_append_getElem hi] at h2
  exact (List.nodup_append.1 (List.nodup_append.1 h2).1).2.2 _ hm _ (List.mem_singleton.2 rfl) rfl
theorem mayTo_all {l : List Int} (h : mayTo l l.length) : mayS l = decide (l.length ≤ 32) := by
  unfold mayTo at h
  rw [List.take_length] at h
  unfold mayS
  exact decide_eq_decide.2 ⟨fun hh => hh.1, fun hh => ⟨hh, h⟩⟩
/-- What the map has. -/
def HadM (m : List (Int × Value)) (l : List Int) : Prop := ∀ a, getM m a = if a ∈ l then some (.bool true) else none
theorem HadM.put {m : List (Int × Value)} {l : List Int} (h : HadM m l) (x : Int) : HadM (putM m x (.bool true)) (l ++ [x]) := fun a => by
  rw [getM_put, h a]
  by_cases e : a = x
  · rw [if_pos e, if_pos (by simp [e])]
  · rw [if_neg e]
    by_cases hm : a ∈ l
    · rw [if_pos hm, if_pos (by simp [hm])]
    · rw [if_neg hm, if_neg (by simp [hm, e])]
theorem zeroBool : ∀ w, (zeroValue 4).run Try.prog w = .ok (.bool false) w := fun _ => by kernel_rfl
set_option maxHeartbeats 2000000 in
theorem revset_may.calls (A : Option Addr) (c : Nat) (l : List Int) (W : World) (hC : Kd.C (Kd.int .i64) W A l.length l) (hc : l.length ≤ c) (hl : l.length ≤ 1000000) :
    Calls Try.prog 44 #[.slice A l.length c] W fun e W' => e = .returned (.bool (mayS l)) ∧ Below W.heap.size W W' := by
  have HC := Aside0.mk hC
  clear hC
  have hmm := @run_makeMap Try.prog
  go_enter Try.func44, Try.ntmps44
  go_wp2_with fail
  clear hmm
  go_loopw [9] (fun s9 wr => ∃ i : Nat, i ≤ l.length ∧ s9 = .int .i64 (i : Int) ∧ Aside0 (mayTo l i) ∧ Aside0 (∃ m, MapI .i64 wr W.heap.size m ∧ HadM m (l.take i)) ∧ Aside0 (Below W.heap.size W wr)) (fun s9 _ => (l.length - (intOf s9).toNat))
  case atStart => exact ⟨0, by omega, rfl, ⟨mayTo_zero l⟩, ⟨[], MapI.made .i64 W, by intro a; simp [getM_nil]⟩, ⟨below_alloc (Below.refl _ _) _⟩⟩
  case round =>
    obtain ⟨i, hi, rfl, HT, HM, HB⟩ := hrel
    by_cases hlt : i < l.length
    · obtain ⟨m, hm, hhad⟩ := HM.out
      clear HM
      have HM := Aside0.mk hm
      have HH := Aside0.mk hhad
      obtain ⟨ad, rfl, hx⟩ := Kd.at_int (Kd.C_below HC.out HB.out) (i : Int) (by omega) (by omega)
      have hrd : rd l (i : Int) = l[i] := rd_nat l i hlt
      rw [hrd, Int.toNat_natCast] at hx
      have hlk := run_lookup_int (P := Try.prog) (t := 67) (k := 3) (e := 4) Try.underlying67 Try.underlying3 hm (zeroBool wr) false l[i]
      rw [hhad l[i]] at hlk
      clear hm hhad hrd
      have HX := Aside0.mk (fun h => mayTo_not hlt h)
      have HSN := Aside0.mk (fun h1 h2 h3 => mayTo_succ HT.out hlt h1 h2 h3)
      have htk := List.take_succ_eq_append_getElem hlt
      obtain ⟨x, ex⟩ : ∃ x, l[i] = x := ⟨_, rfl⟩
      rw [ex] at hx hlk HX HSN htk
      have HTK := Aside0.mk htk
      clear ex htk
      by_cases h1 : x < 1
      · have h1b : decide (x < 1) = true := decide_eq_true h1
        have HR := Aside0.mk (HX.out (by omega))
        clear h1 hlk
        go_wp2_with fail
        go_ret
        exact ⟨by rw [HR.out]; rfl, HB.out⟩
      by_cases h2 : 4000 < x
      · have h1b : decide (x < 1) = false := decide_eq_false h1
        have h2b : decide (4000 < x) = true := decide_eq_true h2
        have HR := Aside0.mk (HX.out (by omega))
        clear h1 h2 hlk
        go_wp2_with fail
        go_ret
        exact ⟨by rw [HR.out]; rfl, HB.out⟩
      have h1b : decide (x < 1) = false := decide_eq_false h1
      have h2b : decide (4000 < x) = false := decide_eq_false h2
      by_cases h3 : x ∈ l.take i
      · rw [if_pos h3] at hlk
        have HR := Aside0.mk (HX.out (fun hh => hh.2.2 h3))
        replace hlk : (Instr.lookup 67 (.map (some W.heap.size)) (.int .i64 x) false).run Try.prog wr = .ok (.bool true) wr := hlk
        clear h1 h2 h3
        go_wp2_with fail
        go_ret
        exact ⟨by rw [HR.out]; rfl, HB.out⟩
      · rw [if_neg h3] at hlk
        have HT1 := Aside0.mk (HSN.out (by omega) (by omega) h3)
        replace hlk : (Instr.lookup 67 (.map (some W.heap.size)) (.int .i64 x) false).run Try.prog wr = .ok (.bool false) wr := hlk
        clear h1 h2 h3 HX HSN
        go_wp2_with (at_mapUpdate; refine wp_update_int (q := .i64) (m := m) rfl 67 (.tmp 24) (.tmp 25) (.const (.bool true)) rfl Try.underlying67 Try.underlying3 x (.bool true) rfl rfl rfl HM.out ?_)
        intro w1 hm1 hg1
        have HM1 := Aside0.mk hm1
        have HB1 := Aside0.mk (pw_below_grown HB.out (some W.heap.size) HB.out.size hg1 (fun k hk => by cases hk; exact Nat.le_refl _))
        clear hm1 hg1 HB hlk
        go_wp2_with fail
        go_roundw
        case rel => exact ⟨i + 1, by omega, by simp, HT1, ⟨_, HM1.out, by rw [HTK.out]; exact HH.out.put x⟩, HB1⟩
        case measure => simp [intOf]; omega
    · have e : i = l.length := by omega
      subst e
      have HE := Aside0.mk (mayTo_all HT.out)
      obtain ⟨b, hb⟩ : ∃ b, decide (l.length ≤ 32) = b := ⟨_, rfl⟩
      rw [hb] at HE
      have hb2 : decide ((l.length : Int) ≤ 32) = b := by rw [← hb]; exact decide_eq_decide.2 (by omega)
      clear HM HT hi hlt
      go_wp2_with fail
      go_ret
      exact ⟨by rw [HE.out]; rfl, HB.out⟩
end Go.Proofs.Ytadkafhhkidecaa.P
