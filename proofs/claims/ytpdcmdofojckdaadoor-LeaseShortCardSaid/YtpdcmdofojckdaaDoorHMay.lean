/- Contract, typed by hand: which texts are names. -/
import Derived.Test.YtpdcmdofojckdaaDoorHNames
import Derived.Laws.RangeAny
namespace Go.Proofs.YtpdcmdofojckdaaDoor.P
open Go.RowKit Go.Proofs.YtpdcmdofojckdaaDoorW.PrintWords Go.Proofs.YtpdcmdofojckdaaDoorW.PrintLast Go.Proofs.YtpdcmdofojckdaaDoorW.PrintMore
set_option linter.unusedVariables false
set_option linter.unusedSimpArgs false
/-- A letter, or a digit that is not the first. -/
def okAt (c : Int) (i : Nat) : Bool := decide ((97 ≤ c ∧ c ≤ 122) ∨ (48 ≤ c ∧ c ≤ 57 ∧ i ≠ 0))
def mayB (s : ByteArray) : Bool := (List.range s.size).all (fun i => okAt (bt s i) i) && decide (s.size ≠ 0) && decide (s.size ≤ 8)
def names_May.f (a0 : ByteArray) : Option Bool := some (mayB a0)
theorem mayB_no {s : ByteArray} {i : Nat} (hi : i < s.size) (h : okAt (bt s i) i = false) : mayB s = false := by
  unfold mayB
  have : (List.range s.size).all (fun i => okAt (bt s i) i) = false := by
    rw [List.all_eq_false]
    exact ⟨i, List.mem_range.2 hi, by simp [h]⟩
  rw [this]; rfl
theorem below_iter (w : World) (s : ByteArray) (p : Nat) : Below w.heap.size w (w.iter s p) := below_alloc (Below.refl _ _) _
set_option maxHeartbeats 1000000 in
theorem names_May.calls (a0 : ByteArray) (r : Bool) (w : World) (h : names_May.f a0 = some r) :
    Calls Tryd.prog 49 #[.string a0] w fun e w' => e = .returned (.bool r) ∧ Below w.heap.size w w' := by
  cases h
  go_enter Tryd.func49, Tryd.ntmps49
  go_wp2_with fail
  go_loopw [] (fun wr => ∃ pos : Nat, pos ≤ a0.size ∧ wr = w.iter a0 pos ∧ Aside0 (∀ i, i < pos → okAt (bt a0 i) i = true)) (fun wr => a0.size - wr.iterPos w.heap.size)
  case atStart => exact ⟨0, Nat.zero_le _, rfl, ⟨fun i hi => absurd hi (by omega)⟩⟩
  case round =>
    obtain ⟨pos, hp, rfl, hok⟩ := hrel
    by_cases hlt : pos < a0.size
    · by_cases ha : (a0[pos]'hlt).toNat < 128
      · have hnx := fun ty => run_next_ascii (P := Tryd.prog) w a0 pos ty hlt ha
        have hb : ((a0[pos]'hlt).toNat : Int) = bt a0 pos := by unfold bt; rw [dif_pos (by simpa using hlt)]; simp
        generalize (a0[pos]'hlt).toNat = c at hnx hb ha
        have hb_ := Aside0.mk hb
        clear hb
        have hb := hb_
        clear hb_
        -- CASES
        by_cases k0 : c < 48
        · skip
          have f0 := decide_eq_false (show ¬ ((97 : Int) ≤ (c : Int)) by omega)
          have f1 := decide_eq_false (show ¬ (97 ≤ c) by omega)
          have f2 := decide_eq_true (show ((c : Int) ≤ 122) by omega)
          have f3 := decide_eq_true (show (c ≤ 122) by omega)
          have f4 := decide_eq_false (show ¬ ((48 : Int) ≤ (c : Int)) by omega)
          have f5 := decide_eq_false (show ¬ (48 ≤ c) by omega)
          have f6 := decide_eq_true (show ((c : Int) ≤ 57) by omega)
          have f7 := decide_eq_true (show (c ≤ 57) by omega)
          go_wp2_with fail
          go_ret
          exact ⟨by rw [mayB_no hlt (show okAt (bt a0 pos) pos = false by rw [← hb.out]; unfold okAt; exact decide_eq_false (by omega))]; rfl, below_iter w a0 _⟩
        by_cases k1 : c < 58
        · skip
          by_cases kp : pos = 0
          · subst kp
            have f0 := decide_eq_false (show ¬ ((97 : Int) ≤ (c : Int)) by omega)
            have f1 := decide_eq_false (show ¬ (97 ≤ c) by omega)
            have f2 := decide_eq_true (show ((c : Int) ≤ 122) by omega)
            have f3 := decide_eq_true (show (c ≤ 122) by omega)
            have f4 := decide_eq_true (show ((48 : Int) ≤ (c : Int)) by omega)
            have f5 := decide_eq_true (show (48 ≤ c) by omega)
            have f6 := decide_eq_true (show ((c : Int) ≤ 57) by omega)
            have f7 := decide_eq_true (show (c ≤ 57) by omega)
            go_wp2_with fail
            go_ret
            exact ⟨by rw [mayB_no hlt (show okAt (bt a0 (0 : Nat)) 0 = false by rw [← hb.out]; unfold okAt; exact decide_eq_false (by omega))]; rfl, below_iter w a0 _⟩
          · have kp1 := decide_eq_false kp
            have kp2 := decide_eq_false (show ¬ ((pos : Int) = 0) by omega)
            have kp3 := beq_eq_false_iff_ne.2 (show ¬ ((pos : Int) = 0) by omega)
            have f0 := decide_eq_false (show ¬ ((97 : Int) ≤ (c : Int)) by omega)
            have f1 := decide_eq_false (show ¬ (97 ≤ c) by omega)
            have f2 := decide_eq_true (show ((c : Int) ≤ 122) by omega)
            have f3 := decide_eq_true (show (c ≤ 122) by omega)
            have f4 := decide_eq_true (show ((48 : Int) ≤ (c : Int)) by omega)
            have f5 := decide_eq_true (show (48 ≤ c) by omega)
            have f6 := decide_eq_true (show ((c : Int) ≤ 57) by omega)
            have f7 := decide_eq_true (show (c ≤ 57) by omega)
            go_wp2_with fail
            exact ⟨⟨pos + 1, by omega, rfl, ⟨fun i hi => (show i < pos ∨ i = pos by omega).elim (hok.out i) (fun e => by subst e; rw [← hb.out]; unfold okAt; exact decide_eq_true (by omega))⟩⟩, by simp only [World.iterPos_iter]; omega⟩
        by_cases k2 : c < 97
        · skip
          have f0 := decide_eq_false (show ¬ ((97 : Int) ≤ (c : Int)) by omega)
          have f1 := decide_eq_false (show ¬ (97 ≤ c) by omega)
          have f2 := decide_eq_true (show ((c : Int) ≤ 122) by omega)
          have f3 := decide_eq_true (show (c ≤ 122) by omega)
          have f4 := decide_eq_true (show ((48 : Int) ≤ (c : Int)) by omega)
          have f5 := decide_eq_true (show (48 ≤ c) by omega)
          have f6 := decide_eq_false (show ¬ ((c : Int) ≤ 57) by omega)
          have f7 := decide_eq_false (show ¬ (c ≤ 57) by omega)
          go_wp2_with fail
          go_ret
          exact ⟨by rw [mayB_no hlt (show okAt (bt a0 pos) pos = false by rw [← hb.out]; unfold okAt; exact decide_eq_false (by omega))]; rfl, below_iter w a0 _⟩
        by_cases k3 : c < 123
        · skip
          have f0 := decide_eq_true (show ((97 : Int) ≤ (c : Int)) by omega)
          have f1 := decide_eq_true (show (97 ≤ c) by omega)
          have f2 := decide_eq_true (show ((c : Int) ≤ 122) by omega)
          have f3 := decide_eq_true (show (c ≤ 122) by omega)
          have f4 := decide_eq_true (show ((48 : Int) ≤ (c : Int)) by omega)
          have f5 := decide_eq_true (show (48 ≤ c) by omega)
          have f6 := decide_eq_false (show ¬ ((c : Int) ≤ 57) by omega)
          have f7 := decide_eq_false (show ¬ (c ≤ 57) by omega)
          go_wp2_with fail
          exact ⟨⟨pos + 1, by omega, rfl, ⟨fun i hi => (show i < pos ∨ i = pos by omega).elim (hok.out i) (fun e => by subst e; rw [← hb.out]; unfold okAt; exact decide_eq_true (by omega))⟩⟩, by simp only [World.iterPos_iter]; omega⟩
        have f0 := decide_eq_true (show ((97 : Int) ≤ (c : Int)) by omega)
        have f1 := decide_eq_true (show (97 ≤ c) by omega)
        have f2 := decide_eq_false (show ¬ ((c : Int) ≤ 122) by omega)
        have f3 := decide_eq_false (show ¬ (c ≤ 122) by omega)
        have f4 := decide_eq_true (show ((48 : Int) ≤ (c : Int)) by omega)
        have f5 := decide_eq_true (show (48 ≤ c) by omega)
        have f6 := decide_eq_false (show ¬ ((c : Int) ≤ 57) by omega)
        have f7 := decide_eq_false (show ¬ (c ≤ 57) by omega)
        go_wp2_with fail
        go_ret
        exact ⟨by rw [mayB_no hlt (show okAt (bt a0 pos) pos = false by rw [← hb.out]; unfold okAt; exact decide_eq_false (by omega))]; rfl, below_iter w a0 _⟩
      · have hnx := fun ty => run_next_any (P := Tryd.prog) w a0 pos ty hlt
        have hd := decode_high a0 pos hlt (by omega)
        have hb : ((a0[pos]'hlt).toNat : Int) = bt a0 pos := by unfold bt; rw [dif_pos (by simpa using hlt)]; simp
        have hb2 : 128 ≤ bt a0 pos := by omega
        generalize (Utf8.decode a0 pos).1 = c at hnx hd
        generalize (Utf8.decode a0 pos).2 = m at hnx hd
        obtain ⟨hd1, hd2⟩ := hd
        have f0 := decide_eq_true (show ((97 : Int) ≤ (c : Int)) by omega)
        have f1 := decide_eq_true (show (97 ≤ c) by omega)
        have f2 := decide_eq_false (show ¬ ((c : Int) ≤ 122) by omega)
        have f3 := decide_eq_false (show ¬ (c ≤ 122) by omega)
        have f4 := decide_eq_true (show ((48 : Int) ≤ (c : Int)) by omega)
        have f5 := decide_eq_true (show (48 ≤ c) by omega)
        have f6 := decide_eq_false (show ¬ ((c : Int) ≤ 57) by omega)
        have f7 := decide_eq_false (show ¬ (c ≤ 57) by omega)
        go_wp2_with fail
        go_ret
        exact ⟨by rw [mayB_no hlt (show okAt (bt a0 pos) pos = false by unfold okAt; exact decide_eq_false (by omega))]; rfl, below_iter w a0 _⟩
    · have hnx := fun ty => run_next_end (P := Tryd.prog) w a0 pos ty hlt
      obtain rfl : pos = a0.size := by omega
      have hall : (List.range a0.size).all (fun i => okAt (bt a0 i) i) = true := List.all_eq_true.2 fun i hi => hok.out i (List.mem_range.1 hi)
      have hE : a0.toList.isEmpty = decide (a0.size = 0) := by rw [ByteArray.toList_eq]; cases a0 with | mk d => simp [ByteArray.size, Array.isEmpty, List.isEmpty_iff]
      obtain ⟨b, hb⟩ : ∃ b, b = decide (a0.size = 0) := ⟨_, rfl⟩
      have hm : mayB a0 = (!b && decide (a0.size ≤ 8)) := by unfold mayB; rw [hall, hb]; simp
      rw [← hb] at hE
      have HM := Aside0.mk hm
      clear hall hb hm hlt
      cases b
      · by_cases h8 : a0.size ≤ 8
        · have e1 := decide_eq_true (show (a0.size : Int) ≤ 8 by omega)
          have e2 := decide_eq_true h8
          have hm := HM.out
          rw [e2] at hm
          have HN := Aside0.mk hm
          clear hm HM
          go_wp2_with fail
          go_ret
          exact ⟨by rw [HN.out]; rfl, below_iter w a0 _⟩
        · have e1 := decide_eq_false (show ¬ (a0.size : Int) ≤ 8 by omega)
          have e2 := decide_eq_false h8
          have hm := HM.out
          rw [e2] at hm
          have HN := Aside0.mk hm
          clear hm HM
          go_wp2_with fail
          go_ret
          exact ⟨by rw [HN.out]; rfl, below_iter w a0 _⟩
      · by_cases h8 : a0.size ≤ 8
        · have e1 := decide_eq_true (show (a0.size : Int) ≤ 8 by omega)
          have e2 := decide_eq_true h8
          have hm := HM.out
          rw [e2] at hm
          have HN := Aside0.mk hm
          clear hm HM
          go_wp2_with fail
          go_ret
          exact ⟨by rw [HN.out]; rfl, below_iter w a0 _⟩
        · have e1 := decide_eq_false (show ¬ (a0.size : Int) ≤ 8 by omega)
          have e2 := decide_eq_false h8
          have hm := HM.out
          rw [e2] at hm
          have HN := Aside0.mk hm
          clear hm HM
          go_wp2_with fail
          go_ret
          exact ⟨by rw [HN.out]; rfl, below_iter w a0 _⟩
end Go.Proofs.YtpdcmdofojckdaaDoor.P
