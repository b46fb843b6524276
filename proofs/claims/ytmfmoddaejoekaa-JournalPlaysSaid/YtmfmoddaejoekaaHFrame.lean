/- Texts of this claim, laid into one. -/
import Derived.Test.YtmfmoddaejoekaaP15
import Derived.Test.YtmfmoddaejoekaaHTapeJ
import Derived.WalkMore
import Derived.ScopeJumps
import Derived.Scope
section
/- Written by a program of this session's, for this claim: the functions that the law reaches, their contracts, the law's row. Not trusted: it is checked as any text. -/
namespace Go.Proofs.Ytmfmoddaejoekaa.P
open Go.RowKit Go.Proofs.YtmfmoddaejoekaaW.PrintWords Go.Proofs.YtmfmoddaejoekaaW.PrintLast Go.Proofs.YtmfmoddaejoekaaW.PrintMore
attribute [local go_sem] max2_int min2_int max_two min_two max_three min_three max_four min_four   -- for this text's walks alone
set_option linter.unusedVariables false
set_option linter.unusedSimpArgs false

-- NOT PRINTED: function 8 (tape_New)

-- NOT PRINTED: function 47 (tape_Tape_ready)

-- NOT PRINTED: function 42 (slices_Clone_byte_byte)

-- NOT PRINTED: function 49 (tape_copied)

-- NOT PRINTED: function 20 (tape_Tape_Sync)

-- NOT PRINTED: function 33 (tape_Tape_Read)

/-! ### slices_Equal_byte_byte: function 63 -/
def slices_Equal_byte_byte.l0 : Nat → List Int → List Int → Int → Int → Option (Bool)
 | 0, _, _, _, _ => none
 | k + 1, x0, x1, x12, x13 => if x13 < x12 then (if 0 ≤ x13 then (if x13 < (x0.length : Int) then (if x13 < (x1.length : Int) then (if (rd x0 x13) = (rd x1 x13) then (slices_Equal_byte_byte.l0 k x0 x1 x12 (wrap64 (x13 + 1))) else (some false)) else (none)) else (none)) else (none)) else (some true)
def slices_Equal_byte_byte.f (k : Nat) (l0 : List Int) (l1 : List Int) : Option (Bool) := if (l0.length : Int) = (l1.length : Int) then (slices_Equal_byte_byte.l0 k l0 l1 (l0.length : Int) 0) else (some false)
set_option maxHeartbeats 8000000 in
set_option maxRecDepth 100000 in
theorem slices_Equal_byte_byte.calls (k : Nat) (A0 : Option Addr) (c0 : Nat) (l0 : List Int) (A1 : Option Addr) (c1 : Nat) (l1 : List Int) (r : Bool) (w : World) (hr0 : Kd.C (Kd.int .u8) w A0 l0.length l0) (hc0 : l0.length ≤ c0) (hr1 : Kd.C (Kd.int .u8) w A1 l1.length l1) (hc1 : l1.length ≤ c1) (h : slices_Equal_byte_byte.f k l0 l1 = some r) :
  Calls Try.prog 63 #[.slice A0 l0.length c0, .slice A1 l1.length c1] w fun e w' => e = .returned (.bool r) ∧ Drawn0 w w' := by
 have HR0 := Aside0.mk hr0
 have HC0 := Aside0.mk hc0
 clear hr0 hc0
 have HR1 := Aside0.mk hr1
 have HC1 := Aside0.mk hc1
 clear hr1 hc1
 have H : (if (l0.length : Int) = (l1.length : Int) then (slices_Equal_byte_byte.l0 k l0 l1 (l0.length : Int) 0) else (some false)) = some r := h
 clear h
 by_cases c3 : (l0.length : Int) = (l1.length : Int)
 ·rw [if_pos c3] at H
  have c3b0 : ((l0.length : Int) == (l1.length : Int)) = true := beq_iff_eq.mpr c3
  have c3b1 : ((l0.length : Int) != (l1.length : Int)) = false := bne_eq_false_iff_eq.mpr c3
  have c3b2 : (l0.length == l1.length) = true := by first | simpa using c3 | (simp at c3 ⊢; omega)
  clear c3
  have H' := Aside0.mk H
  clear H
  go_enter Try.func63, Try.ntmps63
  go_wp2
  repeat (go_quiet (fail); try go_wp2)
  go_loopg [13] k (fun kq v13 w' => ∃ (x13_1 : Int), v13 = .int .i64 x13_1 ∧ Aside0 (slices_Equal_byte_byte.l0 kq l0 l1 (l0.length : Int) x13_1 = some r) ∧ Aside0 (kq ≤ k) ∧ Drawn0 w w')
  case atStart => exact ⟨(0), (by first | rfl | (simp; done) | (simp [*]; done)), H', ⟨Nat.le_refl _⟩, by repeat (first | exact Drawn0.refl _ | apply Drawn0.step)⟩
  case round =>
   clear H'
   try clear c1
   try clear p2
   try clear c3
   try clear c3b0
   try clear c3b1
   try clear c3b2
   obtain ⟨x13_1, rfl, HA, HK1, ⟨m1, rfl⟩⟩ := hrel
   cases gk with
   | zero => exact absurd HA.out (by simp [slices_Equal_byte_byte.l0])
   | succ k1 =>
    have H := HA.out
    clear HA
    simp only [slices_Equal_byte_byte.l0] at H
    by_cases c4 : x13_1 < (l0.length : Int)
    ·rw [if_pos c4] at H
     have c4b0 : decide (x13_1 < (l0.length : Int)) = true := decide_eq_true c4
     clear c4
     by_cases c5 : 0 ≤ x13_1
     ·rw [if_pos c5] at H
      have c5b0 : decide (0 ≤ x13_1) = true := decide_eq_true c5
      clear c5
      by_cases c6 : x13_1 < (l0.length : Int)
      ·rw [if_pos c6] at H
       have c6b0 : decide (x13_1 < (l0.length : Int)) = true := decide_eq_true c6
       clear c6
       by_cases c7 : x13_1 < (l1.length : Int)
       ·rw [if_pos c7] at H
        have c7b0 : decide (x13_1 < (l1.length : Int)) = true := decide_eq_true c7
        clear c7
        by_cases c8 : (rd l0 x13_1) = (rd l1 x13_1)
        ·rw [if_pos c8] at H
         have c8b0 : ((rd l0 x13_1) == (rd l1 x13_1)) = true := beq_iff_eq.mpr c8
         have c8b1 : ((rd l0 x13_1) != (rd l1 x13_1)) = false := bne_eq_false_iff_eq.mpr c8
         clear c8
         have H' := Aside0.mk H
         clear H
         have p101 : 0 ≤ (x13_1 : Int) := of_decide_eq_true (by first | (with_reducible assumption) | assumption)
         have q101 : x13_1 < (l0.length : Int) := of_decide_eq_true (by first | (with_reducible assumption) | assumption)
         obtain ⟨ad101, e101, hx101_0⟩ := Kd.at_int HR0.out x13_1 p101 q101
         cases e101
         replace p101 := eq_true p101
         replace q101 := eq_true q101
         have p102 : 0 ≤ (x13_1 : Int) := of_decide_eq_true (by first | (with_reducible assumption) | assumption)
         have q102 : x13_1 < (l1.length : Int) := of_decide_eq_true (by first | (with_reducible assumption) | assumption)
         obtain ⟨ad102, e102, hx102_0⟩ := Kd.at_int HR1.out x13_1 p102 q102
         cases e102
         replace p102 := eq_true p102
         replace q102 := eq_true q102
         go_wp2
         repeat (go_quiet (fail); try go_wp2)
         go_roundg k1
         case measure => have := HK1.out; omega
         case rel => exact ⟨(wrap64 (x13_1 + 1)), (by first | rfl | (simp; done) | (simp [*]; done)), H', ⟨by have := HK1.out; omega⟩, by repeat (first | exact Drawn0.refl _ | apply Drawn0.step)⟩
        ·rw [if_neg c8] at H
         have c8b0 : ((rd l0 x13_1) == (rd l1 x13_1)) = false := beq_eq_false_iff_ne.mpr c8
         have c8b1 : ((rd l0 x13_1) != (rd l1 x13_1)) = true := bne_iff_ne.mpr c8
         obtain rfl := Option.some.inj H
         have p101 : 0 ≤ (x13_1 : Int) := of_decide_eq_true (by first | (with_reducible assumption) | assumption)
         have q101 : x13_1 < (l0.length : Int) := of_decide_eq_true (by first | (with_reducible assumption) | assumption)
         obtain ⟨ad101, e101, hx101_0⟩ := Kd.at_int HR0.out x13_1 p101 q101
         cases e101
         replace p101 := eq_true p101
         replace q101 := eq_true q101
         have p102 : 0 ≤ (x13_1 : Int) := of_decide_eq_true (by first | (with_reducible assumption) | assumption)
         have q102 : x13_1 < (l1.length : Int) := of_decide_eq_true (by first | (with_reducible assumption) | assumption)
         obtain ⟨ad102, e102, hx102_0⟩ := Kd.at_int HR1.out x13_1 p102 q102
         cases e102
         replace p102 := eq_true p102
         replace q102 := eq_true q102
         go_wp2
         repeat (go_quiet (fail); try go_wp2)
         go_ret
         exact ⟨by first | rfl | (simp; done) | (simp [*]; done), by repeat (first | exact Drawn0.refl _ | apply Drawn0.step)⟩
       ·rw [if_neg c7] at H
        exact absurd H (by simp)
      ·rw [if_neg c6] at H
       exact absurd H (by simp)
     ·rw [if_neg c5] at H
      exact absurd H (by simp)
    ·rw [if_neg c4] at H
     have c4b0 : decide (x13_1 < (l0.length : Int)) = false := decide_eq_false c4
     clear c4
     obtain rfl := Option.some.inj H
     go_wp2
     repeat (go_quiet (fail); try go_wp2)
     go_ret
     exact ⟨by first | rfl | (simp; done) | (simp [*]; done), by repeat (first | exact Drawn0.refl _ | apply Drawn0.step)⟩
 ·rw [if_neg c3] at H
  have c3b0 : ((l0.length : Int) == (l1.length : Int)) = false := beq_eq_false_iff_ne.mpr c3
  have c3b1 : ((l0.length : Int) != (l1.length : Int)) = true := bne_iff_ne.mpr c3
  have c3b2 : (l0.length == l1.length) = false := by first | simpa using c3 | (simp at c3 ⊢; omega)
  obtain rfl := Option.some.inj H
  go_enter Try.func63, Try.ntmps63
  go_wp2
  repeat (go_quiet (fail); try go_wp2)
  go_ret
  exact ⟨by first | rfl | (simp; done) | (simp [*]; done), by repeat (first | exact Drawn0.refl _ | apply Drawn0.step)⟩

/-! ### sums_Put: function 64 -/
def sums_Put.f (a0 : Int) : Option (List Int) := some (([(a0 / 256) % 256, (a0) % 256] : List Int))
set_option maxHeartbeats 8000000 in
set_option maxRecDepth 100000 in
theorem sums_Put.calls (a0 : Int) (r : List Int) (w : World) (h : sums_Put.f a0 = some r) :
  Calls Try.prog 64 #[.int .i64 a0] w fun e w' => ∃ v0_ : Value, e = .returned (v0_) ∧ Kd.R (Kd.int .u8) 5 w' w.heap.size (fun _ => True) v0_ r ∧ Below w.heap.size w w' := by
 have HB := Aside0.mk (Below.refl w.heap.size w)
 have H : (some (([(a0 / 256) % 256, (a0) % 256] : List Int))) = some r := h
 clear h
 obtain ⟨y103, hy103⟩ : ∃ y_ : List Int, y_ = (([(a0 / 256) % 256, (a0) % 256] : List Int)) := ⟨_, rfl⟩
 replace H : (some y103) = some r := by first | (rw [hy103]; with_reducible exact H) | (have H2_ := (Option.bind_some _ _).symm.trans H; rw [hy103]; with_reducible exact H2_) | (have H2_ := (Option.bind_some _ _).symm.trans H; with_reducible exact H2_) | with_reducible exact H | (rw [hy103]; exact H) | exact H
 have Ny103 := Aside0.mk hy103
 clear hy103
 obtain rfl := Option.some.inj H
 go_enter Try.func64, Try.ntmps64
 go_wp2_with (first | ((with_reducible refine gate_dst (N := 8) rfl ?_); refine Kd.R_lit (Kd.int .u8) _ 5 ?hg (N := 8) ?hd (xs := ([(a0 / 256) % 256, (a0) % 256] : List Int)) (inner := [.int .u8 ((a0 / 256) % 256), .int .u8 ((a0) % 256)]) (ok := fun _ => True) (okp := fun _ => True) ?hr ?hp (fun _ hk => hk) trivial (Below.refl _ _) (Nat.le_refl _) (by simp) ?_; (case hd => rfl); (case hg => rfl); (case hr => first | (go_simp; done) | (go_simp; rfl)); (case hp => exact (Reps.one (show Kd.M (Kd.int .u8) _ _ _ ((a0 / 256) % 256) [.int .u8 ((a0 / 256) % 256)] from rfl) (Reps.one (show Kd.M (Kd.int .u8) _ _ _ ((a0) % 256) [.int .u8 ((a0) % 256)] from rfl) (Reps.none _ _)))); intro v104 w2 ho3 hb hg_ hnew_; clear hg_ hnew_; (first | rw [← Ny103.out] at ho3 | (simp only [Int.reduceToNat] at ho3; rw [← Ny103.out] at ho3)); have n0_ := aM (Kd.R_lower ho3 (below_size (by repeat (first | (with_reducible first | exact HB.out | apply below_alloc | apply pw_below_drewN | apply below_drew1) | exact HB.out)))); have n1_ := aM (below_step (by repeat (first | (with_reducible first | exact HB.out | apply below_alloc | apply pw_below_drewN | apply below_drew1) | exact HB.out)) hb); clear HB; have HO105 := n0_; have HB := n1_; clear n0_ n1_; clear hb ho3))
 go_ret
 exact ⟨_, by first | rfl | (simp [errW_none, errW_some] <;> rfl) | (simp [*, errW_none, errW_some] <;> rfl), by (with_reducible repeat (first | apply Kd.R_alloc | apply Kd.R_drewN | apply Kd.R_drew)); exact HO105.out, by repeat (first | (with_reducible first | exact HB.out | apply below_alloc | apply pw_below_drewN | apply below_drew1) | exact HB.out)⟩

-- NOT PRINTED: function 82 (sums_byteIn)

-- NOT PRINTED: function 75 (sums_More)

-- NOT PRINTED: function 65 (sums_Sum)

-- NOT PRINTED: function 76 (wire_New)

-- NOT PRINTED: function 83 (wire_number)

-- NOT PRINTED: function 84 (wire_Cursor_left)

end Go.Proofs.Ytmfmoddaejoekaa.P
end
section
/- Contracts, typed by hand: the check sum. -/
set_option linter.unusedVariables false
set_option linter.unusedSimpArgs false
namespace Go.Proofs.Ytmfmoddaejoekaa.P
open Go.RowKit Go.Proofs.YtmfmoddaejoekaaW.PrintWords Go.Proofs.YtmfmoddaejoekaaW.PrintLast Go.Proofs.YtmfmoddaejoekaaW.PrintMore
/-- A register behind one bit, behind some, behind a byte, behind bytes. -/
def bit16 (r : Int) : Int := if (Go.bits .and .u16 r 32768 != 0) = true then Go.bits .xor .u16 (IntKind.u16.wrap (r * 2)) 4129 else IntKind.u16.wrap (r * 2)
def bits16 : Nat → Int → Int
 | 0, r => r
 | n + 1, r => bits16 n (bit16 r)
def byte16 (r b : Int) : Int := bits16 8 (Go.bits .xor .u16 r (IntKind.u16.wrap (IntKind.u16.wrap b * 256)))
def sumR (r : Int) (l : List Int) : Int := l.foldl byte16 r
def sumM (l : List Int) : Int := wrap64 (sumR (IntKind.u16.wrap 65535) l)
set_option maxHeartbeats 4000000 in
set_option maxRecDepth 100000 in
theorem sums_byteIn.calls (r b : Int) (W : World) : Calls Try.prog 82 #[.int .u16 r, .int .u8 b] W fun e W' => e = .returned (.int .u16 (byte16 r b)) ∧ W = W' := by
 go_enter Try.func82, Try.ntmps82
 go_wp2_with fail
 refine wp_scope_jumps 0 (fun a' w' => w' = W ∧ ∃ (m : Nat) (acc : Int) (u6 u7 u8 u9 u10 u11 u12 u13 u14 u15 u16 u17 u18 u19 u20 u21 u22 u23 : Value), a' = { tmps := #[.int .u16 acc, .int .u8 b, undef, undef, .int .u16 0, .int .i64 (m : Int), u6, u7, u8, u9, u10, u11, u12, u13, u14, u15, u16, u17, u18, u19, u20, u21, u22, u23, undef], defers := [] } ∧ m ≤ 7 ∧ Aside0 (bits16 (8 - m) acc = byte16 r b)) (fun a' _ => (8 - (intOf (a'.tmps.getD 5 undef)).toNat)) rfl ?_ ?_
 ·go_wp2_with fail
  go_step3
  obtain ⟨x, ex⟩ : ∃ x, Go.bits .xor .u16 r (IntKind.u16.wrap (IntKind.u16.wrap b * 256)) = x := ⟨_, rfl⟩
  have HX := Aside0.mk (show bits16 7 (bit16 x) = byte16 r b by rw [← ex]; rfl)
  rw [ex]
  clear ex
  obtain ⟨h, eh⟩ : ∃ h, (Go.bits .and .u16 x 32768 != 0) = h := ⟨_, rfl⟩
  have HH := Aside0.mk eh
  cases h with
  | true =>
   go_wp2_with fail
   go_step3
   refine ⟨rfl, rfl, 1, _, _, _, _, _, _, _, _, _, _, _, _, _, _, _, _, _, _, _, rfl, by omega, ⟨?_⟩⟩
   rw [← HX.out]
   show bits16 7 _ = _
   rw [show bit16 x = _ from if_pos HH.out]
  | false =>
   go_wp2_with fail
   go_step3
   refine ⟨rfl, rfl, 1, _, _, _, _, _, _, _, _, _, _, _, _, _, _, _, _, _, _, _, rfl, by omega, ⟨?_⟩⟩
   rw [← HX.out]
   show bits16 7 _ = _
   rw [show bit16 x = _ from if_neg (by rw [HH.out]; decide)]
 ·rintro a' w' ⟨rfl, m, x, u6, u7, u8, u9, u10, u11, u12, u13, u14, u15, u16, u17, u18, u19, u20, u21, u22, u23, rfl, hm, HI⟩
  have w1 : wrap64 ((m : Int) + 1) = (m : Int) + 1 := by unfold wrap64; omega
  have HX := Aside0.mk (show bits16 (7 - m) (bit16 x) = byte16 r b by rw [← HI.out, show 8 - m = (7 - m) + 1 by omega]; rfl)
  obtain ⟨h, eh⟩ : ∃ h, (Go.bits .and .u16 x 32768 != 0) = h := ⟨_, rfl⟩
  have HH := Aside0.mk eh
  by_cases h7 : m = 7
  ·subst h7
   cases h with
   | true =>
    go_wp2_with fail
    simp only [Exit.jump]
    go_ret
    refine ⟨?_, rfl⟩
    rw [← HX.out, show bit16 x = _ from if_pos HH.out]
    rfl
   | false =>
    go_wp2_with fail
    simp only [Exit.jump]
    go_ret
    refine ⟨?_, rfl⟩
    rw [← HX.out, show bit16 x = _ from if_neg (by rw [HH.out]; decide)]
    rfl
  ·have b1 : decide ((m : Int) + 1 < 8) = true := decide_eq_true (by omega)
   cases h with
   | true =>
    go_wp2_with fail
    go_step3
    refine ⟨rfl, ⟨rfl, m + 1, _, _, _, _, _, _, _, _, _, _, _, _, _, _, _, _, _, _, _, rfl, by omega, ⟨?_⟩⟩, by simp [intOf]; omega⟩
    rw [← HX.out, show 8 - (m + 1) = 7 - m by omega]
    rw [show bit16 x = _ from if_pos HH.out]
   | false =>
    go_wp2_with fail
    go_step3
    refine ⟨rfl, ⟨rfl, m + 1, _, _, _, _, _, _, _, _, _, _, _, _, _, _, _, _, _, _, _, rfl, by omega, ⟨?_⟩⟩, by simp [intOf]; omega⟩
    rw [← HX.out, show 8 - (m + 1) = 7 - m by omega]
    rw [show bit16 x = _ from if_neg (by rw [HH.out]; decide)]
end Go.Proofs.Ytmfmoddaejoekaa.P
end
section
/- Contracts, typed by hand: the check sum of bytes; a record's frame. -/
set_option linter.unusedVariables false
set_option linter.unusedSimpArgs false
namespace Go.Proofs.Ytmfmoddaejoekaa.P
open Go.RowKit Go.Proofs.YtmfmoddaejoekaaW.PrintWords Go.Proofs.YtmfmoddaejoekaaW.PrintLast Go.Proofs.YtmfmoddaejoekaaW.PrintMore
theorem sumR_take (r : Int) (l : List Int) (j : Nat) (hj : j < l.length) : sumR r (l.take (j + 1)) = byte16 (sumR r (l.take j)) (rd l (j : Int)) := by
 unfold sumR
 rw [List.take_add_one, List.getElem?_eq_getElem hj, Option.toList_some, List.foldl_append]
 simp [rd, hj]
set_option maxHeartbeats 2000000 in
theorem sums_More.calls (a0 : Int) (A : Option Addr) (c : Nat) (l : List Int) (W : World) (hC : Kd.C (Kd.int .u8) W A l.length l) (hl : l.length ≤ 1000000) :
  Calls Try.prog 75 #[.int .i64 a0, .slice A l.length c] W fun e W' => e = .returned (.int .i64 (wrap64 (sumR (IntKind.u16.wrap a0) l))) ∧ W = W' := by
 have HC := Aside0.mk hC
 clear hC
 go_enter Try.func75, Try.ntmps75
 go_wp2_with fail
 go_loopw [5, 12] (fun s5 s12 wr => ∃ j : Nat, j ≤ l.length ∧ s5 = .int .u16 (sumR (IntKind.u16.wrap a0) (l.take j)) ∧ s12 = .int .i64 (j : Int) ∧ wr = W) (fun _ s12 _ => (l.length + 1 - (intOf s12).toNat))
 case atStart => exact ⟨0, Nat.zero_le _, rfl, rfl, rfl⟩
 case round =>
  obtain ⟨j, hj, rfl, rfl, rfl⟩ := hrel
  by_cases hjl : j < l.length
  ·have b1 : decide ((j : Int) < (l.length : Int)) = true := decide_eq_true (by omega)
   obtain ⟨ad, eA, hc0⟩ := Kd.at_int HC.out (j : Int) (by omega) (by omega)
   subst eA
   rw [Int.toNat_natCast] at hc0
   have HS := Aside0.mk (sumR_take (IntKind.u16.wrap a0) l j hjl)
   obtain ⟨r, er⟩ : ∃ r, sumR (IntKind.u16.wrap a0) (l.take j) = r := ⟨_, rfl⟩
   obtain ⟨b, eb⟩ : ∃ b, rd l (j : Int) = b := ⟨_, rfl⟩
   rw [er, eb] at HS
   rw [eb] at hc0
   rw [er]
   clear er eb
   go_wp2_with fail
   refine (sums_byteIn.calls r b _).mono ?_
   rintro e w1 ⟨rfl, rfl⟩
   go_wp2_with fail
   go_roundw
   case rel => exact ⟨j + 1, by omega, by rw [HS.out], by simp, trivial⟩
   case measure => simp [intOf]; omega
  ·obtain rfl : j = l.length := by omega
   rw [List.take_length]
   have b1 : decide ((l.length : Int) < (l.length : Int)) = false := decide_eq_false (by omega)
   clear hj hjl
   go_wp2_with fail
   go_ret
   exact ⟨rfl, rfl⟩
theorem sums_Sum.calls (A : Option Addr) (c : Nat) (l : List Int) (W : World) (hC : Kd.C (Kd.int .u8) W A l.length l) (hl : l.length ≤ 1000000) :
  Calls Try.prog 65 #[.slice A l.length c] W fun e W' => e = .returned (.int .i64 (sumM l)) ∧ W = W' := by
 have HC := Aside0.mk hC
 clear hC
 go_enter Try.func65, Try.ntmps65
 go_wp2_with fail
 refine (sums_More.calls 65535 A c l _ HC.out hl).mono ?_
 rintro e w1 ⟨rfl, rfl⟩
 go_wp2_with fail
 go_ret
 exact ⟨rfl, rfl⟩
/-- A record's frame. -/
def lenB (n : Nat) : List Int := [((n : Int) / 256) % 256, (n : Int) % 256]
def putM (s : Int) : List Int := [(s / 256) % 256, s % 256]
def frameM (r : List Int) : List Int := (lenB r.length ++ r) ++ putM (sumM (lenB r.length ++ r))
theorem frameM_len (r : List Int) : (frameM r).length = r.length + 4 := by simp [frameM, lenB, putM]
set_option maxHeartbeats 4000000 in
theorem journal_frame.calls (v : Value) (b0 : List Int) (A : Option Addr) (c : Nat) (r : List Int) (W : World) (ok : Nat → Prop) (hb : (Kd.int .u8).R 5 W 0 ok v b0) (hQ : ∀ W', Keeps W W' ok → Kd.C (Kd.int .u8) W' A r.length r) (hl : r.length ≤ 100000) (hl0 : b0.length ≤ 1000000) :
  Calls Try.prog 40 #[v, .slice A r.length c] W fun e W' => ∃ v1, e = .returned v1 ∧ Turned ok W W' (Res.row (Kd.int .u8) 5 v1 (b0 ++ frameM r)) := by
 have HB0 := Aside0.mk (Kd.R_bound hb)
 have HQ := Aside0.mk hQ
 obtain ⟨A0, c0, ev⟩ := Kd.R_slice hb
 subst ev
 clear hb hQ
 go_enter Try.func40, Try.ntmps40
 have HO := Aside0.mk (show (Kd.int .u8).R 5 (W.alloc (.cells #[.int .u8 ((r.length : Int) / 256 % 256), .int .u8 ((r.length : Int) % 256)] 5)) 0 (fun k => W.heap.size ≤ k) (.slice (some ⟨W.heap.size, 0, none⟩) 2 2) (lenB r.length) from R_of_own0 (own_lit W W.heap.size 5 .u8 (lenB r.length) (Nat.le_refl _) (by simp [lenB])))
 go_wp2_with (at_builtin; refine app_int (k := .u8) rfl (.tmp 13) (.tmp 14) 30 5 1 rfl Try.underlying30 hinfo5 (by decide) (.slice (some ⟨W.heap.size, 0, none⟩) 2 2) (lenB r.length) r A r.length c (fun k => W.heap.size ≤ k) rfl rfl HO.out ?c1 ?c2 ?_)
 case c1 => exact Kd.C_alloc (HQ.out W (Keeps.refl _ _)) _
 case c2 => simp only [lenB, List.length_cons, List.length_nil]; omega
 intro v1 w1 hR1 hg1
 obtain ⟨A1, c1, ev1⟩ := Kd.R_slice hR1
 subst ev1
 obtain ⟨f, ef⟩ : ∃ f, lenB r.length ++ r = f := ⟨_, rfl⟩
 have HFL := Aside0.mk (show f.length = r.length + 2 by rw [← ef]; simp [lenB])
 have HFM := Aside0.mk (show frameM r = f ++ putM (sumM f) by unfold frameM; rw [ef])
 have HB1 := Aside0.mk (show Below W.heap.size W w1 from (below_alloc (Below.refl _ _) _).grown hg1 (by simp) (by simp [Value.ownBlock]))
 rw [ef] at hR1 ⊢
 have HR1 := Aside0.mk (Kd.R_mono hR1 (ok' := fun k => W.heap.size ≤ k) (fun k hk => hk.elim id (fun h => by omega)))
 have HB01 := Aside0.mk (Kd.R_below HB0.out HB1.out)
 clear hR1 hg1 ef HO
 go_wp2_with (at_builtin; refine app_int (k := .u8) rfl (.tmp 16) (.tmp 17) 30 5 1 rfl Try.underlying30 hinfo5 (by decide) (.slice A0 b0.length c0) b0 f A1 f.length c1 (fun k => ok k ∧ k < W.heap.size) rfl rfl ?c0 ?c1 ?c2 ?_)
 case c0 => exact Kd.R_mono HB01.out (fun k hk => ⟨hk.1, hk.2.2.1⟩)
 case c1 => exact (Kd.R_reads' HR1.out).2.2
 case c2 => have := HFL.out; omega
 intro v2 w2 hR2 hg2
 obtain ⟨b1, eb1⟩ : ∃ b1, b0 ++ f = b1 := ⟨_, rfl⟩
 have HL1 := Aside0.mk (show b1.length = b0.length + f.length by rw [← eb1, List.length_append])
 have HFM1 := Aside0.mk (show b0 ++ frameM r = b1 ++ putM (sumM f) by rw [HFM.out, ← List.append_assoc, eb1])
 rw [eb1] at hR2
 clear eb1
 obtain ⟨A2, c2, ev2⟩ := Kd.R_slice hR2
 subst ev2
 have hown0 : ∀ k, (Value.slice A0 b0.length c0).ownBlock = some k → ok k ∧ k < W.heap.size := fun k hk => by have := HB0.out.1 k hk; exact ⟨this.1, this.2.2.1⟩
 have HK2 := Aside0.mk (show Keeps W w2 (fun k => ok k ∧ k < W.heap.size) from (Keeps.of_below HB1.out _).then_ (Keeps.of_grown hg2) (fun k hk => .inl (hown0 k hk.symm)))
 have HR12 := Aside0.mk (Kd.R_grown HR1.out hg2 (fun k hk he => by have := (hown0 k he.symm).2; omega))
 have HR2 := Aside0.mk (Kd.R_mono (Kd.R_bound hR2) (ok' := fun k => ((ok k ∧ k < W.heap.size) ∨ w1.heap.size ≤ k) ∧ k < w2.heap.size) (fun k hk => ⟨hk.1, hk.2.2.1⟩))
 clear hR2 hg2 hown0
 go_wp2_with fail
 refine (sums_Sum.calls A1 c1 f w2 (Kd.R_reads' HR12.out).2.2 (by have := HFL.out; omega)).mono ?_
 rintro e w' ⟨rfl, rfl⟩
 obtain ⟨s, es⟩ : ∃ s, sumM f = s := ⟨_, rfl⟩
 rw [es] at HFM1 ⊢
 clear es
 go_wp2_with fail
 refine (sums_Put.calls s (putM s) w2 rfl).mono ?_
 rintro e w3 ⟨v3, rfl, hR3, hB3⟩
 obtain ⟨p, ep⟩ : ∃ p, putM s = p := ⟨_, rfl⟩
 have HPL := Aside0.mk (show p.length = 2 by rw [← ep]; rfl)
 rw [ep] at HFM1 hR3
 clear ep
 obtain ⟨A3, c3, ev3⟩ := Kd.R_slice hR3
 subst ev3
 have HR3 := Aside0.mk (Kd.R_reads' hR3).2.2
 have HB3 := Aside0.mk hB3
 have HR23 := Aside0.mk (Kd.R_below HR2.out hB3)
 clear hR3 hB3
 go_wp2_with (at_builtin; refine app_int (k := .u8) rfl (.tmp 18) (.tmp 21) 30 5 1 rfl Try.underlying30 hinfo5 (by decide) (.slice A2 b1.length c2) b1 p A3 p.length c3 (fun k => ((ok k ∧ k < W.heap.size) ∨ w1.heap.size ≤ k) ∧ k < w2.heap.size) rfl rfl HR23.out HR3.out ?c2 ?_)
 case c2 => have := HFL.out; have := HL1.out; have := HPL.out; omega
 intro v4 w4 hR4 hg4
 have hown2 : ∀ k, (Value.slice A2 b1.length c2).ownBlock = some k → ((ok k ∧ k < W.heap.size) ∨ w1.heap.size ≤ k) ∧ k < w2.heap.size := fun k hk => HR2.out.1 k hk
 have HK4 := Aside0.mk (((HK2.out.step HB3.out).then_ (Keeps.of_grown hg4) (fun k hk => (hown2 k hk.symm).1.imp id (Nat.le_trans HB1.out.size))).mono (S' := ok) (fun k _ hk => hk.1))
 have hsz := Nat.le_trans HK2.out.size HB3.out.size
 have HR4 := Aside0.mk (show (Kd.int .u8).R 5 w4 0 (fun k => ok k ∨ W.heap.size ≤ k) v4 (b0 ++ frameM r) by
  rw [HFM1.out]
  exact Kd.R_mono hR4 (fun k hk => hk.elim (fun h => h.1.imp (·.1) (Nat.le_trans HB1.out.size)) (fun h => .inr (Nat.le_trans hsz h))))
 clear hR4 hg4 hown2
 go_wp2_with fail
 go_ret
 exact ⟨_, rfl, HK4.out, HR4.out⟩
end Go.Proofs.Ytmfmoddaejoekaa.P
end
