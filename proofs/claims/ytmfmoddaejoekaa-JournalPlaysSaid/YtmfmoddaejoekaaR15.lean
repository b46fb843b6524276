/- Texts of this claim, laid into one. -/
import Derived.Test.YtmfmoddaejoekaaR17e
import Derived.Test.YtmfmoddaejoekaaHFrame
import Derived.Test.YtmfmoddaejoekaaP12
import Derived.Laws.Bits64
import Derived.Test.YtmfmoddaejoekaaHLook
section
/- The plain model of layer 17: calls that go through. -/
set_option linter.unusedVariables false
set_option linter.unusedSimpArgs false
namespace Go.Proofs.Ytmfmoddaejoekaa.P
open Go.RowKit Go.Proofs.YtmfmoddaejoekaaW.PrintWords Go.Proofs.YtmfmoddaejoekaaW.PrintLast Go.Proofs.YtmfmoddaejoekaaW.PrintMore
theorem afterU_units_same (s : List Int) (i : Int) : ∀ (data : List Int), afterU s i (TM.units i data) = s ++ data := by
 intro data
 induction data generalizing s with
 | nil => simp [TM.units, afterU]
 | cons x xs ih =>
  show afterU (unit1 s i ⟨i, -1, x⟩) i (TM.units i xs) = _
  have : unit1 s i ⟨i, -1, x⟩ = s ++ [x] := by unfold unit1; rw [if_pos rfl, if_neg (by show ¬ (0 : Int) ≤ -1; decide)]
  rw [this, ih, List.append_assoc]
  rfl
theorem afterU_units_other (s : List Int) (i j : Int) (hij : i ≠ j) : ∀ (data : List Int), afterU s j (TM.units i data) = s := by
 intro data
 induction data generalizing s with
 | nil => rfl
 | cons x xs ih =>
  show afterU (unit1 s j ⟨i, -1, x⟩) j (TM.units i xs) = _
  have : unit1 s j ⟨i, -1, x⟩ = s := by unfold unit1; rw [if_neg hij]
  rw [this, ih]
namespace TM
theorem does_now (T : TM) (l : List Un) (i : Int) : (T.does l).now i = afterU (T.now i) i l := by
 show afterU (T.safe i) i (T.us ++ l) = _
 rw [afterU_append]
 rfl
theorem write_yes {T : TM} {i : Int} {data : List Int} (h : T.writeE i data = 0) : T.write i data = T.does (units i data) := by unfold write; rw [if_pos h]
theorem write_no {T : TM} {i : Int} {data : List Int} (h : T.writeE i data ≠ 0) : T.write i data = T := by unfold write; rw [if_neg h]
theorem trim_yes {T : TM} {i n : Int} (h : T.trimE i n = 0) : T.trim i n = T.does [⟨i, n, 0⟩] := by unfold trim; rw [if_pos h]
theorem trim_no {T : TM} {i n : Int} (h : T.trimE i n ≠ 0) : T.trim i n = T := by unfold trim; rw [if_neg h]
theorem sync_yes {T : TM} (h : T.ready 0 = 0) : T.sync = { T.burn with s0 := T.now 0, s1 := T.now 1, us := [] } := by unfold sync; rw [if_pos h]
theorem sync_no {T : TM} (h : T.ready 0 ≠ 0) : T.sync = T := by unfold sync; rw [if_neg h]
theorem sync_safe {T : TM} (h : T.ready 0 = 0) (i : Int) : T.sync.safe i = if i = 0 then T.now 0 else T.now 1 := by rw [sync_yes h]; rfl
theorem ready_val (T : TM) {i : Int} (hi : i = 0 ∨ i = 1) : T.ready i = 0 ∨ T.ready i = 40 := by
 unfold ready
 rw [if_neg (by omega)]
 split
 ·exact .inr rfl
 ·exact .inl rfl
/-- A tape without a fuse. -/
theorem calm_ready {T : TM} (h : T.burns = false) {i : Int} (hi : i = 0 ∨ i = 1) : T.ready i = 0 := by
 unfold ready
 rw [if_neg (by omega), if_neg (by rw [h]; simp)]
theorem calm_write {T : TM} (h : T.burns = false) (i : Int) (data : List Int) : (T.write i data).burns = false := by unfold write; split <;> exact h
theorem calm_trim {T : TM} (h : T.burns = false) (i n : Int) : (T.trim i n).burns = false := by unfold trim; split <;> exact h
theorem calm_sync {T : TM} (h : T.burns = false) : T.sync.burns = false := by unfold sync; split <;> exact h
theorem writeE_ready {T : TM} {i : Int} {data : List Int} (h : T.ready i = 0) : T.writeE i data = if 65536 < (T.now i).length + data.length then 42 else 0 := by unfold writeE; rw [if_neg (by omega)]
theorem trimE_ready {T : TM} {i n : Int} (h : T.ready i = 0) (h0 : 0 ≤ n) (h1 : n ≤ ((T.now i).length : Int)) : T.trimE i n = 0 := by unfold trimE; rw [if_neg (by omega), if_neg (by omega)]
end TM
theorem other_side {p : Int} (h : p = 0 ∨ p = 1) : 1 - p = 0 ∨ 1 - p = 1 := by omega
theorem other_ne {p : Int} (h : p = 0 ∨ p = 1) : 1 - p ≠ p := by omega
theorem synced_safe {T : TM} (h : T.ready 0 = 0) {i : Int} (hi : i = 0 ∨ i = 1) : T.sync.safe i = T.now i := by
 rw [TM.sync_safe h]
 rcases hi with rfl | rfl
 ·rfl
 ·rfl
/-- Append goes through. -/
theorem append_good {T : TM} {J : JM} (h : Good T J) {r : List Int} (hr : isRec r = true) (h1 : T.writeE J.side (frameM r) = 0) (h2 : (T.write J.side (frameM r)).ready 0 = 0) :
  appendM T J r = (0, (T.write J.side (frameM r)).sync, { J with L := J.L ++ [r], size := J.size + ((frameM r).length : Int) }) ∧ Good (T.write J.side (frameM r)).sync { J with L := J.L ++ [r], size := J.size + ((frameM r).length : Int) } := by
 refine ⟨?_, ?_⟩
 ·unfold appendM
  rw [if_neg (by rw [h.br]; decide), if_neg (by rw [hr]; decide), if_neg (by rw [h1]; decide), if_neg (by rw [h2]; decide)]
 ·have hs : (T.write J.side (frameM r)).sync.safe J.side = T.safe J.side ++ frameM r := by
   rw [synced_safe h2 h.sd, TM.write_yes h1, TM.does_now, safe_now h.us, afterU_units_same]
  have ho : (T.write J.side (frameM r)).sync.safe (1 - J.side) = T.safe (1 - J.side) := by
   rw [synced_safe h2 (other_side h.sd), TM.write_yes h1, TM.does_now, safe_now h.us, afterU_units_other _ _ _ (Ne.symm (other_ne h.sd))]
  obtain ⟨x, h0, hx, hc⟩ := h.head
  have hA := readA_append (T.safe J.side) (frameM r) (x :: J.L) hx
  have hf : readA (frameM r) = ([r], r.length + 4, 0) := by
   have := readA_frame r [] hr
   rwa [List.append_nil, readA_nil] at this
  refine ⟨by rw [TM.sync_yes h2], h.br, h.sd, h.gen, ⟨x, h0, ?_, ?_⟩, ?_, ?_⟩
  ·show readA ((T.write J.side (frameM r)).sync.safe J.side) = (x :: (J.L ++ [r]), ((T.write J.side (frameM r)).sync.safe J.side).length, 0)
   rw [hs, hA, hf, List.length_append, frameM_len]
   rfl
  ·exact countM_more hc (by have := h.gen; omega) r
  ·show J.size + ((frameM r).length : Int) = (((T.write J.side (frameM r)).sync.safe J.side).length : Int)
   rw [hs, List.length_append, h.size]
   omega
  ·show Lower ((T.write J.side (frameM r)).sync.safe (1 - J.side)) J.g
   rw [ho]
   exact h.low
/-- What a renewed side is. -/
theorem body_frames (g : Int) (l : List (List Int)) : bodyM g l = framesM (headR g (l.length : Int) :: l) := rfl
theorem body_rec {g : Int} {l : List (List Int)} (hg : 1 ≤ g ∧ g ≤ 1099511627776) (hl : l.length ≤ 4000) (hr : ∀ r ∈ l, isRec r = true) : ∀ r ∈ headR g (l.length : Int) :: l, isRec r = true := fun r hh => by
 rcases List.mem_cons.1 hh with rfl | hh
 ·exact headR_rec g _ hg (by omega)
 ·exact hr r hh
theorem body_count {g : Int} {l : List (List Int)} (hg : 1 ≤ g ∧ g ≤ 1099511627776) (hl : l.length ≤ 4000) : countM (headR g (l.length : Int) :: l) = (true, g) := by
 rw [countM_head g _ hg (by omega), if_pos (by omega)]
theorem head_len {g : Int} {l : List (List Int)} (hg : 1 ≤ g ∧ g ≤ 1099511627776) (hl : l.length ≤ 4000) : (headR g (l.length : Int)).length ≤ 18 := by
 have h1 := numB_length g (by omega)
 have h2 := numB_length (l.length : Int) (by omega)
 unfold headR
 rw [List.length_append]
 omega
/-- Renew goes through. -/
theorem renew_good {T : TM} {J : JM} (h : Good T J) {l : List (List Int)} (hl : l.length ≤ 4000) (hg : J.g < 1099511627776) (hr : ∀ r ∈ l, isRec r = true) (hb : (bodyM (J.g + 1) l).length ≤ 65536)
  (h1 : T.trimE (1 - J.side) 0 = 0) (h2 : (T.trim (1 - J.side) 0).writeE (1 - J.side) (bodyM (J.g + 1) l) = 0) (h3 : ((T.trim (1 - J.side) 0).write (1 - J.side) (bodyM (J.g + 1) l)).ready 0 = 0) :
  renewM T J l = (0, ((T.trim (1 - J.side) 0).write (1 - J.side) (bodyM (J.g + 1) l)).sync, ⟨1 - J.side, J.g + 1, l, ((bodyM (J.g + 1) l).length : Int), false⟩) ∧ Good ((T.trim (1 - J.side) 0).write (1 - J.side) (bodyM (J.g + 1) l)).sync ⟨1 - J.side, J.g + 1, l, ((bodyM (J.g + 1) l).length : Int), false⟩ := by
 have hge : 1 ≤ J.g + 1 ∧ J.g + 1 ≤ 1099511627776 := by have := h.gen; omega
 refine ⟨?_, ?_⟩
 ·unfold renewM
  rw [if_neg (by rw [h.br]; decide), if_neg (by simp only [not_or]; exact ⟨by omega, by omega, fun hh => hh hr⟩), if_neg (by omega), if_neg (by rw [h1]; decide), if_neg (by rw [h2]; decide), if_neg (by rw [h3]; decide)]
 ·have ht : (T.trim (1 - J.side) 0).now (1 - J.side) = [] := by
   rw [TM.trim_yes h1, TM.does_now, safe_now h.us]
   show unit1 (T.safe (1 - J.side)) (1 - J.side) ⟨1 - J.side, 0, 0⟩ = []
   unfold unit1
   rw [if_pos rfl, if_pos (show (0 : Int) ≤ 0 from Int.le_refl _)]
   rfl
  have ht2 : (T.trim (1 - J.side) 0).now J.side = T.safe J.side := by
   rw [TM.trim_yes h1, TM.does_now, safe_now h.us]
   show unit1 (T.safe J.side) J.side ⟨1 - J.side, 0, 0⟩ = _
   unfold unit1
   rw [if_neg (other_ne h.sd)]
  have hs : ((T.trim (1 - J.side) 0).write (1 - J.side) (bodyM (J.g + 1) l)).sync.safe (1 - J.side) = bodyM (J.g + 1) l := by
   rw [synced_safe h3 (other_side h.sd), TM.write_yes h2, TM.does_now, ht, afterU_units_same, List.nil_append]
  have ho : ((T.trim (1 - J.side) 0).write (1 - J.side) (bodyM (J.g + 1) l)).sync.safe J.side = T.safe J.side := by
   rw [synced_safe h3 h.sd, TM.write_yes h2, TM.does_now, ht2, afterU_units_other _ _ _ (other_ne h.sd)]
  obtain ⟨x, h0, hx, hc⟩ := h.head
  refine ⟨by rw [TM.sync_yes h3], rfl, other_side h.sd, hge, ⟨headR (J.g + 1) (l.length : Int), head_len hge hl, ?_, body_count hge hl⟩, ?_, ?_⟩
  ·show readA (((T.trim (1 - J.side) 0).write (1 - J.side) (bodyM (J.g + 1) l)).sync.safe (1 - J.side)) = (headR (J.g + 1) (l.length : Int) :: l, (((T.trim (1 - J.side) 0).write (1 - J.side) (bodyM (J.g + 1) l)).sync.safe (1 - J.side)).length, 0)
   rw [hs, body_frames]
   exact readA_frames _ (body_rec hge hl hr)
  ·show ((bodyM (J.g + 1) l).length : Int) = ((((T.trim (1 - J.side) 0).write (1 - J.side) (bodyM (J.g + 1) l)).sync.safe (1 - J.side)).length : Int)
   rw [hs]
  ·show Lower (((T.trim (1 - J.side) 0).write (1 - J.side) (bodyM (J.g + 1) l)).sync.safe (1 - (1 - J.side))) (J.g + 1)
   rw [show 1 - (1 - J.side) = J.side by omega, ho]
   exact ⟨x :: J.L, J.g, ⟨⟨_, 0, by decide, hx⟩, hc⟩, by have := h.gen; omega, by omega⟩
theorem rec10 : isRec (headR 1 0) = true := headR_rec 1 0 (by decide) (by decide)
/-- A journal on a tape that is empty and has no fuse. -/
theorem open_new {T : TM} (hu : T.us = []) (h0 : T.s0 = []) (h1 : T.s1 = []) (hb : T.burns = false) :
  ∃ T' J, openM T = (0, T', some J) ∧ Good T' J ∧ T'.burns = false ∧ J.side = 0 ∧ J.g = 1 ∧ J.L = [] ∧ J.size = 7 ∧ T'.s1 = [] ∧ T'.s0 = frameM (headR 1 0) := by
 have hn0 : T.now 0 = [] := by rw [safe_now hu]; exact h0
 have hn1 : T.now 1 = [] := by rw [safe_now hu]; exact h1
 have hr := TM.calm_ready hb (i := 0) (.inl rfl)
 have t1 : T.trimE 0 0 = 0 := TM.trimE_ready hr (by decide) (by omega)
 have b1 := TM.calm_trim hb 0 0
 have n10 : (T.trim 0 0).now 0 = [] := by
  rw [TM.trim_yes t1, TM.does_now, hn0]; rfl
 have n11 : (T.trim 0 0).now 1 = [] := by
  rw [TM.trim_yes t1, TM.does_now, hn1]; rfl
 have t2 : (T.trim 0 0).trimE 1 0 = 0 := TM.trimE_ready (TM.calm_ready b1 (.inr rfl)) (by decide) (by omega)
 have b2 := TM.calm_trim b1 1 0
 have n20 : ((T.trim 0 0).trim 1 0).now 0 = [] := by
  rw [TM.trim_yes t2, TM.does_now, n10]; rfl
 have n21 : ((T.trim 0 0).trim 1 0).now 1 = [] := by
  rw [TM.trim_yes t2, TM.does_now, n11]; rfl
 have hfl : (frameM (headR 1 0)).length = 7 := by rw [frameM_len]; rfl
 have t3 : ((T.trim 0 0).trim 1 0).writeE 0 (frameM (headR 1 0)) = 0 := by
  rw [TM.writeE_ready (TM.calm_ready b2 (.inl rfl)), n20, hfl]
  rfl
 have b3 := TM.calm_write b2 0 (frameM (headR 1 0))
 have r3 := TM.calm_ready b3 (i := 0) (.inl rfl)
 have n30 : (((T.trim 0 0).trim 1 0).write 0 (frameM (headR 1 0))).sync.safe 0 = frameM (headR 1 0) := by
  rw [synced_safe r3 (.inl rfl), TM.write_yes t3, TM.does_now, n20, afterU_units_same]; rfl
 have n31 : (((T.trim 0 0).trim 1 0).write 0 (frameM (headR 1 0))).sync.safe 1 = [] := by
  rw [synced_safe r3 (.inr rfl), TM.write_yes t3, TM.does_now, n21, afterU_units_other _ _ _ (by decide)]
 refine ⟨(((T.trim 0 0).trim 1 0).write 0 (frameM (headR 1 0))).sync, ⟨0, 1, [], 7, false⟩, ?_, ?_, TM.calm_sync b3, rfl, rfl, rfl, rfl, n31, n30⟩
 ·unfold openM
  rw [if_neg (by rw [hr]; decide), hn0, hn1, sideM_nil, if_neg (by decide), if_pos (by decide)]
  unfold madeM
  rw [if_neg (by rw [t1]; decide), if_neg (by rw [t2]; decide), if_neg (by rw [t3]; decide), if_neg (by rw [r3]; decide), hfl]
  rfl
 ·refine ⟨by rw [TM.sync_yes r3], rfl, .inl rfl, by decide, ⟨headR 1 0, by decide, ?_, ?_⟩, ?_, ?_⟩
  ·show readA ((((T.trim 0 0).trim 1 0).write 0 (frameM (headR 1 0))).sync.safe 0) = ([headR 1 0], ((((T.trim 0 0).trim 1 0).write 0 (frameM (headR 1 0))).sync.safe 0).length, 0)
   rw [n30]
   have := readA_frame (headR 1 0) [] rec10
   rw [List.append_nil, readA_nil] at this
   rw [this, hfl]
   rfl
  ·exact countM_head 1 0 (by decide) (by decide) []
  ·show (7 : Int) = (((((T.trim 0 0).trim 1 0).write 0 (frameM (headR 1 0))).sync.safe 0).length : Int)
   rw [n30, hfl]
   rfl
  ·show Lower ((((T.trim 0 0).trim 1 0).write 0 (frameM (headR 1 0))).sync.safe (1 - 0)) 1
   rw [show (1 : Int) - 0 = 1 from rfl, n31]
   exact lower_nil (by decide)
end Go.Proofs.Ytmfmoddaejoekaa.P
end
section
/- The document's check sum is the program's. -/
set_option linter.unusedVariables false
set_option linter.unusedSimpArgs false
namespace Go.Proofs.Ytmfmoddaejoekaa.P
open Go.RowKit Go.Proofs.YtmfmoddaejoekaaW.PrintWords Go.Proofs.YtmfmoddaejoekaaW.PrintLast Go.Proofs.YtmfmoddaejoekaaW.PrintMore
theorem wrap_u16 (n : Int) : IntKind.u16.wrap n = n % 65536 := by simp [IntKind.wrap, IntKind.bits, IntKind.signed]
theorem xor_u16 (a b : Nat) (ha : a < 65536) (hb : b < 65536) : Go.bits .xor .u16 (a : Int) (b : Int) = ((a ^^^ b : Nat) : Int) := by
 have hx : a ^^^ b < 2 ^ 16 := Nat.xor_lt_two_pow (by omega) (by omega)
 have h1 : (BitVec.ofInt 16 (a : Int)).toNat = a := by
  rw [BitVec.ofInt_natCast, BitVec.toNat_ofNat]; exact Nat.mod_eq_of_lt (by omega)
 have h2 : (BitVec.ofInt 16 (b : Int)).toNat = b := by
  rw [BitVec.ofInt_natCast, BitVec.toNat_ofNat]; exact Nat.mod_eq_of_lt (by omega)
 show IntKind.u16.wrap ((BitVec.ofInt 16 (a : Int) ^^^ BitVec.ofInt 16 (b : Int)).toNat : Int) = _
 rw [BitVec.toNat_xor, h1, h2, wrap_u16]
 omega
theorem and_u16 (a b : Nat) (ha : a < 65536) (hb : b < 65536) : Go.bits .and .u16 (a : Int) (b : Int) = ((a &&& b : Nat) : Int) := by
 have hx : a &&& b < 2 ^ 16 := Nat.and_lt_two_pow _ (by omega)
 have h1 : (BitVec.ofInt 16 (a : Int)).toNat = a := by
  rw [BitVec.ofInt_natCast, BitVec.toNat_ofNat]; exact Nat.mod_eq_of_lt (by omega)
 have h2 : (BitVec.ofInt 16 (b : Int)).toNat = b := by
  rw [BitVec.ofInt_natCast, BitVec.toNat_ofNat]; exact Nat.mod_eq_of_lt (by omega)
 show IntKind.u16.wrap ((BitVec.ofInt 16 (a : Int) &&& BitVec.ofInt 16 (b : Int)).toNat : Int) = _
 rw [BitVec.toNat_and, h1, h2, wrap_u16]
 omega
theorem xor_i64 (a b : Nat) (ha : a < 65536) (hb : b < 65536) : Go.bits .xor .i64 (a : Int) (b : Int) = ((a ^^^ b : Nat) : Int) := by
 have hx : a ^^^ b < 2 ^ 16 := Nat.xor_lt_two_pow (by omega) (by omega)
 have h1 : (BitVec.ofInt 64 (a : Int)).toNat = a := by
  rw [BitVec.ofInt_natCast, BitVec.toNat_ofNat]; exact Nat.mod_eq_of_lt (by omega)
 have h2 : (BitVec.ofInt 64 (b : Int)).toNat = b := by
  rw [BitVec.ofInt_natCast, BitVec.toNat_ofNat]; exact Nat.mod_eq_of_lt (by omega)
 show IntKind.i64.wrap ((BitVec.ofInt 64 (a : Int) ^^^ BitVec.ofInt 64 (b : Int)).toNat : Int) = _
 rw [BitVec.toNat_xor, h1, h2, IntWalk.i64_in _ (by omega)]
/-- A register behind one bit, in plain numbers; the document's. -/
def bN (x : Nat) : Nat := if 32768 ≤ x then (x * 2 % 65536) ^^^ 4129 else x * 2 % 65536
def dN (s β : Nat) : Nat := if s / 32768 = β then s * 2 % 65536 else (s * 2 % 65536) ^^^ 4129
theorem x4129 {a : Nat} (h : a < 65536) : a ^^^ 4129 < 65536 := Nat.xor_lt_two_pow (n := 16) h (by decide)
theorem dN_lt (s β : Nat) : dN s β < 65536 := by
 unfold dN
 have := Nat.mod_lt (s * 2) (show 0 < 65536 by decide)
 split
 ·exact this
 ·exact x4129 this
theorem and_top (x : Nat) (h : x < 65536) : ((x &&& 32768 : Nat) != 0) = decide (32768 ≤ x) := by
 have t := Nat.testBit_eq_decide_div_mod_eq (x := x) (i := 15)
 rw [show (2 : Nat) ^ 15 = 32768 from rfl] at t
 have e : (x &&& 32768).testBit 15 = x.testBit 15 := by rw [Nat.testBit_and]; simp [show Nat.testBit 32768 15 = true from rfl]
 by_cases hx : 32768 ≤ x
 ·have h1 : x.testBit 15 = true := by rw [t]; exact decide_eq_true (by omega)
  rw [decide_eq_true hx]
  have : (x &&& 32768) ≠ 0 := fun h0 => by
   rw [h0] at e
   rw [h1] at e
   simp at e
  simpa using this
 ·have h0 : x &&& 32768 = 0 := by
   apply Nat.eq_of_testBit_eq
   intro i
   rw [Nat.testBit_and]
   by_cases hi : i = 15
   ·subst hi
    rw [t, decide_eq_false (by omega)]
    simp
   ·have : Nat.testBit 32768 i = false := by
     rw [show (32768 : Nat) = 2 ^ 15 from rfl, Nat.testBit_two_pow]
     exact decide_eq_false (fun e => hi e.symm)
    rw [this]
    simp
  rw [h0, decide_eq_false hx]
  rfl
theorem bit16_nat (x : Nat) (h : x < 65536) : bit16 (x : Int) = (bN x : Int) := by
 have e2 : IntKind.u16.wrap ((x : Int) * 2) = ((x * 2 % 65536 : Nat) : Int) := by rw [wrap_u16]; omega
 have ea : (Go.bits .and .u16 (x : Int) 32768 != 0) = decide (32768 ≤ x) := by
  have := and_u16 x 32768 h (by decide)
  rw [show ((32768 : Nat) : Int) = 32768 from rfl] at this
  rw [this, ← and_top x h]
  by_cases hz : (x &&& 32768) = 0
  ·rw [hz]; rfl
  ·have h1 : ((x &&& 32768 : Nat) != 0) = true := by simpa using hz
   rw [h1]
   simp only [bne_iff_ne, ne_eq]
   omega
 unfold bit16 bN
 rw [ea, e2]
 by_cases hx : 32768 ≤ x
 ·rw [decide_eq_true hx, if_pos rfl, if_pos hx]
  exact xor_u16 _ 4129 (Nat.mod_lt _ (by decide)) (by decide)
 ·rw [decide_eq_false hx, if_neg (by decide), if_neg hx]
/-- One bit: the program's register is the document's, and the bits that are left. -/
theorem bN_xor (s y : Nat) (hs : s < 65536) (hy : y < 65536) : bN (s ^^^ y) = dN s (y / 32768) ^^^ (y * 2 % 65536) := by
 have hd : (s ^^^ y) / 32768 = s / 32768 ^^^ y / 32768 := by
  have := Nat.shiftRight_xor_distrib (a := s) (b := y) (i := 15)
  simpa [Nat.shiftRight_eq_div_pow] using this
 have hm : (s ^^^ y) * 2 % 65536 = (s * 2 % 65536) ^^^ (y * 2 % 65536) := by
  have h1 := Nat.shiftLeft_xor_distrib (a := s) (b := y) (i := 1)
  have h2 : (s ^^^ y) * 2 = (s * 2) ^^^ (y * 2) := by simpa [Nat.shiftLeft_eq] using h1
  rw [h2]
  exact Nat.xor_mod_two_pow (n := 16)
 have hx : s ^^^ y < 65536 := Nat.xor_lt_two_pow (n := 16) hs hy
 have c1 : s / 32768 = 0 ∨ s / 32768 = 1 := by omega
 have c2 : y / 32768 = 0 ∨ y / 32768 = 1 := by omega
 have key : 32768 ≤ s ^^^ y ↔ ¬ s / 32768 = y / 32768 := by
  have hq : 32768 ≤ s ^^^ y ↔ (s ^^^ y) / 32768 = 1 := by omega
  rw [hq, hd]
  rcases c1 with c1 | c1 <;> rcases c2 with c2 | c2 <;> rw [c1, c2] <;> decide
 unfold bN dN
 rw [hm]
 by_cases hc : s / 32768 = y / 32768
 ·rw [if_neg (fun hh => key.1 hh hc), if_pos hc]
 ·rw [if_pos (key.2 hc), if_neg hc, Nat.xor_assoc, Nat.xor_assoc, Nat.xor_comm (y * 2 % 65536)]
/-- A byte's bits that are left. -/
def yN (b j : Nat) : Nat := b * 2 ^ (8 + j) % 65536
theorem yN_facts : ∀ b : Fin 256, ∀ j : Fin 8, yN b j / 32768 = b.val / 2 ^ (7 - j.val) % 2 ∧ yN b j * 2 % 65536 = yN b (j.val + 1) := by decide +kernel
def dB (s b : Nat) : Nat → Nat
 | 0 => s
 | n + 1 => dN (dB s b n) (b / 2 ^ (7 - n) % 2)
theorem dB_lt (s b : Nat) (hs : s < 65536) : ∀ n, dB s b n < 65536
 | 0 => hs
 | n + 1 => dN_lt _ _
theorem bits16_snoc : ∀ (n : Nat) (r : Int), bits16 (n + 1) r = bit16 (bits16 n r)
 | 0, r => rfl
 | n + 1, r => bits16_snoc n (bit16 r)
theorem bits_dB (s b : Nat) (hs : s < 65536) (hb : b < 256) : ∀ n, n ≤ 8 → bits16 n (((s ^^^ yN b 0 : Nat) : Nat) : Int) = ((dB s b n ^^^ yN b n : Nat) : Int)
 | 0, _ => rfl
 | n + 1, h => by
  have ih := bits_dB s b hs hb n (by omega)
  have hf := yN_facts ⟨b, hb⟩ ⟨n, by omega⟩
  have hy : yN b n < 65536 := Nat.mod_lt _ (by decide)
  rw [bits16_snoc, ih, bit16_nat _ (Nat.xor_lt_two_pow (n := 16) (dB_lt s b hs n) hy), bN_xor _ _ (dB_lt s b hs n) hy]
  have h1 : yN b n / 32768 = b / 2 ^ (7 - n) % 2 := hf.1
  have h2 : yN b n * 2 % 65536 = yN b (n + 1) := hf.2
  rw [h1, h2]
  rfl
theorem byte16_nat (s b : Nat) (hs : s < 65536) (hb : b < 256) : byte16 (s : Int) (b : Int) = (dB s b 8 : Int) := by
 have e : IntKind.u16.wrap (IntKind.u16.wrap (b : Int) * 256) = ((yN b 0 : Nat) : Int) := by
  rw [wrap_u16, wrap_u16]
  show _ = ((b * 2 ^ 8 % 65536 : Nat) : Int)
  omega
 have hy : yN b 0 < 65536 := Nat.mod_lt _ (by decide)
 unfold byte16
 rw [e, xor_u16 s _ hs hy, bits_dB s b hs hb 8 (Nat.le_refl _)]
 have : yN b 8 = 0 := by
  show b * 2 ^ 16 % 65536 = 0
  omega
 rw [this, Nat.xor_zero]
theorem byte_at (l : List Int) (hb : okB l = true) (i : Nat) (hi : i < l.length) : ∃ b : Nat, b < 256 ∧ rd l (i : Int) = (b : Int) ∧ l[i] = (b : Int) := by
 have h1 := okB_mem hb l[i] (List.getElem_mem hi)
 have h2 : rd l (i : Int) = l[i] := by simp [rd, hi]
 exact ⟨l[i].toNat, by omega, by omega, by omega⟩
theorem more_l1 (l : List Int) (i b : Nat) (hi : i < l.length) (hb : b < 256) (hr : rd l (i : Int) = (b : Int)) (s0 : Nat) (hs0 : s0 < 65536) :
  ∀ (d n k : Nat), n + d = 8 → liveryref15_More.l1 (k + d + 1) (dB s0 b n : Int) l (i : Int) (7 - (n : Int)) = liveryref15_More.l0 k (dB s0 b 8 : Int) l (wrap64 ((i : Int) + 1)) := by
 intro d
 induction d with
 | zero =>
  intro n k hn
  have : n = 8 := by omega
  subst this
  rw [liveryref15_More.l1, if_neg (by decide)]
 | succ d ih =>
  intro n k hn
  have hs := dB_lt s0 b hs0 n
  rw [show k + (d + 1) + 1 = (k + d + 1) + 1 by omega, liveryref15_More.l1, if_pos (by omega), if_pos (by omega), if_pos (by omega), if_pos (by omega)]
  have e1 : Int.tmod (wrap64 (Int.tdiv (dB s0 b n : Int) 32768)) 2 = ((dB s0 b n / 32768 : Nat) : Int) := by
   rw [Int.tdiv_eq_ediv_of_nonneg (by omega), w64 (by omega) (by omega), Int.tmod_eq_emod_of_nonneg (by omega)]
   omega
  have e2 : Int.tmod (shr .i64 (wrap64 (rd l (i : Int))) (7 - (n : Int))) 2 = ((b / 2 ^ (7 - n) % 2 : Nat) : Int) := by
   rw [hr, w64 (by omega) (by omega)]
   unfold shr
   have h3 : min (7 - (n : Int)).toNat IntKind.i64.bits = 7 - n := by
    show min (7 - (n : Int)).toNat 64 = 7 - n
    omega
   rw [h3]
   have h4 : ((b : Int) / 2 ^ (7 - n)) = ((b / 2 ^ (7 - n) : Nat) : Int) := by
    rw [Int.natCast_ediv]
    simp
   obtain ⟨q, eq⟩ : ∃ q, b / 2 ^ (7 - n) = q := ⟨_, rfl⟩
   rw [h4, eq, Int.tmod_eq_emod_of_nonneg (by omega)]
   omega
  have e3 : Int.tmod (wrap64 ((dB s0 b n : Int) * 2)) 65536 = ((dB s0 b n * 2 % 65536 : Nat) : Int) := by
   rw [w64 (by omega) (by omega), Int.tmod_eq_emod_of_nonneg (by omega)]
   omega
  have e4 : wrap64 (7 - (n : Int) - 1) = 7 - ((n + 1 : Nat) : Int) := by rw [w64 (by omega) (by omega)]; omega
  rw [e1, e2, e3, e4]
  have hn1 := ih (n + 1) k (by omega)
  by_cases hc : dB s0 b n / 32768 = b / 2 ^ (7 - n) % 2
  ·have hd : dB s0 b (n + 1) = dB s0 b n * 2 % 65536 := if_pos hc
   rw [if_pos (by rw [hc]), ← hd]
   exact hn1
  ·have hd : dB s0 b (n + 1) = (dB s0 b n * 2 % 65536) ^^^ 4129 := if_neg hc
   have hx := xor_i64 (dB s0 b n * 2 % 65536) 4129 (Nat.mod_lt _ (by decide)) (by decide)
   rw [show ((4129 : Nat) : Int) = 4129 from rfl] at hx
   rw [if_neg (fun hh => hc (by exact_mod_cast hh)), hx, ← hd]
   exact hn1
theorem more_l0 (l : List Int) (hb : okB l = true) (hl : l.length ≤ 1000000) : ∀ (d k i s : Nat), i + d = l.length → s < 65536 → ∃ t : Nat, t < 65536 ∧ liveryref15_More.l0 (k + d * 10 + 1) (s : Int) l (i : Int) = some (t : Int) ∧ sumR (s : Int) (l.drop i) = (t : Int) := by
 intro d
 induction d with
 | zero =>
  intro k i s hi hs
  refine ⟨s, hs, ?_, ?_⟩
  ·rw [liveryref15_More.l0, if_neg (by omega)]
  ·rw [List.drop_eq_nil_of_le (by omega)]; rfl
 | succ d ih =>
  intro k i s hi hs
  have hil : i < l.length := by omega
  obtain ⟨b, hb1, hb2, hb3⟩ := byte_at l hb i hil
  obtain ⟨t, ht, h1, h2⟩ := ih k (i + 1) (dB s b 8) (by omega) (dB_lt s b hs 8)
  refine ⟨t, ht, ?_, ?_⟩
  ·rw [show k + (d + 1) * 10 + 1 = ((k + d * 10 + 1) + 8 + 1) + 1 by omega, liveryref15_More.l0, if_pos (by omega)]
   have := more_l1 l i b hil hb1 hb2 s hs 8 0 (k + d * 10 + 1) rfl
   rw [show (7 - ((0 : Nat) : Int)) = 7 from rfl] at this
   rw [show (dB s b 0 : Int) = (s : Int) from rfl] at this
   rw [this, w64 (by omega) (by omega)]
   exact h1
  ·rw [List.drop_eq_getElem_cons hil, hb3]
   show sumR (byte16 (s : Int) (b : Int)) (l.drop (i + 1)) = _
   rw [byte16_nat s b hs hb1]
   exact h2
/-- The document's sum. -/
theorem sum15 (l : List Int) (hb : okB l = true) (hl : l.length ≤ 1000000) (k : Nat) (hk : 10 * l.length < k) : liveryref15_Sum.f k l = some (sumM l) ∧ 0 ≤ sumM l ∧ sumM l < 65536 := by
 obtain ⟨t, ht, h1, h2⟩ := more_l0 l hb hl l.length (k - l.length * 10 - 1) 0 65535 (by omega) (by decide)
 have e : k - l.length * 10 - 1 + l.length * 10 + 1 = k := by omega
 rw [e] at h1
 have h3 : sumM l = (t : Int) := by
  unfold sumM
  rw [show IntKind.u16.wrap 65535 = ((65535 : Nat) : Int) by rw [wrap_u16]; rfl]
  rw [List.drop_zero] at h2
  rw [h2, w64 (by omega) (by omega)]
 refine ⟨?_, by omega, by omega⟩
 unfold liveryref15_Sum.f liveryref15_More.f
 have h1' : liveryref15_More.l0 k 65535 l 0 = some (t : Int) := h1
 rw [h1', h3]
 rfl
end Go.Proofs.Ytmfmoddaejoekaa.P
end
