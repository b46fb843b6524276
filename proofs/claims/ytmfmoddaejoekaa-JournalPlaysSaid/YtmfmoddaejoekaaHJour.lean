/- Texts of this claim, laid into one. -/
import Derived.Test.YtmfmoddaejoekaaHParse
import Derived.Test.YtmfmoddaejoekaaHSep
import Derived.Defers
section
/- The plain model of layer 17: a journal on a tape. -/
set_option linter.unusedVariables false
set_option linter.unusedSimpArgs false
namespace Go.Proofs.Ytmfmoddaejoekaa.P
open Go.RowKit Go.Proofs.YtmfmoddaejoekaaW.PrintWords Go.Proofs.YtmfmoddaejoekaaW.PrintLast Go.Proofs.YtmfmoddaejoekaaW.PrintMore
structure JM where
 side : Int
 g : Int
 L : List (List Int)
 size : Int
 broken : Bool
/-- Does an error break a journal? -/
def brk (e : Int) : Bool := decide (e ≠ 0 ∧ e ≠ 42 ∧ e ≠ 1)
def isRec (r : List Int) : Bool := decide (1 ≤ r.length ∧ r.length ≤ 8192)
/-- A head's record. -/
def headR (g n : Int) : List Int := numB g ++ numB n
def appendM (T : TM) (J : JM) (r : List Int) : Int × TM × JM :=
 if J.broken = true then (40, T, J) else if isRec r = false then (1, T, J) else
 if T.writeE J.side (frameM r) ≠ 0 then (T.writeE J.side (frameM r), T.write J.side (frameM r), { J with broken := brk (T.writeE J.side (frameM r)) }) else
 if (T.write J.side (frameM r)).ready 0 ≠ 0 then ((T.write J.side (frameM r)).ready 0, (T.write J.side (frameM r)).sync, { J with broken := brk ((T.write J.side (frameM r)).ready 0) }) else
 (0, (T.write J.side (frameM r)).sync, { J with L := J.L ++ [r], size := J.size + ((frameM r).length : Int) })
def framesM (l : List (List Int)) : List Int := (l.map frameM).flatten
/-- What a side is to be written with. -/
def bodyM (g : Int) (l : List (List Int)) : List Int := frameM (headR g (l.length : Int)) ++ framesM l
def renewM (T : TM) (J : JM) (l : List (List Int)) : Int × TM × JM :=
 if J.broken = true then (40, T, J) else if 4000 < l.length ∨ 1099511627776 ≤ J.g ∨ ¬ (∀ r ∈ l, isRec r = true) then (1, T, J) else
 if 65536 < (bodyM (J.g + 1) l).length then (42, T, J) else
 if T.trimE (1 - J.side) 0 ≠ 0 then (T.trimE (1 - J.side) 0, T.trim (1 - J.side) 0, { J with broken := brk (T.trimE (1 - J.side) 0) }) else
 if (T.trim (1 - J.side) 0).writeE (1 - J.side) (bodyM (J.g + 1) l) ≠ 0 then ((T.trim (1 - J.side) 0).writeE (1 - J.side) (bodyM (J.g + 1) l), (T.trim (1 - J.side) 0).write (1 - J.side) (bodyM (J.g + 1) l), { J with broken := brk ((T.trim (1 - J.side) 0).writeE (1 - J.side) (bodyM (J.g + 1) l)) }) else
 if ((T.trim (1 - J.side) 0).write (1 - J.side) (bodyM (J.g + 1) l)).ready 0 ≠ 0 then (((T.trim (1 - J.side) 0).write (1 - J.side) (bodyM (J.g + 1) l)).ready 0, ((T.trim (1 - J.side) 0).write (1 - J.side) (bodyM (J.g + 1) l)).sync, { J with broken := brk (((T.trim (1 - J.side) 0).write (1 - J.side) (bodyM (J.g + 1) l)).ready 0) }) else
 (0, ((T.trim (1 - J.side) 0).write (1 - J.side) (bodyM (J.g + 1) l)).sync, ⟨1 - J.side, J.g + 1, l, ((bodyM (J.g + 1) l).length : Int), false⟩)
/-- A journal on an empty tape. -/
def madeM (T : TM) : Int × TM × Option JM :=
 if T.trimE 0 0 ≠ 0 then (T.trimE 0 0, T.trim 0 0, none) else
 if (T.trim 0 0).trimE 1 0 ≠ 0 then ((T.trim 0 0).trimE 1 0, (T.trim 0 0).trim 1 0, none) else
 if ((T.trim 0 0).trim 1 0).writeE 0 (frameM (headR 1 0)) ≠ 0 then (((T.trim 0 0).trim 1 0).writeE 0 (frameM (headR 1 0)), ((T.trim 0 0).trim 1 0).write 0 (frameM (headR 1 0)), none) else
 if (((T.trim 0 0).trim 1 0).write 0 (frameM (headR 1 0))).ready 0 ≠ 0 then ((((T.trim 0 0).trim 1 0).write 0 (frameM (headR 1 0))).ready 0, (((T.trim 0 0).trim 1 0).write 0 (frameM (headR 1 0))).sync, none) else
 (0, (((T.trim 0 0).trim 1 0).write 0 (frameM (headR 1 0))).sync, some ⟨0, 1, [], ((frameM (headR 1 0)).length : Int), false⟩)
/-- The side that counts: its number, its generation, its records behind the head, its bytes, is it torn? -/
def pickM (a b : List (List Int) × Int × Bool × Int × Bool) : Int × (List (List Int) × Int × Bool × Int × Bool) := if a.2.2.2.1 < b.2.2.2.1 then (1, b) else (0, a)
def openM (T : TM) : Int × TM × Option JM :=
 if T.ready 0 ≠ 0 then (T.ready 0, T, none) else
 if (sideM (T.now 0)).2.2.2.2 = false ∨ (sideM (T.now 1)).2.2.2.2 = false then (41, T, none) else
 if (sideM (T.now 0)).2.2.2.1 = 0 ∧ (sideM (T.now 1)).2.2.2.1 = 0 ∧ (sideM (T.now 0)).1.length + (sideM (T.now 1)).1.length = 0 then madeM T else
 if (sideM (T.now 0)).2.2.2.1 = (sideM (T.now 1)).2.2.2.1 then (41, T, none) else
 if (pickM (sideM (T.now 0)) (sideM (T.now 1))).2.2.2.1 = true then
  (if T.trimE (pickM (sideM (T.now 0)) (sideM (T.now 1))).1 (pickM (sideM (T.now 0)) (sideM (T.now 1))).2.2.1 ≠ 0 then (T.trimE (pickM (sideM (T.now 0)) (sideM (T.now 1))).1 (pickM (sideM (T.now 0)) (sideM (T.now 1))).2.2.1, T.trim (pickM (sideM (T.now 0)) (sideM (T.now 1))).1 (pickM (sideM (T.now 0)) (sideM (T.now 1))).2.2.1, none) else
  if (T.trim (pickM (sideM (T.now 0)) (sideM (T.now 1))).1 (pickM (sideM (T.now 0)) (sideM (T.now 1))).2.2.1).ready 0 ≠ 0 then ((T.trim (pickM (sideM (T.now 0)) (sideM (T.now 1))).1 (pickM (sideM (T.now 0)) (sideM (T.now 1))).2.2.1).ready 0, (T.trim (pickM (sideM (T.now 0)) (sideM (T.now 1))).1 (pickM (sideM (T.now 0)) (sideM (T.now 1))).2.2.1).sync, none) else
  (0, (T.trim (pickM (sideM (T.now 0)) (sideM (T.now 1))).1 (pickM (sideM (T.now 0)) (sideM (T.now 1))).2.2.1).sync, some ⟨(pickM (sideM (T.now 0)) (sideM (T.now 1))).1, (pickM (sideM (T.now 0)) (sideM (T.now 1))).2.2.2.2.1, (pickM (sideM (T.now 0)) (sideM (T.now 1))).2.1.drop 1, (pickM (sideM (T.now 0)) (sideM (T.now 1))).2.2.1, false⟩))
 else (0, T, some ⟨(pickM (sideM (T.now 0)) (sideM (T.now 1))).1, (pickM (sideM (T.now 0)) (sideM (T.now 1))).2.2.2.2.1, (pickM (sideM (T.now 0)) (sideM (T.now 1))).2.1.drop 1, (pickM (sideM (T.now 0)) (sideM (T.now 1))).2.2.1, false⟩)
end Go.Proofs.Ytmfmoddaejoekaa.P
end
section
/- Contracts, typed by hand: a journal: what it is; Size, Generation, Records, breaks. -/
set_option linter.unusedVariables false
set_option linter.unusedSimpArgs false
namespace Go.Proofs.Ytmfmoddaejoekaa.P
open Go.RowKit Go.Proofs.YtmfmoddaejoekaaW.PrintWords Go.Proofs.YtmfmoddaejoekaaW.PrintLast Go.Proofs.YtmfmoddaejoekaaW.PrintMore
abbrev RecR (v : Value) (L : List (List Int)) : Res := Res.rowq (Kd.slice 5 (Kd.int .u8)) 30 v L
abbrev JourC (gj gt : Nat) (v : Value) (side g size : Int) (L : List (List Int)) (br : Bool) : Res :=
 Res.obj gj 71 [.pointer (some ⟨gt, 0, none⟩), .int .i64 side, .int .i64 g, v, .int .i64 size, .bool br] [RecR v L]
def PJour (gj gt : Nat) (J : JM) : Res := Res.ex fun v => JourC gj gt v J.side J.g J.size J.L J.broken
theorem jour_open {gj gt : Nat} {J : JM} {ok : Nat → Prop} {W : World} (h : (PJour gj gt J).P ok W) : ∃ A c, (JourC gj gt (.slice A J.L.length c) J.side J.g J.size J.L J.broken).P ok W ∧ J.L.length ≤ c := by
 obtain ⟨v, hv⟩ := h
 obtain ⟨okv, hq, _⟩ := obj_get hv 0 rfl
 obtain ⟨A, c, ev, hc⟩ := Kd.Q_slice (show (Kd.slice 5 (Kd.int .u8)).Q 30 W 0 okv v J.L from hq)
 subst ev
 exact ⟨A, c, hv, hc⟩
theorem jour_mk {gj gt : Nat} {J : JM} {ok : Nat → Prop} {W : World} {v : Value} (h : (JourC gj gt v J.side J.g J.size J.L J.broken).P ok W) : (PJour gj gt J).P ok W := ⟨v, h⟩
theorem jour_blk {gj gt : Nat} {v : Value} {side g size : Int} {L : List (List Int)} {br : Bool} {ok : Nat → Prop} {W : World} (h : (JourC gj gt v side g size L br).P ok W) : W.heap[gj]? = some (.cells #[.pointer (some ⟨gt, 0, none⟩), .int .i64 side, .int .i64 g, v, .int .i64 size, .bool br] 71 (0, 0)) := obj_blk h
theorem jour_blk' {gj : Nat} {x0 x1 x2 x3 x4 x5 : Value} {Rs : List Res} {ok : Nat → Prop} {W : World} (h : (Res.obj gj 71 [x0, x1, x2, x3, x4, x5] Rs).P ok W) : W.heap[gj]? = some (.cells #[x0, x1, x2, x3, x4, x5] 71 (0, 0)) := obj_blk h
theorem jour_Size.calls (gj gt : Nat) (J : JM) (W : World) (ok : Nat → Prop) (hP : (PJour gj gt J).P ok W) :
  Calls Try.prog 17 #[.pointer (some ⟨gj, 0, none⟩)] W fun e W' => e = .returned (.int .i64 J.size) ∧ W = W' := by
 obtain ⟨A, c, hC, _⟩ := jour_open hP
 obtain ⟨x0, x1, x2, x3, x4, x5, _⟩ := blk_all6 (jour_blk hC)
 clear hP hC
 go_enter Try.func17, Try.ntmps17
 go_wp2_with fail
 go_ret
 exact ⟨rfl, rfl⟩
theorem jour_Generation.calls (gj gt : Nat) (J : JM) (W : World) (ok : Nat → Prop) (hP : (PJour gj gt J).P ok W) :
  Calls Try.prog 46 #[.pointer (some ⟨gj, 0, none⟩)] W fun e W' => e = .returned (.int .i64 J.g) ∧ W = W' := by
 obtain ⟨A, c, hC, _⟩ := jour_open hP
 obtain ⟨x0, x1, x2, x3, x4, x5, _⟩ := blk_all6 (jour_blk hC)
 clear hP hC
 go_enter Try.func46, Try.ntmps46
 go_wp2_with fail
 go_ret
 exact ⟨rfl, rfl⟩
set_option maxHeartbeats 4000000 in
theorem jour_Records.calls (gj gt : Nat) (J : JM) (W : World) (ok : Nat → Prop) (hP : (PJour gj gt J).P ok W) (hl : J.L.length ≤ 1000000) (hr : ∀ r ∈ J.L, r.length ≤ 100000) :
  Calls Try.prog 14 #[.pointer (some ⟨gj, 0, none⟩)] W fun e W' => ∃ v, e = .returned v ∧ (Kd.slice 5 (Kd.int .u8)).R 30 W' 0 (fun k => W.heap.size ≤ k) v J.L ∧ Below W.heap.size W W' := by
 obtain ⟨A, c, hC, hcap⟩ := jour_open hP
 obtain ⟨okv, hq, _⟩ := obj_get hC 0 rfl
 have HC := Aside0.mk (Kd.Q_reads' (show (Kd.slice 5 (Kd.int .u8)).Q 30 W 0 okv _ J.L from hq)).2.2
 obtain ⟨x0, x1, x2, x3, x4, x5, _⟩ := blk_all6 (jour_blk hC)
 obtain ⟨L, eL⟩ : ∃ L, J.L = L := ⟨_, rfl⟩
 rw [eL] at x3 hl hr HC hcap ⊢
 have HRL := Aside0.mk hr
 clear hP hC hq eL hr
 go_enter Try.func14, Try.ntmps14
 go_wp2_with fail
 clear x0 x1 x2 x3 x4 x5
 go_loopw [3, 11] (fun s3 s11 wr => ∃ j : Nat, j ≤ L.length ∧ s11 = .int .i64 (j : Int) ∧ Aside0 ((Kd.slice 5 (Kd.int .u8)).R 30 wr 0 (fun k => W.heap.size ≤ k) s3 (L.take j)) ∧ Aside0 (Below W.heap.size W wr)) (fun _ s11 _ => (L.length + 1 - (intOf s11).toNat))
 case atStart => exact ⟨0, Nat.zero_le _, rfl, ⟨Kd.R_nil _ _ _ _ _⟩, ⟨Below.refl _ _⟩⟩
 case round =>
  obtain ⟨j, hj, rfl, HR, HB⟩ := hrel
  by_cases hjl : j < L.length
  ·have b1 : decide ((j : Int) < (L.length : Int)) = true := decide_eq_true (by omega)
   obtain ⟨ad, A0, c0, eA, hc0, hl0, hCr⟩ := at_L2 (Kd.C_below HC.out HB.out) (j : Int) (by omega) (by omega)
   subst eA
   rw [Int.toNat_natCast] at hc0
   have hmem : rd_L2 L (j : Int) ∈ L := by simp [rd_L2, hjl]
   obtain ⟨r, er⟩ : ∃ r, rd_L2 L (j : Int) = r := ⟨_, rfl⟩
   rw [er] at hc0 hCr hmem
   have HCR := Aside0.mk hCr
   have HRR := Aside0.mk (HRL.out r hmem)
   have HTK := Aside0.mk (show L.take (j + 1) = L.take j ++ [r] by
    rw [List.take_add_one, List.getElem?_eq_getElem hjl, Option.toList_some, ← er]
    simp [rd_L2, hjl])
   have HLN := Aside0.mk (show ((L.take j).length + 1) * 24 ≤ 140737488355328 by rw [List.length_take]; omega)
   clear er hCr hmem hl0
   go_wp2_with fail
   refine (Clone8.calls A0 c0 r wr HCR.out (by have := HRR.out; omega)).mono ?_
   rintro e w1 ⟨v1, rfl, hR1, hB1⟩
   have HR1 := Aside0.mk hR1
   have HB1 := Aside0.mk hB1
   have HR2 := Aside0.mk (Kd.R_below HR.out hB1)
   obtain ⟨A1, c1, ev1⟩ := Kd.R_slice hR1
   subst ev1
   clear hR1 hB1 hc0
   go_wp2_with (at_builtin; refine Kd.R_append (Kd.slice 5 (Kd.int .u8)) (w0 := w1) 0 rfl (.tmp 15) (.tmp 18) 29 30 (.slice none 0 0) 24 rfl Try.underlying29 info30 rfl (by decide) (by decide) _ (L.take j) r [.slice A1 r.length c1] (fun k => W.heap.size ≤ k) (fun k => wr.heap.size ≤ k) rfl rfl ⟨_, rfl, HR1.out⟩ ?aK ?aF HR2.out (Below.refl _ _) (Nat.zero_le _) HLN.out ?_)
   case aK => exact fun k hk => ⟨Nat.le_trans HB.out.size hk, fun he => absurd (Kd.R_lt HR.out k he.symm) (Nat.not_lt.2 hk)⟩
   case aF => exact fun k hk => Nat.le_trans (Nat.le_trans HB.out.size HB1.out.size) hk
   intro v2 w2 hR3 _ hg3 _
   have HR3 := Aside0.mk (HTK.out.symm ▸ hR3)
   have HB3 := Aside0.mk (show Below W.heap.size W w2 from ((Keeps.of_below (below_step HB.out HB1.out) (fun _ => False)).then_ (Keeps.of_grown hg3) (fun k hk => .inr (HR2.out.1 k hk.symm))).belowF)
   clear hR3 hg3 HTK HR HR2 HR1 HB HB1
   go_wp2_with fail
   go_roundw
   case rel => exact ⟨j + 1, by omega, by simp, HR3, HB3⟩
   case measure => simp [intOf]; omega
  ·obtain rfl : j = L.length := by omega
   rw [List.take_length] at HR
   have b1 : decide ((L.length : Int) < (L.length : Int)) = false := decide_eq_false (by omega)
   clear hj hjl
   go_wp2_with fail
   go_ret
   exact ⟨_, rfl, HR.out, HB.out⟩
/-- The call that is deferred. -/
theorem jour_breaks.calls (gj ge : Nat) (err : Int) (W : World) (u : FrameMode) (h5 : W.cell? ⟨gj, 5, none⟩ = some (.bool false)) (f5 : W.frozen? ⟨gj, 5, none⟩ = false) (he : W.cell? ⟨ge, 0, none⟩ = some (.int .i64 err)) :
  CallsD Try.prog 43 #[.pointer (some ⟨gj, 0, none⟩), .pointer (some ⟨ge, 0, none⟩)] u W fun e u' W' => u' = u ∧ (e = .returned (.tuple #[]) ∧ W' = W.setCell ⟨gj, 5, none⟩ (.bool (brk err))) := by
 by_cases h0 : err = 0
 ·subst h0
  go_enter_d Try.func43, Try.ntmps43
  go_wp2_with fail
  go_end0
  exact ⟨rfl, rfl⟩
 have b0 : (err != 0) = true := by simp [h0]
 have c0 : (err == 0) = false := by simp [h0]
 by_cases h42 : err = 42
 ·subst h42
  clear h0
  go_enter_d Try.func43, Try.ntmps43
  go_wp2_with fail
  go_end0
  exact ⟨rfl, rfl⟩
 have b42 : (err != 42) = true := by simp [h42]
 have c42 : (err == 42) = false := by simp [h42]
 by_cases h1 : err = 1
 ·subst h1
  clear h0 h42
  go_enter_d Try.func43, Try.ntmps43
  go_wp2_with fail
  go_end0
  exact ⟨rfl, rfl⟩
 have b1 : (err != 1) = true := by simp [h1]
 have c1 : (err == 1) = false := by simp [h1]
 have HB := Aside0.mk (show brk err = true by unfold brk; simp [h0, h1, h42])
 clear h0 h1 h42
 go_enter_d Try.func43, Try.ntmps43
 go_wp2_with fail
 go_end0
 rw [HB.out]
 exact ⟨rfl, rfl⟩
end Go.Proofs.Ytmfmoddaejoekaa.P
end
