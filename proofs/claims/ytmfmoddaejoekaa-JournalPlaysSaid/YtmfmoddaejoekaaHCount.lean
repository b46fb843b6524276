/- Texts of this claim, laid into one. -/
import Derived.Test.YtmfmoddaejoekaaHFew
import Derived.Test.YtmfmoddaejoekaaP16
import Derived.Test.YtmfmoddaejoekaaHFrame
import Derived.Lib.SliceRun
section
/- Cursors, several at once: their methods. -/
namespace Go.Proofs.Ytmfmoddaejoekaa.P
open Go.RowKit Go.Proofs.YtmfmoddaejoekaaW.PrintWords Go.Proofs.YtmfmoddaejoekaaW.PrintLast Go.Proofs.YtmfmoddaejoekaaW.PrintMore
set_option linter.unusedVariables false
set_option linter.unusedSimpArgs false
theorem below_keep {w0 w w' : World} {g : Nat} (h : Below w0.heap.size w0 w) (hb : Below g w w') (hg : w0.heap.size ≤ g) : Below w0.heap.size w0 w' := h.trans (hb.mono hg)

theorem CurP_Number {W : World} {g : Nat} {b : List Int} {p e : Int} (h : CurP W g b p e) (a1 : Int) (a2 : Int) (r1 : Int) (r2 r3 : Int) (hf : wire_Cursor_Number.f b p e a1 a2 = some (r1, r2, r3)) :
  Calls Try.prog 77 #[.pointer (some ⟨g, 0, none⟩), .int .i64 a1, .int .i64 a2] W fun e w' => e = .returned (.int .i64 r1) ∧ CurP w' g b r2 r3 ∧ KeepBut W w' g none ∧ Below g W w' :=
 (wire_Cursor_Number.calls g b p e a1 a2 r1 r2 r3 (upTo W g) W h.isS h.isB hf).mono fun _ _ hq => ⟨hq.1, (h.ofS hq.2.1 hq.2.2.1 hq.2.2.2).1, hq.2.2.2, (h.ofS hq.2.1 hq.2.2.1 hq.2.2.2).2⟩

theorem CurP_End {W : World} {g : Nat} {b : List Int} {p e : Int} (h : CurP W g b p e) (r1 : Int) (r2 r3 : Int) (hf : wire_Cursor_End.f b p e = some (r1, r2, r3)) :
  Calls Try.prog 78 #[.pointer (some ⟨g, 0, none⟩)] W fun e w' => e = .returned (.int .i64 r1) ∧ CurP w' g b r2 r3 ∧ KeepBut W w' g none ∧ Below g W w' :=
 (wire_Cursor_End.calls g b p e r1 r2 r3 (upTo W g) W h.isS h.isB hf).mono fun _ _ hq => ⟨hq.1, (h.ofS hq.2.1 hq.2.2.1 hq.2.2.2).1, hq.2.2.2, (h.ofS hq.2.1 hq.2.2.1 hq.2.2.2).2⟩

theorem CurR_Number {W : World} {g : Nat} {b : List Int} {p e : Int} (h : CurR W g b p e) (a1 : Int) (a2 : Int) (r1 : Int) (r2 r3 : Int) (hf : liveryref03_Cursor_Number.f b p e a1 a2 = some (r1, r2, r3)) :
  Calls Try.prog 71 #[.pointer (some ⟨g, 0, none⟩), .int .i64 a1, .int .i64 a2] W fun e w' => e = .returned (.int .i64 r1) ∧ CurR w' g b r2 r3 ∧ KeepBut W w' g none ∧ Below g W w' :=
 (liveryref03_Cursor_Number.calls g b p e a1 a2 r1 r2 r3 (upTo W g) W h.isS h.isB hf).mono fun _ _ hq => ⟨hq.1, (h.ofS hq.2.1 hq.2.2.1 hq.2.2.2).1, hq.2.2.2, (h.ofS hq.2.1 hq.2.2.1 hq.2.2.2).2⟩

theorem CurR_End {W : World} {g : Nat} {b : List Int} {p e : Int} (h : CurR W g b p e) (r1 : Int) (r2 r3 : Int) (hf : liveryref03_Cursor_End.f b p e = some (r1, r2, r3)) :
  Calls Try.prog 72 #[.pointer (some ⟨g, 0, none⟩)] W fun e w' => e = .returned (.int .i64 r1) ∧ CurR w' g b r2 r3 ∧ KeepBut W w' g none ∧ Below g W w' :=
 (liveryref03_Cursor_End.calls g b p e r1 r2 r3 (upTo W g) W h.isS h.isB hf).mono fun _ _ hq => ⟨hq.1, (h.ofS hq.2.1 hq.2.2.1 hq.2.2.2).1, hq.2.2.2, (h.ofS hq.2.1 hq.2.2.1 hq.2.2.2).2⟩

end Go.Proofs.Ytmfmoddaejoekaa.P
end
section
/- The plain model of layer 17: what a side's bytes are. -/
set_option linter.unusedVariables false
set_option linter.unusedSimpArgs false
namespace Go.Proofs.Ytmfmoddaejoekaa.P
open Go.RowKit Go.Proofs.YtmfmoddaejoekaaW.PrintWords Go.Proofs.YtmfmoddaejoekaaW.PrintLast Go.Proofs.YtmfmoddaejoekaaW.PrintMore
/-- What a side's bytes begin with: the length that its first frame tells; 0: nothing, 1: torn, 2: wrong, 3: a frame. -/
def nJ (b : List Int) : Nat := (256 * rd b 0 + rd b 1).toNat
def nextJ (b : List Int) : Nat := if b.length = 0 then 0 else if b.length < 2 then 1 else if nJ b < 1 ∨ 8192 < nJ b then 2 else if b.length < nJ b + 4 then 1 else if (b.take (nJ b + 4)).drop (nJ b + 2) = putM (sumM (b.take (nJ b + 2))) then 3 else 2
def recJ (b : List Int) : List Int := (b.take (nJ b + 2)).drop 2
def readJ : Nat → List Int → List (List Int) × Nat × Nat
 | 0, _ => ([], 0, 0)
 | k + 1, b => if nextJ b = 3 then (recJ b :: (readJ k (b.drop (nJ b + 4))).1, nJ b + 4 + (readJ k (b.drop (nJ b + 4))).2.1, (readJ k (b.drop (nJ b + 4))).2.2) else ([], 0, nextJ b)
/-- A side's records, how many bytes they have, how it goes on. -/
def readA (b : List Int) : List (List Int) × Nat × Nat := readJ (b.length + 1) b
theorem next3 {b : List Int} (h : nextJ b = 3) : 1 ≤ nJ b ∧ nJ b ≤ 8192 ∧ nJ b + 4 ≤ b.length ∧ (b.take (nJ b + 4)).drop (nJ b + 2) = putM (sumM (b.take (nJ b + 2))) := by
 unfold nextJ at h
 by_cases h1 : b.length = 0
 ·rw [if_pos h1] at h; omega
 rw [if_neg h1] at h
 by_cases h2 : b.length < 2
 ·rw [if_pos h2] at h; omega
 rw [if_neg h2] at h
 by_cases h3 : nJ b < 1 ∨ 8192 < nJ b
 ·rw [if_pos h3] at h; omega
 rw [if_neg h3] at h
 by_cases h4 : b.length < nJ b + 4
 ·rw [if_pos h4] at h; omega
 rw [if_neg h4] at h
 by_cases h5 : (b.take (nJ b + 4)).drop (nJ b + 2) = putM (sumM (b.take (nJ b + 2)))
 ·exact ⟨by omega, by omega, by omega, h5⟩
 ·rw [if_neg h5] at h; omega
theorem readJ_fuel : ∀ (k j : Nat) (b : List Int), b.length < k → b.length < j → readJ k b = readJ j b
 | 0, _, _, h, _ => by omega
 | _, 0, _, _, h => by omega
 | k + 1, j + 1, b, h1, h2 => by
  simp only [readJ]
  by_cases h : nextJ b = 3
  ·have h3 := next3 h
   rw [if_pos h, if_pos h, readJ_fuel k j (b.drop (nJ b + 4)) (by rw [List.length_drop]; omega) (by rw [List.length_drop]; omega)]
  ·rw [if_neg h, if_neg h]
theorem readA_step {b : List Int} (h : nextJ b = 3) : readA b = (recJ b :: (readA (b.drop (nJ b + 4))).1, nJ b + 4 + (readA (b.drop (nJ b + 4))).2.1, (readA (b.drop (nJ b + 4))).2.2) := by
 have h3 := next3 h
 have h4 := readJ_fuel b.length ((b.drop (nJ b + 4)).length + 1) (b.drop (nJ b + 4)) (by rw [List.length_drop]; omega) (by omega)
 unfold readA
 rw [← h4]
 show (if nextJ b = 3 then _ else _) = _
 rw [if_pos h]
theorem readA_stop {b : List Int} (h : nextJ b ≠ 3) : readA b = ([], 0, nextJ b) := by
 unfold readA
 show (if nextJ b = 3 then _ else _) = _
 rw [if_neg h]
/-- .. with records ahead. -/
def glue (L : List (List Int)) (s : Nat) (r : List (List Int) × Nat × Nat) : List (List Int) × Nat × Nat := (L ++ r.1, s + r.2.1, r.2.2)
theorem glue_zero (r : List (List Int) × Nat × Nat) : glue [] 0 r = r := by unfold glue; simp
theorem glue_step (L : List (List Int)) (s : Nat) (b : List Int) (h : nextJ (b.drop s) = 3) : glue L s (readA (b.drop s)) = glue (L ++ [recJ (b.drop s)]) (s + (nJ (b.drop s) + 4)) (readA (b.drop (s + (nJ (b.drop s) + 4)))) := by
 rw [readA_step h, List.drop_drop]
 simp only [glue, List.append_assoc, List.singleton_append, Prod.mk.injEq, true_and]
 exact ⟨by omega, trivial⟩
theorem glue_stop (L : List (List Int)) (s : Nat) (b : List Int) (h : nextJ (b.drop s) ≠ 3) : glue L s (readA (b.drop s)) = (L, s, nextJ (b.drop s)) := by
 rw [readA_stop h]
 simp [glue]
/-- A head's record: its generation, how many records belong to it, the error behind them. -/
def headM (r : List Int) : Int × Int × Int :=
 ((numAt r 0 0 1 1099511627776).1, (numAt r (numAt r 0 0 1 1099511627776).2.1 (numAt r 0 0 1 1099511627776).2.2 0 4000).1,
 endAt r (numAt r (numAt r 0 0 1 1099511627776).2.1 (numAt r 0 0 1 1099511627776).2.2 0 4000).2.1 (numAt r (numAt r 0 0 1 1099511627776).2.1 (numAt r 0 0 1 1099511627776).2.2 0 4000).2.2)
/-- Of a side's records: are they right, and the generation (0: it does not count). -/
def countM (L : List (List Int)) : Bool × Int :=
 match L with
 | [] => (true, 0)
 | r :: L' => if (headM r).2.2 ≠ 0 then (false, 0) else if (headM r).2.1 < ((r :: L').length : Int) then (true, (headM r).1) else (true, 0)
/-- What 'parse' tells: records, bytes, torn, generation, right. -/
def sideM (b : List Int) : List (List Int) × Int × Bool × Int × Bool :=
 if (readA b).2.2 = 2 then ([], 0, false, 0, false) else ((readA b).1, ((readA b).2.1 : Int), decide ((readA b).2.2 = 1), (countM (readA b).1).2, (countM (readA b).1).1)
theorem okB_recJ {b : List Int} (h : okB b = true) : okB (recJ b) = true := okB_drop (okB_take h _) _
theorem recJ_len {b : List Int} (h : nextJ b = 3) : (recJ b).length = nJ b := by
 have := next3 h
 unfold recJ
 rw [List.length_drop, List.length_take]
 omega
end Go.Proofs.Ytmfmoddaejoekaa.P
end
section
/- Contracts, typed by hand: a cursor that begins. -/
namespace Go.Proofs.Ytmfmoddaejoekaa.P
open Go.RowKit Go.Proofs.YtmfmoddaejoekaaW.PrintWords Go.Proofs.YtmfmoddaejoekaaW.PrintLast Go.Proofs.YtmfmoddaejoekaaW.PrintMore
set_option linter.unusedVariables false
set_option linter.unusedSimpArgs false

theorem slices_Clone.calls (A : Option Addr) (c : Nat) (l : List Int) (w : World) (hr : Kd.C (Kd.int .u8) w A l.length l) (hl : l.length ≤ 140737488355327) :
  Calls Try.prog 42 #[.slice A l.length c] w fun e w' => ∃ A' c', e = .returned (.slice A' l.length c') ∧ l.length ≤ c' ∧ Kd.C (Kd.int .u8) w' A' l.length l ∧ Below w.heap.size w w' ∧ (∀ ad, A' = some ad → w.heap.size ≤ ad.block) ∧ (∀ ad, A' = some ad → 0 < l.length → ad.block < w'.heap.size) := by
 have hnil := fun W : World => Lib.run_eql_slice_nil (P := Try.prog) W 30 5 A l.length c 0 0 Try.underlying30
 have HR := Aside0.mk hr
 cases A with
 | none =>
  have h0 := C_none hr
  obtain rfl : l = [] := List.eq_nil_of_length_eq_zero h0
  clear hr h0 hnil
  have hnil := fun W : World => Lib.run_eql_slice_nil (P := Try.prog) W 30 5 none 0 c 0 0 Try.underlying30
  go_enter Try.func42, Try.ntmps42
  go_wp2_with fail
  go_ret
  exact ⟨none, 0, rfl, Nat.le_refl _, HR.out, Below.refl _ _, (fun ad h => by cases h), (fun ad h => by cases h)⟩
 | some ad =>
  clear hr
  go_enter Try.func42, Try.ntmps42
  have HO := Aside0.mk (own_lit w w.heap.size 5 .u8 [] (Nat.le_refl _) (by decide))
  go_wp2_with (at_builtin; refine print_append_row (w0 := w) w.heap.size rfl (.tmp 5) (.tmp 6) 30 5 .u8 1 rfl Try.underlying30 hinfo5 (by decide) (.slice (some ⟨w.heap.size, 0, none⟩) 0 0) [] l (some ad) l.length c rfl rfl HO.out ?c1 (below_alloc (Below.refl _ _) _) (by simp) ?c2 ?_)
  case c1 => exact Kd.reads_of_C (enc := Value.int .u8) (d := (0 : Int)) (h1 := fun _ => rfl) (Kd.C_alloc HR.out _)
  case c2 => simp only [List.length_nil]; omega
  intro v1 w1 hown hB hg hat
  clear hg hat HO
  obtain ⟨A1, c1, hv⟩ := own_slice hown
  subst hv
  have HR1 := Aside0.mk (Kd.R_reads' (R_of_ownsRow hown))
  have HBL := Aside0.mk (fun k hk => own_base hown k hk)
  have HLT := Aside0.mk (fun k hk => own_lt hown k hk)
  have HB := Aside0.mk hB
  clear hown hB
  go_wp2_with fail
  go_ret
  exact ⟨A1, c1, rfl, HR1.out.2.1, HR1.out.2.2, HB.out, (fun ad h => HBL.out ad.block (by rw [h]; rfl)), (fun ad h _ => HLT.out ad.block (by rw [h]; rfl))⟩
/-- The post of 'New'. -/
def NewPost (l : List Int) (w : World) (e : Ending) (w' : World) : Prop := ∃ g : Nat, e = .returned (.pointer (some ⟨g, 0, none⟩)) ∧ w.heap.size ≤ g ∧ CurP w' g l 0 0 ∧ Below w.heap.size w w'
theorem wire_New.calls (A : Option Addr) (c : Nat) (l : List Int) (w : World) (hr : Kd.C (Kd.int .u8) w A l.length l) (hl : l.length ≤ 140737488355327) :
  Calls Try.prog 76 #[.slice A l.length c] w (NewPost l w) := by
 have HC := Aside0.mk (slices_Clone.calls A c l w hr hl)
 clear hr
 go_enter Try.func76, Try.ntmps76
 go_wp2_with fail
 refine HC.out.mono ?_
 rintro e w1 ⟨A', c', rfl, hc, hC, hB, hlo, hhi⟩
 have HH := Aside0.mk (And.intro hc (And.intro hC (And.intro hB (And.intro hlo hhi))))
 clear hc hC hB hlo hhi
 go_wp2_with fail
 go_ret
 have hh := HH.out
 exact ⟨w1.heap.size, rfl, hh.2.2.1.size, CurP.new w1 A' c' l 0 0 hh.2.1 hh.1, below_alloc hh.2.2.1 _⟩
end Go.Proofs.Ytmfmoddaejoekaa.P
end
section
/- Contracts, typed by hand: a side's head. -/
set_option linter.unusedVariables false
set_option linter.unusedSimpArgs false
namespace Go.Proofs.Ytmfmoddaejoekaa.P
open Go.RowKit Go.Proofs.YtmfmoddaejoekaaW.PrintWords Go.Proofs.YtmfmoddaejoekaaW.PrintLast Go.Proofs.YtmfmoddaejoekaaW.PrintMore
set_option maxHeartbeats 4000000 in
set_option maxRecDepth 100000 in
theorem side_count.calls (g : Nat) (A : Option Addr) (c : Nat) (L : List (List Int)) (s : Int) (torn : Bool) (W : World) (hg : W.heap[g]? = some (.cells #[.slice A L.length c, .int .i64 s, .bool torn, .int .i64 0] 64 (0, 0)))
  (hC : Kd.C (Kd.slice 5 (Kd.int .u8)) W A L.length L) (hok : ∀ r ∈ L, okB r = true ∧ r.length ≤ 8192) (hl : L.length ≤ 1000000) :
  Calls Try.prog 66 #[.pointer (some ⟨g, 0, none⟩)] W fun e W' => e = .returned (.bool (countM L).1) ∧ Keeps W W' (fun k => k = g) ∧ W'.heap[g]? = some (.cells #[.slice A L.length c, .int .i64 s, .bool torn, .int .i64 (countM L).2] 64 (0, 0)) := by
 obtain ⟨x0, x1, x2, x3, f0, f1, f2, f3⟩ := blk_all4 hg
 have HG := Aside0.mk hg
 cases L with
 | nil =>
  clear hg hC hok hl
  go_enter Try.func66, Try.ntmps66
  go_wp2_with fail
  go_ret
  exact ⟨rfl, Keeps.refl _ _, HG.out⟩
 | cons r L' =>
  obtain ⟨ad, A0, c0, eA, hc0, hl0, hCr⟩ := at_L2 hC 0 (by omega) (by simp only [List.length_cons]; omega)
  have er : rd_L2 (r :: L') 0 = r := rfl
  rw [er] at hc0 hl0 hCr
  rw [show ad.add (0 : Int).toNat = ad by simp [Addr.add]] at hc0
  subst eA
  have hr := hok r (by simp)
  obtain ⟨n, en⟩ : ∃ n, (r :: L').length = n := ⟨_, rfl⟩
  have HN := Aside0.mk (show 1 ≤ n by rw [← en, List.length_cons]; omega)
  have b0 : ((n : Int) == 0) = false := by have := HN.out; simp; omega
  have n0 : (0 : Int) < (n : Int) := by have := HN.out; omega
  have n1 : decide ((0 : Int) < (n : Int)) = true := decide_eq_true n0
  have n2 : 0 < n := HN.out
  have HCM := Aside0.mk (show countM (r :: L') = if (headM r).2.2 ≠ 0 then (false, 0) else if (headM r).2.1 < (n : Int) then (true, (headM r).1) else (true, 0) by rw [← en]; rfl)
  have HOK := Aside0.mk hr.1
  have HRL := Aside0.mk hr.2
  have HCR := Aside0.mk hCr
  rw [en] at x0 HG ⊢
  have hp1 := numAt_place r 0 0 1 1099511627776 hr.1 (by omega) (by omega) (by omega)
  obtain ⟨t1, et1⟩ : ∃ t, numAt r 0 0 1 1099511627776 = t := ⟨_, rfl⟩
  rw [et1] at hp1
  have hp2 := numAt_place r t1.2.1 t1.2.2 0 4000 hr.1 hp1.1 hp1.2 (by omega)
  obtain ⟨t2, et2⟩ : ∃ t, numAt r t1.2.1 t1.2.2 0 4000 = t := ⟨_, rfl⟩
  rw [et2] at hp2
  have HF1 := Aside0.mk (show wire_Cursor_Number.f r 0 0 1 1099511627776 = some (t1.1, t1.2.1, t1.2.2) by unfold wire_Cursor_Number.f; rw [if_pos hr.1, if_pos (by omega), if_pos (by omega), et1])
  have HF2 := Aside0.mk (show wire_Cursor_Number.f r t1.2.1 t1.2.2 0 4000 = some (t2.1, t2.2.1, t2.2.2) by unfold wire_Cursor_Number.f; rw [if_pos hr.1, if_pos hp1.1, if_pos hp1.2, et2])
  have HF3 := Aside0.mk (show wire_Cursor_End.f r t2.2.1 t2.2.2 = some (endAt r t2.2.1 t2.2.2, t2.2.1, t2.2.2) by unfold wire_Cursor_End.f; rw [if_pos hp2.1, if_pos hp2.2])
  have HH := Aside0.mk (show headM r = (t1.1, t2.1, endAt r t2.2.1 t2.2.2) by unfold headM; rw [et1, et2])
  obtain ⟨gn, egn⟩ : ∃ x, t1.1 = x := ⟨_, rfl⟩
  obtain ⟨m, em⟩ : ∃ x, t2.1 = x := ⟨_, rfl⟩
  obtain ⟨q, eq_⟩ : ∃ x, endAt r t2.2.1 t2.2.2 = x := ⟨_, rfl⟩
  rw [egn] at HF1 HH
  rw [em] at HF2 HH
  rw [eq_] at HF3 HH
  rw [HH.out] at HCM
  clear hg hC hok hl hr hCr er hp1 hp2 et1 et2 egn em eq_ en HH
  go_enter Try.func66, Try.ntmps66
  go_wp2_with fail
  refine (wire_New.calls A0 c0 r W HCR.out (by have := HRL.out; omega)).mono ?_
  rintro e w1 ⟨gc, rfl, hge, hp, hb⟩
  have HP := Aside0.mk hp
  have HGE := Aside0.mk hge
  have HB := Aside0.mk hb
  clear hp hb hge
  go_wp2_with fail
  refine (CurP_Number HP.out _ _ _ _ _ HF1.out).mono ?_
  rintro e w2 ⟨rfl, hp, hk, hb⟩
  have HP2 := Aside0.mk hp
  have HB2 := Aside0.mk (below_keep HB.out hb HGE.out)
  clear hp hb hk HB HP
  go_wp2_with fail
  refine (CurP_Number HP2.out _ _ _ _ _ HF2.out).mono ?_
  rintro e w3 ⟨rfl, hp, hk, hb⟩
  have HP3 := Aside0.mk hp
  have HB3 := Aside0.mk (below_keep HB2.out hb HGE.out)
  clear hp hb hk HB2 HP2
  go_wp2_with fail
  refine (CurP_End HP3.out _ _ _ HF3.out).mono ?_
  rintro e w4 ⟨rfl, hp, hk, hb⟩
  have HB4 := Aside0.mk (below_keep HB3.out hb HGE.out)
  clear hp hb hk HB3 HP3
  have hg4 := (HB4.out.block g (blk_lt HG.out)).trans HG.out
  have HG4 := Aside0.mk hg4
  obtain ⟨y0, y1, y2, y3, p0, p1, p2, p3⟩ := blk_all4 hg4
  clear x0 x1 x2 x3 f0 f1 f2 f3 hg4
  by_cases hq : q ≠ 0
  ·have b1 : (q != 0) = true := by simp [hq]
   have b2 : (q == 0) = false := by simp [hq]
   have HR := Aside0.mk (HCM.out.trans (if_pos hq))
   clear hq
   go_wp2_with fail
   go_ret
   exact ⟨by rw [HR.out]; rfl, Keeps.of_below HB4.out _, by rw [HR.out]; exact HG4.out⟩
  ·have b1 : (q != 0) = false := by simpa using hq
   have b2 : (q == 0) = true := by simpa using hq
   have HR := Aside0.mk (HCM.out.trans (if_neg hq))
   clear hq
   by_cases hm : m < (n : Int)
   ·have b3 : decide (m < (n : Int)) = true := decide_eq_true hm
    have HR2 := Aside0.mk (HR.out.trans (if_pos hm))
    clear hm
    go_wp2_with fail
    go_ret
    exact ⟨by rw [HR2.out]; rfl, (Keeps.set (S := fun k => k = g) (Keeps.of_below HB4.out _) (p := ⟨g, 3, none⟩) (.inl rfl) _), by rw [HR2.out]; exact blk_put HG4.out 3 _ rfl⟩
   ·have b3 : decide (m < (n : Int)) = false := decide_eq_false hm
    have HR2 := Aside0.mk (HR.out.trans (if_neg hm))
    clear hm
    go_wp2_with fail
    go_ret
    exact ⟨by rw [HR2.out]; rfl, Keeps.of_below HB4.out _, by rw [HR2.out]; exact HG4.out⟩
end Go.Proofs.Ytmfmoddaejoekaa.P
end
