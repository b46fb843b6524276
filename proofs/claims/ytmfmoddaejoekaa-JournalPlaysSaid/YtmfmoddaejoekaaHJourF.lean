/- Texts of this claim, laid into one. -/
import Derived.Test.YtmfmoddaejoekaaP15
import Derived.Test.YtmfmoddaejoekaaHLook
import Derived.Test.YtmfmoddaejoekaaP6
import Derived.Test.YtmfmoddaejoekaaP17
import Derived.Test.YtmfmoddaejoekaaHCursorR
import Derived.Test.YtmfmoddaejoekaaHJourA
section
/- Written by a program of this session's, for this claim: the functions that the law reaches, their contracts, the law's row. Not trusted: it is checked as any text. -/
namespace Go.Proofs.Ytmfmoddaejoekaa.P
open Go.RowKit Go.Proofs.YtmfmoddaejoekaaW.PrintWords Go.Proofs.YtmfmoddaejoekaaW.PrintLast Go.Proofs.YtmfmoddaejoekaaW.PrintMore
attribute [local go_sem] max2_int min2_int max_two min_two max_three min_three max_four min_four   -- for this text's walks alone
set_option linter.unusedVariables false
set_option linter.unusedSimpArgs false

/-! ### liveryref01_Same: function 45 -/
def liveryref01_Same.l0 : Nat → List Int → List Int → Int → Option (Bool)
 | 0, _, _, _ => none
 | k + 1, x0, x1, x5 => if x5 < (x0.length : Int) then (if 0 ≤ x5 then (if x5 < (x1.length : Int) then (if (rd x0 x5) = (rd x1 x5) then (liveryref01_Same.l0 k x0 x1 (wrap64 (x5 + 1))) else (some false)) else (none)) else (none)) else (some true)
def liveryref01_Same.f (k : Nat) (l0 : List Int) (l1 : List Int) : Option (Bool) := if (l0.length : Int) = (l1.length : Int) then (liveryref01_Same.l0 k l0 l1 0) else (some false)
set_option maxHeartbeats 8000000 in
set_option maxRecDepth 100000 in
theorem liveryref01_Same.calls (k : Nat) (A0 : Option Addr) (c0 : Nat) (l0 : List Int) (A1 : Option Addr) (c1 : Nat) (l1 : List Int) (r : Bool) (w : World) (hr0 : Kd.C (Kd.int .u8) w A0 l0.length l0) (hc0 : l0.length ≤ c0) (hr1 : Kd.C (Kd.int .u8) w A1 l1.length l1) (hc1 : l1.length ≤ c1) (h : liveryref01_Same.f k l0 l1 = some r) :
  Calls Try.prog 45 #[.slice A0 l0.length c0, .slice A1 l1.length c1] w fun e w' => e = .returned (.bool r) ∧ Drawn0 w w' := by
 have HR0 := Aside0.mk hr0
 have HC0 := Aside0.mk hc0
 clear hr0 hc0
 have HR1 := Aside0.mk hr1
 have HC1 := Aside0.mk hc1
 clear hr1 hc1
 have H : (if (l0.length : Int) = (l1.length : Int) then (liveryref01_Same.l0 k l0 l1 0) else (some false)) = some r := h
 clear h
 by_cases c3 : (l0.length : Int) = (l1.length : Int)
 ·rw [if_pos c3] at H
  have c3b0 : ((l0.length : Int) == (l1.length : Int)) = true := beq_iff_eq.mpr c3
  have c3b1 : ((l0.length : Int) != (l1.length : Int)) = false := bne_eq_false_iff_eq.mpr c3
  have c3b2 : (l0.length == l1.length) = true := by first | simpa using c3 | (simp at c3 ⊢; omega)
  clear c3
  have H' := Aside0.mk H
  clear H
  go_enter Try.func45, Try.ntmps45
  go_wp2
  repeat (go_quiet (fail); try go_wp2)
  go_loopg [5] k (fun kq v5 w' => ∃ (x5_1 : Int), v5 = .int .i64 x5_1 ∧ Aside0 (liveryref01_Same.l0 kq l0 l1 x5_1 = some r) ∧ Aside0 (kq ≤ k) ∧ Drawn0 w w')
  case atStart => exact ⟨(0), (by first | rfl | (simp; done) | (simp [*]; done)), H', ⟨Nat.le_refl _⟩, by repeat (first | exact Drawn0.refl _ | apply Drawn0.step)⟩
  case round =>
   clear H'
   try clear c1
   try clear p2
   try clear c3
   try clear c3b0
   try clear c3b1
   try clear c3b2
   obtain ⟨x5_1, rfl, HA, HK1, ⟨m1, rfl⟩⟩ := hrel
   cases gk with
   | zero => exact absurd HA.out (by simp [liveryref01_Same.l0])
   | succ k1 =>
    have H := HA.out
    clear HA
    simp only [liveryref01_Same.l0] at H
    by_cases c4 : x5_1 < (l0.length : Int)
    ·rw [if_pos c4] at H
     have c4b0 : decide (x5_1 < (l0.length : Int)) = true := decide_eq_true c4
     clear c4
     by_cases c5 : 0 ≤ x5_1
     ·rw [if_pos c5] at H
      have c5b0 : decide (0 ≤ x5_1) = true := decide_eq_true c5
      clear c5
      by_cases c6 : x5_1 < (l1.length : Int)
      ·rw [if_pos c6] at H
       have c6b0 : decide (x5_1 < (l1.length : Int)) = true := decide_eq_true c6
       clear c6
       by_cases c7 : (rd l0 x5_1) = (rd l1 x5_1)
       ·rw [if_pos c7] at H
        have c7b0 : ((rd l0 x5_1) == (rd l1 x5_1)) = true := beq_iff_eq.mpr c7
        have c7b1 : ((rd l0 x5_1) != (rd l1 x5_1)) = false := bne_eq_false_iff_eq.mpr c7
        clear c7
        have H' := Aside0.mk H
        clear H
        have p130 : 0 ≤ (x5_1 : Int) := of_decide_eq_true (by first | (with_reducible assumption) | assumption)
        have q130 : x5_1 < (l0.length : Int) := of_decide_eq_true (by first | (with_reducible assumption) | assumption)
        obtain ⟨ad130, e130, hx130_0⟩ := Kd.at_int HR0.out x5_1 p130 q130
        cases e130
        replace p130 := eq_true p130
        replace q130 := eq_true q130
        have p131 : 0 ≤ (x5_1 : Int) := of_decide_eq_true (by first | (with_reducible assumption) | assumption)
        have q131 : x5_1 < (l1.length : Int) := of_decide_eq_true (by first | (with_reducible assumption) | assumption)
        obtain ⟨ad131, e131, hx131_0⟩ := Kd.at_int HR1.out x5_1 p131 q131
        cases e131
        replace p131 := eq_true p131
        replace q131 := eq_true q131
        go_wp2
        repeat (go_quiet (fail); try go_wp2)
        go_roundg k1
        case measure => have := HK1.out; omega
        case rel => exact ⟨(wrap64 (x5_1 + 1)), (by first | rfl | (simp; done) | (simp [*]; done)), H', ⟨by have := HK1.out; omega⟩, by repeat (first | exact Drawn0.refl _ | apply Drawn0.step)⟩
       ·rw [if_neg c7] at H
        have c7b0 : ((rd l0 x5_1) == (rd l1 x5_1)) = false := beq_eq_false_iff_ne.mpr c7
        have c7b1 : ((rd l0 x5_1) != (rd l1 x5_1)) = true := bne_iff_ne.mpr c7
        obtain rfl := Option.some.inj H
        have p130 : 0 ≤ (x5_1 : Int) := of_decide_eq_true (by first | (with_reducible assumption) | assumption)
        have q130 : x5_1 < (l0.length : Int) := of_decide_eq_true (by first | (with_reducible assumption) | assumption)
        obtain ⟨ad130, e130, hx130_0⟩ := Kd.at_int HR0.out x5_1 p130 q130
        cases e130
        replace p130 := eq_true p130
        replace q130 := eq_true q130
        have p131 : 0 ≤ (x5_1 : Int) := of_decide_eq_true (by first | (with_reducible assumption) | assumption)
        have q131 : x5_1 < (l1.length : Int) := of_decide_eq_true (by first | (with_reducible assumption) | assumption)
        obtain ⟨ad131, e131, hx131_0⟩ := Kd.at_int HR1.out x5_1 p131 q131
        cases e131
        replace p131 := eq_true p131
        replace q131 := eq_true q131
        go_wp2
        repeat (go_quiet (fail); try go_wp2)
        go_ret
        exact ⟨by first | rfl | (simp; done) | (simp [*]; done), by repeat (first | exact Drawn0.refl _ | apply Drawn0.step)⟩
      ·rw [if_neg c6] at H
       exact absurd H (by simp)
     ·rw [if_neg c5] at H
      exact absurd H (by simp)
    ·rw [if_neg c4] at H
     have c4b0 : decide (x5_1 < (l0.length : Int)) = false := decide_eq_false c4
     clear c4
     obtain rfl := Option.some.inj H
     go_wp2
     repeat (go_quiet (fail); try go_wp2)
     go_ret
     exact ⟨by first | rfl | (simp; done) | (simp [*]; done), by repeat (first | exact Drawn0.refl _ | apply Drawn0.step)⟩
 ·rw [if_neg c3] at H
  have c3b0 : ((l0.length : Int) == (l1.length : Int)) = false := beq_eq_false_iff_ne.mpr c3
  have c3b1 : ((l0.length : Int) != (l1.length : Int)) = true := bne_iff_ne.mpr c3
  have c3b2 : (l0.length == l1.length) = false := by first | simpa using c3 | (simp at c3 ⊢; omega)
  obtain rfl := Option.some.inj H
  go_enter Try.func45, Try.ntmps45
  go_wp2
  repeat (go_quiet (fail); try go_wp2)
  go_ret
  exact ⟨by first | rfl | (simp; done) | (simp [*]; done), by repeat (first | exact Drawn0.refl _ | apply Drawn0.step)⟩

end Go.Proofs.Ytmfmoddaejoekaa.P
end
section
/- The plain law of layer 3: numbers and texts as bytes. -/
namespace Go.Proofs.Ytmfmoddaejoekaa.P
open Go.RowKit Go.Proofs.YtmfmoddaejoekaaW.PrintWords Go.Proofs.YtmfmoddaejoekaaW.PrintLast Go.Proofs.YtmfmoddaejoekaaW.PrintMore
set_option linter.unusedVariables false
set_option linter.unusedSimpArgs false
theorem ref_Number_loop (l : List Int) (hl : l.length + 16 ≤ 140737488355328) : ∀ (d k n : Nat) (acc : List Int), (digs n).length = d → d + 1 < k → n ≤ 9223372036854775807 → acc.length + d ≤ 8 →
  liveryref03_Number.l0 k l (n : Int) acc = some (l ++ [(((digs n ++ acc).length : Nat) : Int)] ++ (digs n ++ acc)) := by
 intro d
 induction d with
 | zero =>
  intro k n acc hd hk hn ha
  obtain ⟨k, rfl⟩ : ∃ m, k = m + 1 := ⟨k - 1, by omega⟩
  have h0 : n = 0 := by
   by_cases h : n = 0
   ·exact h
   ·rw [digs_succ n h] at hd; simp at hd
  subst h0
  simp only [liveryref03_Number.l0, digs_zero, List.nil_append, List.length_nil]
  rw [if_neg (by omega), if_pos (by omega)]
  simp only [Option.bind_some]
  rw [if_pos (by omega)]
  simp only [Option.bind_some, List.length_append, List.length_cons, List.length_nil]
  rw [if_pos (by omega), Int.emod_eq_of_lt (by omega) (by omega)]
 | succ d ih =>
  intro k n acc hd hk hn ha
  obtain ⟨k, rfl⟩ : ∃ m, k = m + 1 := ⟨k - 1, by omega⟩
  have h0 : n ≠ 0 := by intro h; subst h; rw [digs_zero] at hd; simp at hd
  have hs := digs_succ n h0
  have hd2 : (digs (n / 256)).length = d := by rw [hs] at hd; simp at hd; exact hd
  simp only [liveryref03_Number.l0, List.length_nil, List.nil_append]
  rw [if_pos (by omega), if_pos (by omega)]
  simp only [Option.bind_some, List.length_cons, List.length_nil]
  rw [if_pos (by omega)]
  have e1 : Int.tmod (n : Int) 256 % 256 = ((n % 256 : Nat) : Int) := by rw [Int.tmod_eq_emod_of_nonneg (by omega)]; omega
  have e2 : wrap64 (Int.tdiv (n : Int) 256) = ((n / 256 : Nat) : Int) := by rw [Int.tdiv_eq_ediv_of_nonneg (by omega)]; unfold wrap64; omega
  rw [e1, e2]
  clear e1 e2
  have hle : ([((n % 256 : Nat) : Int)] ++ acc).length + d ≤ 8 := by rw [List.length_append, List.length_singleton]; omega
  have hi := ih k (n / 256) ([((n % 256 : Nat) : Int)] ++ acc) hd2 (by omega) (by omega) hle
  have e3 : digs (n / 256) ++ ([((n % 256 : Nat) : Int)] ++ acc) = digs n ++ acc := by rw [hs, List.append_assoc]
  rw [e3] at hi
  exact hi
theorem ref_Number (k : Nat) (l : List Int) (a : Int) (hl : l.length + 16 ≤ 140737488355328) (ha : a ≤ 9223372036854775807) (hk : 20 < k) : liveryref03_Number.f k l a = some (l ++ numB a) := by
 obtain ⟨k, rfl⟩ : ∃ m, k = m + 1 := ⟨k - 1, by omega⟩
 have key : ∀ n : Nat, n ≤ 9223372036854775807 → liveryref03_Number.j0 (k + 1) l (n : Int) = some (l ++ numB (n : Int)) := by
  intro n hn
  simp only [liveryref03_Number.j0]
  have h8 := digs_le8 n hn
  rw [ref_Number_loop l hl _ k n [] rfl (by omega) hn (by simpa using h8)]
  simp only [List.append_nil, numB, Int.toNat_natCast, digs_length n n (Nat.le_refl _) (by omega), List.append_assoc, List.singleton_append]
 unfold liveryref03_Number.f
 by_cases h : a < 0
 ·rw [if_pos h, numB_neg (by omega)]
  exact key 0 (by omega)
 ·rw [if_neg h]
  obtain ⟨n, rfl⟩ := Int.eq_ofNat_of_zero_le (show 0 ≤ a by omega)
  exact key n (by omega)
theorem prog_Number (l : List Int) (a : Int) (hl : l.length + 16 ≤ 140737488355328) (ha : a ≤ 9223372036854775807) : wire_Number.f l a = some (l ++ numB a) := by
 unfold wire_Number.f; rw [if_pos hl, if_pos ha]
end Go.Proofs.Ytmfmoddaejoekaa.P
end
section
/- The plain law of layer 3: what is put is read again, what is cut is too short, no other bytes say the same. -/
namespace Go.Proofs.Ytmfmoddaejoekaa.P
open Go.RowKit Go.Proofs.YtmfmoddaejoekaaW.PrintWords Go.Proofs.YtmfmoddaejoekaaW.PrintLast Go.Proofs.YtmfmoddaejoekaaW.PrintMore
set_option linter.unusedVariables false
set_option linter.unusedSimpArgs false
theorem val_digs : ∀ (f n : Nat), n ≤ f → val 0 (digs n) = (n : Int) := by
 intro f
 induction f with
 | zero => intro n hn; obtain rfl : n = 0 := by omega
           rfl
 | succ f ih =>
  intro n hn
  by_cases h : n = 0
  ·subst h; rfl
  ·rw [digs_succ n h, val_snoc, ih (n / 256) (by omega)]; omega
theorem getD_append_left (l m : List Int) (h : l ≠ []) : (l ++ m).getD 0 0 = l.getD 0 0 := by
 cases l with
 | nil => exact absurd rfl h
 | cons x t => rfl
theorem digs_ne (n : Nat) (h : n ≠ 0) : digs n ≠ [] := by rw [digs_succ n h]; simp
theorem digs_first : ∀ (f n : Nat), n ≤ f → n ≠ 0 → (digs n).getD 0 0 ≠ 0 := by
 intro f
 induction f with
 | zero => intro n hn h; omega
 | succ f ih =>
  intro n hn h
  rw [digs_succ n h]
  by_cases h2 : n / 256 = 0
  ·rw [h2, digs_zero]; simp; omega
  ·rw [getD_append_left _ _ (digs_ne _ h2)]; exact ih _ (by omega) h2
theorem digs_top (n : Nat) (hn : n ≤ 9223372036854775807) (h8 : (digs n).length = 8) : (digs n).getD 0 0 ≤ 127 := by
 have hv := val_digs n n (Nat.le_refl _)
 have hb := digs_byte n n (Nat.le_refl _)
 generalize digs n = l at *
 match l, h8 with
 | x :: t, h8 =>
  have hx := hb x (by simp)
  have := val_ge t (256 * 0 + x) (fun y hy => hb y (by simp [hy])) (by omega)
  rw [show t.length = 7 by simpa using h8] at this
  simp only [val] at hv
  simp only [List.getD_cons_zero]
  have hc : cap 7 = 72057594037927936 := by decide
  rw [hc] at this
  omega
theorem lookB_numB (a : Int) (z : List Int) (h0 : 0 ≤ a) (h1 : a ≤ 9223372036854775807) : lookB (numB a ++ z) = (a, ((numB a).length : Int), 0) := by
 obtain ⟨n, rfl⟩ : ∃ n : Nat, a = (n : Int) := ⟨a.toNat, by omega⟩
 have hl := digs_length n n (Nat.le_refl _) (by omega)
 have h8 := digs_le8 n (by omega)
 unfold numB
 rw [Int.toNat_natCast, List.cons_append]
 rw [lookB_yes (by omega) (by rw [List.length_append]; omega) ?_]
 ·rw [Int.toNat_natCast, List.take_left' (by omega), val_digs n n (Nat.le_refl _), List.length_cons, hl]
  simp
 ·rintro (⟨h2, h3⟩ | ⟨h2, h3⟩)
  ·have hn : n ≠ 0 := by rintro rfl; rw [numLen_zero] at h2; omega
   rw [getD_append_left _ _ (digs_ne n hn)] at h3
   exact digs_first n n (Nat.le_refl _) hn h3
  ·have hn : n ≠ 0 := by rintro rfl; rw [numLen_zero] at h2; omega
   rw [getD_append_left _ _ (digs_ne n hn)] at h3
   have := digs_top n (by omega) (by omega)
   omega
theorem okB_append {a b : List Int} (ha : okB a = true) (hb : okB b = true) : okB (a ++ b) = true := okB_of fun x hx => (List.mem_append.1 hx).elim (okB_mem ha x) (okB_mem hb x)
theorem okB_numB (a : Int) (h : a ≤ 9223372036854775807) : okB (numB a) = true := okB_of fun x hx => by
 have hl := digs_length a.toNat a.toNat (Nat.le_refl _) (by omega)
 have h8 := digs_le8 a.toNat (by omega)
 unfold numB at hx
 rcases List.mem_cons.1 hx with h | h
 ·subst h; omega
 ·exact digs_byte _ _ (Nat.le_refl _) x h
end Go.Proofs.Ytmfmoddaejoekaa.P
end
section
/- Contracts, typed by hand: are all records records. -/
set_option linter.unusedVariables false
set_option linter.unusedSimpArgs false
namespace Go.Proofs.Ytmfmoddaejoekaa.P
open Go.RowKit Go.Proofs.YtmfmoddaejoekaaW.PrintWords Go.Proofs.YtmfmoddaejoekaaW.PrintLast Go.Proofs.YtmfmoddaejoekaaW.PrintMore
theorem renew1.calls (A : Option Addr) (c : Nat) (r : List Int) (W : World) (hC : Kd.C (Kd.int .u8) W A r.length r) (hc : r.length ≤ c) :
  Calls Try.prog 38 #[.slice A r.length c] W fun e W' => e = .returned (.bool (!(isRec r))) ∧ Drawn0 W W' := by
 have HI := Aside0.mk (journal_is.calls A c r (isRec r) W hC hc (is_eq r))
 clear hC hc
 obtain ⟨b, hb⟩ : ∃ b, isRec r = b := ⟨_, rfl⟩
 rw [hb] at HI ⊢
 clear hb
 go_enter Try.func38, Try.ntmps38
 go_wp2_with fail
 refine HI.out.mono ?_
 rintro e w' ⟨rfl, hd⟩
 have HD := Aside0.mk hd
 clear hd HI
 cases b with
 | true =>
  go_wp2_with fail
  go_ret
  exact ⟨rfl, HD.out⟩
 | false =>
  go_wp2_with fail
  go_ret
  exact ⟨rfl, HD.out⟩
theorem drawn_trans {w w1 w2 : World} (h : Drawn0 w w1) (k : Drawn0 w1 w2) : Drawn0 w w2 := by
 obtain ⟨⟨m, rfl⟩⟩ := k
 exact h.step m
set_option maxHeartbeats 2000000 in
theorem indexFunc.calls (A : Option Addr) (c : Nat) (L : List (List Int)) (W : World) (hC : Kd.C (Kd.slice 5 (Kd.int .u8)) W A L.length L) (hl : L.length ≤ 1000000) :
  Calls Try.prog 67 #[.slice A L.length c, .func (.func 38) #[] #[]] W fun e W' => ∃ q : Int, e = .returned (.int .i64 q) ∧ (0 ≤ q ↔ ¬ (∀ r ∈ L, isRec r = true)) ∧ Drawn0 W W' := by
 have HC := Aside0.mk hC
 clear hC
 go_enter Try.func67, Try.ntmps67
 go_wp2_with fail
 go_loopw [8] (fun s8 wr => ∃ j : Nat, j ≤ L.length ∧ s8 = .int .i64 (j : Int) ∧ Aside0 (∀ r ∈ L.take j, isRec r = true) ∧ Aside0 (Drawn0 W wr)) (fun s8 _ => (L.length + 1 - (intOf s8).toNat))
 case atStart => exact ⟨0, Nat.zero_le _, rfl, ⟨by simp⟩, ⟨Drawn0.refl _⟩⟩
 case round =>
  obtain ⟨j, hj, rfl, HA, HD⟩ := hrel
  by_cases hjl : j < L.length
  ·have b1 : decide ((j : Int) < (L.length : Int)) = true := decide_eq_true (by omega)
   obtain ⟨ad, A0, c0, eA, hc0, hl0, hCr⟩ := at_L2 (Kd.C_below HC.out HD.out.below) (j : Int) (by omega) (by omega)
   subst eA
   rw [Int.toNat_natCast] at hc0
   have hmem : rd_L2 L (j : Int) ∈ L := by simp [rd_L2, hjl]
   have htk : L.take (j + 1) = L.take j ++ [rd_L2 L (j : Int)] := by
    rw [List.take_add_one, List.getElem?_eq_getElem hjl, Option.toList_some]
    simp [rd_L2, hjl]
   obtain ⟨r, er⟩ : ∃ r, rd_L2 L (j : Int) = r := ⟨_, rfl⟩
   rw [er] at hc0 hl0 hCr hmem htk
   have HCR := Aside0.mk hCr
   have HL0 := Aside0.mk hl0
   have HMM := Aside0.mk hmem
   have HTK := Aside0.mk htk
   clear er hCr hl0 hmem htk
   go_wp2_with fail
   refine (renew1.calls A0 c0 r wr HCR.out HL0.out).mono ?_
   rintro e w1 ⟨rfl, hd⟩
   have HD1 := Aside0.mk (drawn_trans HD.out hd)
   obtain ⟨b, hb⟩ : ∃ b, isRec r = b := ⟨_, rfl⟩
   have HB := Aside0.mk hb
   rw [hb]
   clear hb hd HD
   cases b with
   | true =>
    go_wp2_with fail
    go_roundw
    case rel => exact ⟨j + 1, by omega, by simp, ⟨by rw [HTK.out]; intro x hx; rcases List.mem_append.1 hx with h | h; exact HA.out x h; rw [List.mem_singleton.1 h]; exact HB.out⟩, HD1⟩
    case measure => simp [intOf]; omega
   | false =>
    go_wp2_with fail
    go_ret
    exact ⟨_, rfl, ⟨fun _ hh => (by have := hh r HMM.out; rw [HB.out] at this; cases this), fun _ => by omega⟩, HD1.out⟩
  ·obtain rfl : j = L.length := by omega
   rw [List.take_length] at HA
   have b1 : decide ((L.length : Int) < (L.length : Int)) = false := decide_eq_false (by omega)
   clear hj hjl
   go_wp2_with fail
   go_ret
   exact ⟨_, rfl, ⟨fun h => by omega, fun h => absurd HA.out h⟩, HD.out⟩
theorem containsFunc.calls (A : Option Addr) (c : Nat) (L : List (List Int)) (W : World) (hC : Kd.C (Kd.slice 5 (Kd.int .u8)) W A L.length L) (hl : L.length ≤ 1000000) :
  Calls Try.prog 37 #[.slice A L.length c, .func (.func 38) #[] #[]] W fun e W' => e = .returned (.bool (decide (¬ (∀ r ∈ L, isRec r = true)))) ∧ Drawn0 W W' := by
 have HI := Aside0.mk (indexFunc.calls A c L W hC hl)
 clear hC hl
 go_enter Try.func37, Try.ntmps37
 go_wp2_with fail
 refine HI.out.mono ?_
 rintro e w' ⟨q, rfl, hq, hd⟩
 have HD := Aside0.mk hd
 have HQ := Aside0.mk hq
 clear hd hq HI
 go_wp2_with fail
 go_ret
 refine ⟨?_, HD.out⟩
 rw [show decide (¬ (∀ r ∈ L, isRec r = true)) = decide (0 ≤ q) from decide_eq_decide.2 HQ.out.symm]
 rfl
theorem head_eq (g n : Int) (hg : 0 ≤ g ∧ g ≤ 9223372036854775807) (hn : 0 ≤ n ∧ n ≤ 9223372036854775807) : journal_head.f g n = some (headR g n) := by
 unfold journal_head.f headR
 rw [prog_Number [] g (by decide) hg.2, List.nil_append, Option.bind_some, prog_Number (numB g) n (by have := numB_length g hg.2; omega) hn.2]
 rfl
theorem headR_len (g n : Int) (hg : g ≤ 9223372036854775807) (hn : n ≤ 9223372036854775807) : (headR g n).length ≤ 18 := by
 have h1 := numB_length g hg
 have h2 := numB_length n hn
 unfold headR
 rw [List.length_append]
 omega
end Go.Proofs.Ytmfmoddaejoekaa.P
end
