/- Contracts, typed by hand, of layer 3's cursors. -/
import Derived.Test.YtmfmoddaejoekaaHLook
import Derived.Test.YtmfmoddaejoekaaP6
import Derived.Deep.QuietTactic
import Derived.BigQuiet
import Derived.Outline
import Derived.Test.YtmfmoddaejoekaaP15
namespace Go.Proofs.Ytmfmoddaejoekaa.P
open Go.RowKit Go.Proofs.YtmfmoddaejoekaaW.PrintWords Go.Proofs.YtmfmoddaejoekaaW.PrintLast Go.Proofs.YtmfmoddaejoekaaW.PrintMore
set_option linter.unusedVariables false
set_option linter.unusedSimpArgs false
attribute [local go_sem] max2_int min2_int max_two min_two max_three min_three max_four min_four

def NumPost (b : List Int) (w : World) (e : Ending) (w' : World) : Prop := e = .returned (.tuple #[.int .i64 (lookB b).1, .int .i64 (lookB b).2.1, .int .i64 (lookB b).2.2]) ∧ w = w'
theorem numPost_of {b : List Int} {w : World} {x y z : Int} (h : lookB b = (x, y, z)) : NumPost b w (.returned (.tuple #[.int .i64 x, .int .i64 y, .int .i64 z])) w := by unfold NumPost; rw [h]; exact ⟨rfl, rfl⟩
theorem wire_number_nil (A : Option Addr) (c : Nat) (w : World) : Calls Try.prog 83 #[.slice A 0 c] w (NumPost [] w) := by
 go_enter Try.func83, Try.ntmps83
 go_wp2
 go_ret3
 exact numPost_of lookB_nil
set_option maxHeartbeats 2000000 in
theorem wire_number_cons (A : Option Addr) (c : Nat) (m : Nat) (t : List Int) (w : World) (hr : Kd.C (Kd.int .u8) w A ((m : Int) :: t).length ((m : Int) :: t)) (hc : ((m : Int) :: t).length ≤ c) (hb : okB ((m : Int) :: t) = true) :
  Calls Try.prog 83 #[.slice A (t.length + 1) c] w (NumPost ((m : Int) :: t) w) := by
 have HR := Aside0.mk hr
 have HC := Aside0.mk hc
 have hmax := C_max hr
 simp only [List.length_cons] at hmax hc
 have hbm := okB_mem hb
 have hx := hbm (m : Int) (by simp)
 have HBM := Aside0.mk hbm
 clear hb hbm
 obtain ⟨ad, rfl, hx0⟩ := Kd.at_int hr 0 (by omega) (by simp only [List.length_cons]; omega)
 clear hr
 rw [show rd ((m : Int) :: t) 0 = (m : Int) from rfl] at hx0
 have hx0' : w.cell? ad = some (.int .u8 (m : Int)) := by simpa [Addr.add] using hx0
 clear hx0
 have hne : (((t.length : Int) + 1) == 0) = false := by simp; omega
 by_cases h1 : 8 < m
 ·go_enter Try.func83, Try.ntmps83
  go_wp2
  go_ret3
  exact numPost_of (lookB_bad (by omega))
 ·by_cases h2 : t.length < m
  ·go_enter Try.func83, Try.ntmps83
   go_wp2
   go_ret3
   exact numPost_of (lookB_short (by omega) (by omega))
  ·have H2 : Aside0 (m ≤ t.length) := ⟨by omega⟩
   obtain ⟨i0, hi0, hsz⟩ : ∃ i : TypeInfo, Try.prog.info? 5 = some i ∧ i.size = 1 := by
    obtain ⟨i0, hi, hzz⟩ := Option.map_eq_some_iff.1 hinfo5
    simp only [Prod.mk.injEq] at hzz
    exact ⟨i0, hi, hzz.2.1⟩
   have hcut := cut_mid (P := Try.prog) 30 5 .i64 .i64 Try.underlying30 hi0 1 hsz (some ad) (t.length + 1) c 1 ((m : Int) + 1) (by omega) (by omega) (by omega) (by omega)
   have hmid := Kd.C_mid (k := Kd.int .u8) (lo := 1) (hi := m + 1) HR.out (by omega) (by simp only [List.length_cons]; omega) HC.out
   rw [show (1 : Int).toNat = 1 from rfl] at hcut
   rw [show (Kd.int .u8).sz = 1 from rfl] at hmid
   obtain ⟨A', hA'⟩ : ∃ A', (if c = 1 then some ad else (some ad).map (·.add (1 * 1))) = A' := ⟨_, rfl⟩
   rw [hA', show ((m : Int) + 1).toNat - 1 = m by omega] at hcut
   rw [hA', show (((m : Int) :: t).take (m + 1)).drop 1 = t.take m from rfl] at hmid
   have HT : Aside0 (Kd.C (Kd.int .u8) w A' m (t.take m)) := by
    have e : (t.take m).length = m := by rw [List.length_take]; have := H2.out; omega
    rw [e] at hmid
    exact ⟨hmid⟩
   clear hmid hA' hi0 hsz
   by_cases h0 : m = 0
   ·have HM := Aside0.mk h0
    have hm0 : m ≤ 0 := by omega
    clear h0
    have H127 : Aside0 (m = 8 → (t.take m).getD 0 0 ≤ 127) := ⟨by omega⟩
    have HF : Aside0 (lookB ((m : Int) :: t) = (val 0 (t.take m), (m : Int) + 1, 0)) := by
     have := lookB_yes (x := (m : Int)) (t := t) (by omega) (by omega) (by rintro (⟨h, _⟩ | ⟨h, _⟩) <;> omega)
     rw [Int.toNat_natCast] at this
     exact ⟨this⟩
    have hm8 : ((m : Int) == 8) = false := by simp; omega
    go_enter Try.func83, Try.ntmps83
    go_wp2_with fail
    go_loop [6, 53] (fun s6 s53 => ∃ i : Nat, i ≤ m ∧ s53 = .int .i64 (i : Int) ∧ s6 = .int .i64 (val 0 ((t.take m).take i))) (fun _ s53 => m - (intOf s53).toNat)
    case atStart => exact ⟨0, by omega, rfl, rfl⟩
    case round =>
     obtain ⟨i, hi, rfl, rfl⟩ := hrel
     by_cases hlt : i < m
     ·have hlm : (t.take m).length = m := HT.out.1
      have hmem : ∀ z ∈ t.take m, 0 ≤ z ∧ z ≤ 255 := fun z hz => HBM.out z (by simp [List.mem_of_mem_take hz])
      have hs := val_small (t.take m) hmem (by omega) (fun h8 => H127.out (by omega)) i (by omega)
      have hv := val_take (t.take m) i (by omega)
      have hd := hmem _ (List.getElem_mem (show i < (t.take m).length by omega))
      obtain ⟨ad2, e2, hcell⟩ := Kd.at_int HT.out (i : Int) (by omega) (by omega)
      cases e2
      rw [Int.toNat_natCast] at hcell
      have hrd : rd (t.take m) (i : Int) = (t.take m)[i]'(by omega) := by simp only [rd, Int.toNat_natCast, List.getD_eq_getElem?_getD, List.getElem?_eq_getElem (show i < (t.take m).length by omega), Option.getD_some]
      rw [hrd] at hcell
      obtain ⟨n, hn⟩ : ∃ n, val 0 ((t.take m).take i) = n := ⟨_, rfl⟩
      obtain ⟨d, hdd⟩ : ∃ d, (t.take m)[i]'(by omega) = d := ⟨_, rfl⟩
      rw [hn] at hs hv ⊢
      rw [hdd] at hcell hd hv
      have HV := Aside0.mk hv
      have hor := or_byte n d hs.1 hs.2 hd.1 hd.2
      rw [w64' (by omega) (by omega), w64' (by omega) (by omega)] at hor
      clear hv hn hdd hrd hmem hlm
      go_wp2_with fail
      go_round
      case rel => exact ⟨i + 1, by omega, by go_num, by rw [HV.out]⟩
      case measure => simp [intOf]; omega
     ·obtain rfl : i = m := by omega
      go_wp2_with fail
      go_ret3
      exact numPost_of (by rw [List.take_of_length_le (by rw [List.length_take]; omega)]; exact HF.out)
   ·obtain ⟨y, s, hys⟩ : ∃ y s, t = y :: s := by
     cases t with
     | nil => simp at h2; omega
     | cons y s => exact ⟨y, s, rfl⟩
    obtain ⟨ad', e', hy0⟩ := Kd.at_int HR.out 1 (by omega) (by simp only [List.length_cons]; omega)
    cases e'
    have ey : rd ((m : Int) :: t) 1 = y := by rw [hys]; rfl
    rw [ey] at hy0
    have hy1 : w.cell? ⟨ad.block, ad.off + 1, none⟩ = some (.int .u8 y) := by simpa [Addr.add] using hy0
    have hy := HBM.out y (by rw [hys]; simp)
    have HY : Aside0 (t.getD 0 0 = y) := ⟨by rw [hys]; rfl⟩
    have HY2 : Aside0 ((t.take m).getD 0 0 = y) := ⟨by
     obtain ⟨m', hm'⟩ : ∃ m', m = m' + 1 := ⟨m - 1, by omega⟩
     rw [hys, hm']; rfl⟩
    clear hys ey hy0
    by_cases h3 : y = 0
    ·have hyb : (y == 0) = true := by simp [h3]
     have H3 := Aside0.mk h3
     clear h3
     go_enter Try.func83, Try.ntmps83
     go_wp2
     go_ret3
     exact numPost_of (lookB_no (by omega) (by omega) (.inl ⟨by omega, HY.out.trans H3.out⟩))
    ·have hyb : (y == 0) = false := by simp [h3]
     by_cases h4 : m = 8
     ·have hm8 : ((m : Int) == 8) = true := by simp; omega
      have H8 := Aside0.mk h4
      have hm8a : 8 ≤ m := by omega
      clear h4
      by_cases h5 : 127 < y
      ·go_enter Try.func83, Try.ntmps83
       go_wp2
       go_ret3
       exact numPost_of (lookB_no (by omega) (by omega) (.inr ⟨by have := H8.out; omega, by rw [HY.out]; exact h5⟩))
      ·have H127 : Aside0 (m = 8 → (t.take m).getD 0 0 ≤ 127) := ⟨fun _ => by rw [HY2.out]; omega⟩
       have HF : Aside0 (lookB ((m : Int) :: t) = (val 0 (t.take m), (m : Int) + 1, 0)) := by
        have := lookB_yes (x := (m : Int)) (t := t) (by omega) (by omega) (by rw [HY.out]; rintro (⟨_, h⟩ | ⟨_, h⟩) <;> omega)
        rw [Int.toNat_natCast] at this
        exact ⟨this⟩
       clear h3
       go_enter Try.func83, Try.ntmps83
       go_wp2_with fail
       go_loop [6, 53] (fun s6 s53 => ∃ i : Nat, i ≤ m ∧ s53 = .int .i64 (i : Int) ∧ s6 = .int .i64 (val 0 ((t.take m).take i))) (fun _ s53 => m - (intOf s53).toNat)
       case atStart => exact ⟨0, by omega, rfl, rfl⟩
       case round =>
        obtain ⟨i, hi, rfl, rfl⟩ := hrel
        by_cases hlt : i < m
        ·have hlm : (t.take m).length = m := HT.out.1
         have hmem : ∀ z ∈ t.take m, 0 ≤ z ∧ z ≤ 255 := fun z hz => HBM.out z (by simp [List.mem_of_mem_take hz])
         have hs := val_small (t.take m) hmem (by omega) (fun h8 => H127.out (by omega)) i (by omega)
         have hv := val_take (t.take m) i (by omega)
         have hd := hmem _ (List.getElem_mem (show i < (t.take m).length by omega))
         obtain ⟨ad2, e2, hcell⟩ := Kd.at_int HT.out (i : Int) (by omega) (by omega)
         cases e2
         rw [Int.toNat_natCast] at hcell
         have hrd : rd (t.take m) (i : Int) = (t.take m)[i]'(by omega) := by simp only [rd, Int.toNat_natCast, List.getD_eq_getElem?_getD, List.getElem?_eq_getElem (show i < (t.take m).length by omega), Option.getD_some]
         rw [hrd] at hcell
         obtain ⟨n, hn⟩ : ∃ n, val 0 ((t.take m).take i) = n := ⟨_, rfl⟩
         obtain ⟨d, hdd⟩ : ∃ d, (t.take m)[i]'(by omega) = d := ⟨_, rfl⟩
         rw [hn] at hs hv ⊢
         rw [hdd] at hcell hd hv
         have HV := Aside0.mk hv
         have hor := or_byte n d hs.1 hs.2 hd.1 hd.2
         rw [w64' (by omega) (by omega), w64' (by omega) (by omega)] at hor
         clear hv hn hdd hrd hmem hlm
         go_wp2_with fail
         go_round
         case rel => exact ⟨i + 1, by omega, by go_num, by rw [HV.out]⟩
         case measure => simp [intOf]; omega
        ·obtain rfl : i = m := by omega
         go_wp2_with fail
         go_ret3
         exact numPost_of (by rw [List.take_of_length_le (by rw [List.length_take]; omega)]; exact HF.out)
     ·have hm8 : ((m : Int) == 8) = false := by simp; omega
      have H127 : Aside0 (m = 8 → (t.take m).getD 0 0 ≤ 127) := ⟨fun h => absurd h h4⟩
      have HF : Aside0 (lookB ((m : Int) :: t) = (val 0 (t.take m), (m : Int) + 1, 0)) := by
       have := lookB_yes (x := (m : Int)) (t := t) (by omega) (by omega) (by rw [HY.out]; rintro (⟨_, h⟩ | ⟨h, _⟩) <;> omega)
       rw [Int.toNat_natCast] at this
       exact ⟨this⟩
      clear h3 h4
      go_enter Try.func83, Try.ntmps83
      go_wp2_with fail
      go_loop [6, 53] (fun s6 s53 => ∃ i : Nat, i ≤ m ∧ s53 = .int .i64 (i : Int) ∧ s6 = .int .i64 (val 0 ((t.take m).take i))) (fun _ s53 => m - (intOf s53).toNat)
      case atStart => exact ⟨0, by omega, rfl, rfl⟩
      case round =>
       obtain ⟨i, hi, rfl, rfl⟩ := hrel
       by_cases hlt : i < m
       ·have hlm : (t.take m).length = m := HT.out.1
        have hmem : ∀ z ∈ t.take m, 0 ≤ z ∧ z ≤ 255 := fun z hz => HBM.out z (by simp [List.mem_of_mem_take hz])
        have hs := val_small (t.take m) hmem (by omega) (fun h8 => H127.out (by omega)) i (by omega)
        have hv := val_take (t.take m) i (by omega)
        have hd := hmem _ (List.getElem_mem (show i < (t.take m).length by omega))
        obtain ⟨ad2, e2, hcell⟩ := Kd.at_int HT.out (i : Int) (by omega) (by omega)
        cases e2
        rw [Int.toNat_natCast] at hcell
        have hrd : rd (t.take m) (i : Int) = (t.take m)[i]'(by omega) := by simp only [rd, Int.toNat_natCast, List.getD_eq_getElem?_getD, List.getElem?_eq_getElem (show i < (t.take m).length by omega), Option.getD_some]
        rw [hrd] at hcell
        obtain ⟨n, hn⟩ : ∃ n, val 0 ((t.take m).take i) = n := ⟨_, rfl⟩
        obtain ⟨d, hdd⟩ : ∃ d, (t.take m)[i]'(by omega) = d := ⟨_, rfl⟩
        rw [hn] at hs hv ⊢
        rw [hdd] at hcell hd hv
        have HV := Aside0.mk hv
        have hor := or_byte n d hs.1 hs.2 hd.1 hd.2
        rw [w64' (by omega) (by omega), w64' (by omega) (by omega)] at hor
        clear hv hn hdd hrd hmem hlm
        go_wp2_with fail
        go_round
        case rel => exact ⟨i + 1, by omega, by go_num, by rw [HV.out]⟩
        case measure => simp [intOf]; omega
       ·obtain rfl : i = m := by omega
        go_wp2_with fail
        go_ret3
        exact numPost_of (by rw [List.take_of_length_le (by rw [List.length_take]; omega)]; exact HF.out)
theorem wire_number.calls (A0 : Option Addr) (c0 : Nat) (l0 : List Int) (w : World) (hr0 : Kd.C (Kd.int .u8) w A0 l0.length l0) (hc0 : l0.length ≤ c0) (hb : okB l0 = true) :
  Calls Try.prog 83 #[.slice A0 l0.length c0] w (NumPost l0 w) := by
 cases l0 with
 | nil => exact wire_number_nil A0 c0 w
 | cons x t =>
  have hx := okB_mem hb x (by simp)
  obtain ⟨m, rfl⟩ := Int.eq_ofNat_of_zero_le hx.1
  exact wire_number_cons A0 c0 m t w hr0 hc0 hb

theorem drop_C {w : World} {A : Option Addr} {b : List Int} {c q : Nat} (h : Kd.C (Kd.int .u8) w A b.length b) (hq : q ≤ b.length) (hc : b.length ≤ c) : Kd.C (Kd.int .u8) w (if c = q then A else A.map (·.add (q * 1))) (b.drop q).length (b.drop q) := Kd.C_drop h hq hc
theorem hcut_from (q : Nat) (A : Option Addr) (n c : Nat) (h : q ≤ n) : ∀ W : World, (Instr.slice 30 (.slice A n c) (some (.int .i64 (q : Int))) none none).run Try.prog W = .ok (.slice (if c = q then A else A.map (·.add (q * 1))) (n - q) (c - q)) W := by
 intro W
 obtain ⟨i0, hi, hzz⟩ := Option.map_eq_some_iff.1 hinfo5
 simp only [Prod.mk.injEq] at hzz
 have := cut_from (P := Try.prog) 30 5 .i64 Try.underlying30 hi 1 hzz.2.1 A n c (q : Int) (by omega) (by omega)
 simpa using this W
theorem wire_left.calls (g : Nat) (A : Option Addr) (b : List Int) (c q : Nat) (e : Int) (w : World) (hG : w.heap[g]? = some (.cells #[.slice A b.length c, .int .i64 (q : Int), .int .i64 e] 115 (0, 0))) (hq : q ≤ b.length) :
  Calls Try.prog 84 #[.pointer (some ⟨g, 0, none⟩)] w fun e w' => e = .returned (.slice (if c = q then A else A.map (·.add (q * 1))) (b.drop q).length (c - q)) ∧ ∃ n, w' = w.drewN n := by
 have hc0 := cellS115_0 hG
 have hc1 := cellS115_1 hG
 have hcut := hcut_from q A b.length c hq
 obtain ⟨A', hA'⟩ : ∃ A', (if c = q then A else A.map (·.add (q * 1))) = A' := ⟨_, rfl⟩
 rw [hA'] at hcut ⊢
 rw [List.length_drop]
 clear hG hA'
 go_enter Try.func84, Try.ntmps84
 go_wp2_with fail
 go_quiet (fail)
 go_wp2_with fail
 go_ret
 exact ⟨rfl, _, rfl⟩
def numAt (b : List Int) (p e least most : Int) : Int × Int × Int :=
 if e = 0 then (if (lookB (b.drop p.toNat)).2.2 = 0 then (if (lookB (b.drop p.toNat)).1 < least then (0, p, 2) else if most < (lookB (b.drop p.toNat)).1 then (0, p, 2) else ((lookB (b.drop p.toNat)).1, wrap64 (p + (lookB (b.drop p.toNat)).2.1), 0)) else (0, p, (lookB (b.drop p.toNat)).2.2)) else (0, p, e)
def wire_Cursor_Number.f (b : List Int) (p e a1 a2 : Int) : Option (Int × Int × Int) := if okB b = true then (if 0 ≤ p then (if p ≤ (b.length : Int) then some (numAt b p e a1 a2) else none) else none) else none
set_option maxHeartbeats 1000000 in
theorem wire_Cursor_Number.calls (g : Nat) (s0_0 : List Int) (s0_1 : Int) (s0_2 : Int) (a1 : Int) (a2 : Int) (r1 : Int) (r2 : Int) (r3 : Int) (w0 w : World) (hI : IsS115 w0 w g s0_0 s0_1 s0_2) (hB : Below w0.heap.size w0 w) (h : wire_Cursor_Number.f s0_0 s0_1 s0_2 a1 a2 = some (r1, r2, r3)) :
  Calls Try.prog 77 #[.pointer (some ⟨g, 0, none⟩), .int .i64 a1, .int .i64 a2] w fun e w' => e = .returned (.int .i64 r1) ∧ IsS115 w0 w' g s0_0 r2 r3 ∧ Below w0.heap.size w0 w' ∧ KeepBut w w' g none := by
 unfold wire_Cursor_Number.f at h
 by_cases ho : okB s0_0 = true
 case neg => rw [if_neg ho] at h; cases h
 rw [if_pos ho] at h
 by_cases hp0 : 0 ≤ s0_1
 case neg => rw [if_neg hp0] at h; cases h
 rw [if_pos hp0] at h
 by_cases hp1 : s0_1 ≤ (s0_0.length : Int)
 case neg => rw [if_neg hp1] at h; cases h
 rw [if_pos hp1] at h
 obtain ⟨q, rfl⟩ := Int.eq_ofNat_of_zero_le hp0
 have HI0 := Aside0.mk hI
 have HK := Aside0.mk (KeepBut.refl w g none)
 have HB := Aside0.mk hB
 clear hI hB
 obtain ⟨A, c, HG, hg, HS⟩ := HI0.out
 have HC := Aside0.mk hg.2
 have hc0 := cellS115_0 HG
 have hc1 := cellS115_1 HG
 have hc2 := cellS115_2 HG
 have hf1 := blk_frozen HG 1
 have hf2 := blk_frozen HG 2
 have HR : Aside0 (Kd.C (Kd.int .u8) w A s0_0.length s0_0) := ⟨Kd.C_below HS HB.out⟩
 have hmax : Aside0 (s0_0.length ≤ 9223372036854775807) := ⟨C_max HS⟩
 by_cases he : s0_2 = 0
 ·subst he
  unfold numAt at h
  rw [if_pos rfl] at h
  rw [Int.toNat_natCast] at h
  have hq : q ≤ s0_0.length := by omega
  have hlf := wire_left.calls g A s0_0 c q 0 w HG hq
  have hd := drop_C HR.out hq HC.out
  have hok := okB_drop ho q
  have hcd : (s0_0.drop q).length ≤ c - q := by have := HC.out; rw [List.length_drop]; omega
  obtain ⟨A', hA'⟩ : ∃ A', (if c = q then A else A.map (·.add (q * 1))) = A' := ⟨_, rfl⟩
  obtain ⟨d, hdd⟩ : ∃ d, s0_0.drop q = d := ⟨_, rfl⟩
  obtain ⟨cc, hcc⟩ : ∃ cc, c - q = cc := ⟨_, rfl⟩
  rw [hA', hdd] at hd hlf
  rw [hdd] at hok hcd h
  rw [hcc] at hcd hlf
  have HLF := Aside0.mk hlf
  have HD := Aside0.mk hd
  have HOK := Aside0.mk hok
  have HCd := Aside0.mk hcd
  clear hlf hd hok hcd hA' hdd hcc HG hg HS ho hp0 hp1
  obtain ⟨n, u, e1, hl⟩ : ∃ n u e1, lookB d = (n, u, e1) := ⟨_, _, _, rfl⟩
  rw [hl] at h
  have HL := Aside0.mk hl
  clear hl
  by_cases h1 : e1 = 0
  ·subst h1
   rw [if_pos rfl] at h
   by_cases h2 : n < a1
   ·rw [if_pos h2] at h
    cases h
    go_enter Try.func77, Try.ntmps77
    go_wp2_with fail
    refine HLF.out.mono ?_
    rintro e w' ⟨rfl, nl, rfl⟩
    go_wp2_with fail
    refine (wire_number.calls A' cc d _ (Kd.C_drewN HD.out _) HCd.out HOK.out).mono ?_
    rintro e w' hnp
    unfold NumPost at hnp
    obtain ⟨rfl, rfl⟩ := hnp
    rw [HL.out]
    go_wp2_with fail
    go_ret
    exact ⟨rfl, by repeat (first | (with_reducible first | exact HI0.out | apply IsS115.alloc | apply IsS115.drewN | apply IsS115.drew | apply IsS115.set_1 | apply IsS115.set_2) | exact HI0.out), by repeat (first | (with_reducible first | exact HB.out | apply below_alloc | apply pw_below_drewN | apply below_drew1 | refine below_set ?_ (IsS115.ge HI0.out)) | exact HB.out), by repeat (first | (with_reducible first | exact HK.out | apply KeepBut.set_ | apply keep_drewN | apply keep_drew | apply keep_alloc) | exact HK.out)⟩
   ·rw [if_neg h2] at h
    by_cases h3 : a2 < n
    ·rw [if_pos h3] at h
     cases h
     go_enter Try.func77, Try.ntmps77
     go_wp2_with fail
     refine HLF.out.mono ?_
     rintro e w' ⟨rfl, nl, rfl⟩
     go_wp2_with fail
     refine (wire_number.calls A' cc d _ (Kd.C_drewN HD.out _) HCd.out HOK.out).mono ?_
     rintro e w' hnp
     unfold NumPost at hnp
     obtain ⟨rfl, rfl⟩ := hnp
     rw [HL.out]
     go_wp2_with fail
     go_ret
     exact ⟨rfl, by repeat (first | (with_reducible first | exact HI0.out | apply IsS115.alloc | apply IsS115.drewN | apply IsS115.drew | apply IsS115.set_1 | apply IsS115.set_2) | exact HI0.out), by repeat (first | (with_reducible first | exact HB.out | apply below_alloc | apply pw_below_drewN | apply below_drew1 | refine below_set ?_ (IsS115.ge HI0.out)) | exact HB.out), by repeat (first | (with_reducible first | exact HK.out | apply KeepBut.set_ | apply keep_drewN | apply keep_drew | apply keep_alloc) | exact HK.out)⟩
    ·rw [if_neg h3] at h
     cases h
     go_enter Try.func77, Try.ntmps77
     go_wp2_with fail
     refine HLF.out.mono ?_
     rintro e w' ⟨rfl, nl, rfl⟩
     go_wp2_with fail
     refine (wire_number.calls A' cc d _ (Kd.C_drewN HD.out _) HCd.out HOK.out).mono ?_
     rintro e w' hnp
     unfold NumPost at hnp
     obtain ⟨rfl, rfl⟩ := hnp
     rw [HL.out]
     go_wp2_with fail
     go_ret
     exact ⟨rfl, by repeat (first | (with_reducible first | exact HI0.out | apply IsS115.alloc | apply IsS115.drewN | apply IsS115.drew | apply IsS115.set_1 | apply IsS115.set_2) | exact HI0.out), by repeat (first | (with_reducible first | exact HB.out | apply below_alloc | apply pw_below_drewN | apply below_drew1 | refine below_set ?_ (IsS115.ge HI0.out)) | exact HB.out), by repeat (first | (with_reducible first | exact HK.out | apply KeepBut.set_ | apply keep_drewN | apply keep_drew | apply keep_alloc) | exact HK.out)⟩
  ·rw [if_neg h1] at h
   cases h
   have h1a : (e1 == 0) = false := by simp [h1]
   have h1b : (e1 != 0) = true := by simp [h1]
   clear h1
   go_enter Try.func77, Try.ntmps77
   go_wp2_with fail
   refine HLF.out.mono ?_
   rintro e w' ⟨rfl, nl, rfl⟩
   go_wp2_with fail
   refine (wire_number.calls A' cc d _ (Kd.C_drewN HD.out _) HCd.out HOK.out).mono ?_
   rintro e w' hnp
   unfold NumPost at hnp
   obtain ⟨rfl, rfl⟩ := hnp
   rw [HL.out]
   go_wp2_with fail
   go_ret
   exact ⟨rfl, by repeat (first | (with_reducible first | exact HI0.out | apply IsS115.alloc | apply IsS115.drewN | apply IsS115.drew | apply IsS115.set_1 | apply IsS115.set_2) | exact HI0.out), by repeat (first | (with_reducible first | exact HB.out | apply below_alloc | apply pw_below_drewN | apply below_drew1 | refine below_set ?_ (IsS115.ge HI0.out)) | exact HB.out), by repeat (first | (with_reducible first | exact HK.out | apply KeepBut.set_ | apply keep_drewN | apply keep_drew | apply keep_alloc) | exact HK.out)⟩
 ·unfold numAt at h
  rw [if_neg he] at h
  cases h
  have hea : (s0_2 != 0) = true := by simp [he]
  clear he HG hg HS
  go_enter Try.func77, Try.ntmps77
  go_wp2_with fail
  go_ret
  exact ⟨rfl, by repeat (first | (with_reducible first | exact HI0.out | apply IsS115.alloc | apply IsS115.drewN | apply IsS115.drew | apply IsS115.set_1 | apply IsS115.set_2) | exact HI0.out), by repeat (first | (with_reducible first | exact HB.out | apply below_alloc | apply pw_below_drewN | apply below_drew1 | refine below_set ?_ (IsS115.ge HI0.out)) | exact HB.out), by repeat (first | (with_reducible first | exact HK.out | apply KeepBut.set_ | apply keep_drewN | apply keep_drew | apply keep_alloc) | exact HK.out)⟩

theorem lookB_ok (l : List Int) (hb : okB l = true) (h : (lookB l).2.2 = 0) : 0 ≤ (lookB l).1 ∧ (lookB l).1 ≤ 9223372036854775807 ∧ 1 ≤ (lookB l).2.1 ∧ (lookB l).2.1 ≤ (l.length : Int) := by
 have hbm := okB_mem hb
 cases l with
 | nil => simp [lookB] at h
 | cons x t =>
  have hx := hbm x (by simp)
  by_cases h1 : 8 < x
  ·rw [lookB_bad h1] at h; simp at h
  ·by_cases h2 : (t.length : Int) < x
   ·rw [lookB_short h1 h2] at h; simp at h
   ·by_cases h3 : (0 < x ∧ t.getD 0 0 = 0) ∨ (x = 8 ∧ 127 < t.getD 0 0)
    ·rw [lookB_no h1 h2 h3] at h; simp at h
    ·rw [lookB_yes h1 h2 h3]
     have hbt : ∀ z ∈ t.take x.toNat, 0 ≤ z ∧ z ≤ 255 := fun z hz => hbm z (by simp [List.mem_of_mem_take hz])
     have hlt : (t.take x.toNat).length = x.toNat := by rw [List.length_take]; omega
     simp only [List.length_cons]
     refine ⟨(val_range _ 0 1 hbt (by omega) (by omega)).1, ?_, by omega, by omega⟩
     by_cases h0 : x.toNat = 0
     ·rw [h0, List.take_zero]; simp [val]
     ·have h127 : x.toNat = 8 → (t.take x.toNat).getD 0 0 ≤ 127 := by
       intro h8
       have e : (t.take x.toNat).getD 0 0 = t.getD 0 0 := by
        cases t with
        | nil => simp
        | cons y s => rw [h8]; rfl
       rw [e]
       by_cases hh : 127 < t.getD 0 0
       ·exact absurd (.inr ⟨by omega, hh⟩) h3
       ·omega
      obtain ⟨m, hm⟩ : ∃ m, x.toNat = m + 1 := ⟨x.toNat - 1, by omega⟩
      have hs := val_small (t.take x.toNat) hbt (by omega) (fun e => h127 (by omega)) m (by omega)
      have hv := val_take (t.take x.toNat) m (by omega)
      have hd := hbt _ (List.getElem_mem (show m < (t.take x.toNat).length by omega))
      rw [← hm, List.take_of_length_le (Nat.le_of_eq hlt)] at hv
      omega
theorem numAt_ok (b : List Int) (p least most : Int) (hb : okB b = true) (h0 : 0 ≤ p) (h1 : p ≤ (b.length : Int)) (hl : b.length ≤ 9223372036854775807) (h : (numAt b p 0 least most).2.2 = 0) :
  least ≤ (numAt b p 0 least most).1 ∧ (numAt b p 0 least most).1 ≤ most ∧ p < (numAt b p 0 least most).2.1 ∧ (numAt b p 0 least most).2.1 ≤ (b.length : Int) := by
 unfold numAt at h ⊢
 rw [if_pos rfl] at h ⊢
 by_cases e : (lookB (b.drop p.toNat)).2.2 = 0
 ·rw [if_pos e] at h ⊢
  have := lookB_ok _ (okB_drop hb _) e
  rw [List.length_drop] at this
  by_cases e2 : (lookB (b.drop p.toNat)).1 < least
  ·rw [if_pos e2] at h; simp at h
  ·rw [if_neg e2] at h ⊢
   by_cases e3 : most < (lookB (b.drop p.toNat)).1
   ·rw [if_pos e3] at h; simp at h
   ·rw [if_neg e3]
    have hw : wrap64 (p + (lookB (b.drop p.toNat)).2.1) = p + (lookB (b.drop p.toNat)).2.1 := w64' (by omega) (by omega)
    simp only [hw]
    refine ⟨by omega, by omega, by omega, by omega⟩
 ·rw [if_neg e] at h; exact absurd h e
theorem numAt_place (b : List Int) (p e least most : Int) (hb : okB b = true) (h0 : 0 ≤ p) (h1 : p ≤ (b.length : Int)) (hl : b.length ≤ 9223372036854775807) : 0 ≤ (numAt b p e least most).2.1 ∧ (numAt b p e least most).2.1 ≤ (b.length : Int) := by
 by_cases he : e = 0
 ·subst he
  by_cases h : (numAt b p 0 least most).2.2 = 0
  ·have := numAt_ok b p least most hb h0 h1 hl h; omega
  ·have e1 : (numAt b p 0 least most).2.1 = p := by
    unfold numAt at h ⊢
    rw [if_pos rfl] at h ⊢
    repeat' (split at h)
    all_goals first | (split <;> simp_all) | simp_all
   rw [e1]; omega
 ·unfold numAt; rw [if_neg he]; exact ⟨h0, h1⟩
def endAt (b : List Int) (p e : Int) : Int := if e = 0 then (if p < (b.length : Int) then 2 else 0) else e
def wire_Cursor_End.f (b : List Int) (p e : Int) : Option (Int × Int × Int) := if 0 ≤ p then (if p ≤ (b.length : Int) then some (endAt b p e, p, e) else none) else none
set_option maxHeartbeats 1000000 in
theorem wire_Cursor_End.calls (g : Nat) (s0_0 : List Int) (s0_1 : Int) (s0_2 : Int) (r1 : Int) (r2 : Int) (r3 : Int) (w0 w : World) (hI : IsS115 w0 w g s0_0 s0_1 s0_2) (hB : Below w0.heap.size w0 w) (h : wire_Cursor_End.f s0_0 s0_1 s0_2 = some (r1, r2, r3)) :
  Calls Try.prog 78 #[.pointer (some ⟨g, 0, none⟩)] w fun e w' => e = .returned (.int .i64 r1) ∧ IsS115 w0 w' g s0_0 r2 r3 ∧ Below w0.heap.size w0 w' ∧ KeepBut w w' g none := by
 unfold wire_Cursor_End.f at h
 by_cases hp0 : 0 ≤ s0_1
 case neg => rw [if_neg hp0] at h; cases h
 rw [if_pos hp0] at h
 by_cases hp1 : s0_1 ≤ (s0_0.length : Int)
 case neg => rw [if_neg hp1] at h; cases h
 rw [if_pos hp1] at h
 cases h
 obtain ⟨q, rfl⟩ := Int.eq_ofNat_of_zero_le hp0
 have HI0 := Aside0.mk hI
 have HK := Aside0.mk (KeepBut.refl w g none)
 have HB := Aside0.mk hB
 clear hI hB
 obtain ⟨A, c, HG, hg, HS⟩ := HI0.out
 have HC := Aside0.mk hg.2
 have hc0 := cellS115_0 HG
 have hc1 := cellS115_1 HG
 have hc2 := cellS115_2 HG
 have hf1 := blk_frozen HG 1
 have hf2 := blk_frozen HG 2
 have HR : Aside0 (Kd.C (Kd.int .u8) w A s0_0.length s0_0) := ⟨Kd.C_below HS HB.out⟩
 have hmax : Aside0 (s0_0.length ≤ 9223372036854775807) := ⟨C_max HS⟩
 unfold endAt
 by_cases he : s0_2 = 0
 ·subst he
  rw [if_pos rfl]
  have hlf := wire_left.calls g A s0_0 c q 0 w HG (by omega)
  have hdl : (s0_0.drop q).length + q = s0_0.length := by rw [List.length_drop]; omega
  obtain ⟨A', hA'⟩ : ∃ A', (if c = q then A else A.map (·.add (q * 1))) = A' := ⟨_, rfl⟩
  obtain ⟨dl, hdd⟩ : ∃ d, (s0_0.drop q).length = d := ⟨_, rfl⟩
  obtain ⟨cc, hcc⟩ : ∃ cc, c - q = cc := ⟨_, rfl⟩
  rw [hA', hdd, hcc] at hlf
  rw [hdd] at hdl
  have HLF := Aside0.mk hlf
  clear hlf hA' hdd hcc HG hg HS
  by_cases h2 : (q : Int) < (s0_0.length : Int)
  ·rw [if_pos h2]
   have hlt : 0 < dl := by omega
   go_enter Try.func78, Try.ntmps78
   go_wp2_with fail
   refine HLF.out.mono ?_
   rintro e w' ⟨rfl, nl, rfl⟩
   go_wp2_with fail
   go_ret
   exact ⟨rfl, by repeat (first | (with_reducible first | exact HI0.out | apply IsS115.alloc | apply IsS115.drewN | apply IsS115.drew | apply IsS115.set_1 | apply IsS115.set_2) | exact HI0.out), by repeat (first | (with_reducible first | exact HB.out | apply below_alloc | apply pw_below_drewN | apply below_drew1 | refine below_set ?_ (IsS115.ge HI0.out)) | exact HB.out), by repeat (first | (with_reducible first | exact HK.out | apply KeepBut.set_ | apply keep_drewN | apply keep_drew | apply keep_alloc) | exact HK.out)⟩
  ·rw [if_neg h2]
   obtain rfl : dl = 0 := by omega
   go_enter Try.func78, Try.ntmps78
   go_wp2_with fail
   refine HLF.out.mono ?_
   rintro e w' ⟨rfl, nl, rfl⟩
   go_wp2_with fail
   go_ret
   exact ⟨rfl, by repeat (first | (with_reducible first | exact HI0.out | apply IsS115.alloc | apply IsS115.drewN | apply IsS115.drew | apply IsS115.set_1 | apply IsS115.set_2) | exact HI0.out), by repeat (first | (with_reducible first | exact HB.out | apply below_alloc | apply pw_below_drewN | apply below_drew1 | refine below_set ?_ (IsS115.ge HI0.out)) | exact HB.out), by repeat (first | (with_reducible first | exact HK.out | apply KeepBut.set_ | apply keep_drewN | apply keep_drew | apply keep_alloc) | exact HK.out)⟩
 ·rw [if_neg he]
  have hea : (s0_2 == 0) = false := by simp [he]
  clear he HG hg HS
  go_enter Try.func78, Try.ntmps78
  go_wp2_with fail
  go_ret
  exact ⟨rfl, by repeat (first | (with_reducible first | exact HI0.out | apply IsS115.alloc | apply IsS115.drewN | apply IsS115.drew | apply IsS115.set_1 | apply IsS115.set_2) | exact HI0.out), by repeat (first | (with_reducible first | exact HB.out | apply below_alloc | apply pw_below_drewN | apply below_drew1 | refine below_set ?_ (IsS115.ge HI0.out)) | exact HB.out), by repeat (first | (with_reducible first | exact HK.out | apply KeepBut.set_ | apply keep_drewN | apply keep_drew | apply keep_alloc) | exact HK.out)⟩

end Go.Proofs.Ytmfmoddaejoekaa.P
