/- Contracts, typed by hand, of layer 3's cursors. -/
import Derived.Test.YtmfmoddaejoekaaHCursor
import Derived.Test.YtmfmoddaejoekaaP6
import Derived.Deep.QuietTactic
import Derived.BigQuiet
import Derived.Outline
import Derived.Test.YtmfmoddaejoekaaP15
namespace Go.Proofs.Ytmfmoddaejoekaa.P
open Go.RowKit Go.Proofs.YtmfmoddaejoekaaW.PrintWords Go.Proofs.YtmfmoddaejoekaaW.PrintLast Go.Proofs.YtmfmoddaejoekaaW.PrintMore
set_option linter.unusedVariables false
set_option linter.unusedSimpArgs false
attribute [local go_sem] max2_int min2_int max_two min_two max_three min_three max_four min_four


def LookPost (d : List Int) (w : World) (e : Ending) (w' : World) : Prop := e = .returned (.tuple #[.int .i64 (lookB d).1, .int .i64 (lookB d).2.1, .int .i64 (lookB d).2.2]) ∧ ∃ n, w' = w.drewN n
theorem lookPost_of {d : List Int} {w : World} {x y z : Int} {n : Nat} (h : lookB d = (x, y, z)) : LookPost d w (.returned (.tuple #[.int .i64 x, .int .i64 y, .int .i64 z])) (w.drewN n) := by unfold LookPost; rw [h]; exact ⟨rfl, n, rfl⟩
theorem val_ge : ∀ (l : List Int) (n : Int), (∀ x ∈ l, 0 ≤ x ∧ x ≤ 255) → 0 ≤ n → n * cap l.length ≤ val n l
 | [], n, _, _ => by simp [val, cap]
 | d :: t, n, h, h0 => by
  have hd := h d (by simp)
  have ih := val_ge t (256 * n + d) (fun x hx => h x (by simp [hx])) (by omega)
  have hp := cap_pos t.length
  simp only [val, List.length_cons, cap]
  have e1 : (256 * n + d) * cap t.length = n * (256 * cap t.length) + d * cap t.length := by rw [Int.add_mul, Int.mul_comm 256 n, Int.mul_assoc]
  have e2 : 0 ≤ d * cap t.length := Int.mul_nonneg hd.1 (by omega)
  omega
theorem val_over (l : List Int) (hb : ∀ x ∈ l, 0 ≤ x ∧ x ≤ 255) (hl : l.length = 8) (h : 127 < l.getD 0 0) (i : Nat) (hi : i < 8) : 0 ≤ val 0 (l.take i) ∧ (i < 7 → val 0 (l.take i) ≤ 36028797018963967) ∧ (i = 7 → 36028797018963967 < val 0 (l.take i)) := by
 have hbt : ∀ x ∈ l.take i, 0 ≤ x ∧ x ≤ 255 := fun x hx => hb x (List.mem_of_mem_take hx)
 have hv := val_range (l.take i) 0 1 hbt (by omega) (by omega)
 have e : (l.take i).length = i := by rw [List.length_take]; omega
 rw [e] at hv
 refine ⟨hv.1, fun h6 => ?_, fun h7 => ?_⟩
 ·have hc : cap i ≤ 281474976710656 := by
   have : i = 0 ∨ i = 1 ∨ i = 2 ∨ i = 3 ∨ i = 4 ∨ i = 5 ∨ i = 6 := by omega
   rcases this with rfl | rfl | rfl | rfl | rfl | rfl | rfl <;> decide
  omega
 ·subst h7
  cases l with
  | nil => simp at hl
  | cons x t =>
   simp only [List.getD_cons_zero] at h
   have e : (x :: t).take 7 = x :: t.take 6 := rfl
   rw [e]
   simp only [val]
   have hg := val_ge (t.take 6) (256 * 0 + x) (fun y hy => hb y (by simp [List.mem_of_mem_take hy])) (by omega)
   have e2 : (t.take 6).length = 6 := by rw [List.length_take]; simp at hl; omega
   rw [e2] at hg
   have hc6 : cap 6 = 281474976710656 := by decide
   rw [hc6] at hg
   have e7 : val 0 (List.take 7 (x :: t)) = val (256 * 0 + x) (List.take 6 t) := rfl
   omega
theorem ref_look_nil (g : Nat) (A : Option Addr) (b : List Int) (c q : Nat) (e : Int) (w : World) (hG : w.heap[g]? = some (.cells #[.slice A b.length c, .int .i64 (q : Int), .int .i64 e] 104 (0, 0))) (hq : q ≤ b.length) (hA : Kd.C (Kd.int .u8) w A b.length b) (hcap : b.length ≤ c) (hok : okB b = true) (d : List Int) (hdd : b.drop q = d) (hn : d = []) :
  Calls Try.prog 81 #[.pointer (some ⟨g, 0, none⟩)] w (LookPost d w) := by
 have hc0 := cellS104_0 hG
 have hc1 := cellS104_1 hG
 have hcut := hcut_from q A b.length c hq
 have hd := drop_C hA hq hcap
 have hbm := okB_mem (okB_drop hok q)
 have hcd : (b.drop q).length ≤ c - q := by rw [List.length_drop]; omega
 have hdl : (b.drop q).length = b.length - q := List.length_drop
 have hmax := C_max hd
 obtain ⟨A', hA'⟩ : ∃ A', (if c = q then A else A.map (·.add (q * 1))) = A' := ⟨_, rfl⟩
 rw [hA'] at hcut hd
 rw [← hdl, hdd] at hcut
 rw [hdd] at hd hbm hcd hmax
 clear hdl hA' hA hok hdd hG
 subst hn
 simp only [List.length_nil] at hcut
 go_enter Try.func81, Try.ntmps81
 go_wp2_with fail
 go_quiet (fail)
 go_wp2_with fail
 go_ret3
 exact lookPost_of lookB_nil
set_option maxHeartbeats 4000000 in
theorem ref_look_cons (g : Nat) (A : Option Addr) (b : List Int) (c q : Nat) (e : Int) (w : World) (hG : w.heap[g]? = some (.cells #[.slice A b.length c, .int .i64 (q : Int), .int .i64 e] 104 (0, 0))) (hq : q ≤ b.length) (hA : Kd.C (Kd.int .u8) w A b.length b) (hcap : b.length ≤ c) (hok : okB b = true) (d : List Int) (hdd : b.drop q = d) (m : Nat) (t : List Int) (hn : d = (m : Int) :: t) :
  Calls Try.prog 81 #[.pointer (some ⟨g, 0, none⟩)] w (LookPost d w) := by
 have hc0 := cellS104_0 hG
 have hc1 := cellS104_1 hG
 have hcut := hcut_from q A b.length c hq
 have hd := drop_C hA hq hcap
 have hbm := okB_mem (okB_drop hok q)
 have hcd : (b.drop q).length ≤ c - q := by rw [List.length_drop]; omega
 have hdl : (b.drop q).length = b.length - q := List.length_drop
 have hmax := C_max hd
 obtain ⟨A', hA'⟩ : ∃ A', (if c = q then A else A.map (·.add (q * 1))) = A' := ⟨_, rfl⟩
 rw [hA'] at hcut hd
 rw [← hdl, hdd] at hcut
 rw [hdd] at hd hbm hcd hmax
 clear hdl hA' hA hok hdd hG
 subst hn
 have HBM := Aside0.mk hbm
 have hx := hbm (m : Int) (by simp)
 have HD := Aside0.mk hd
 simp only [List.length_cons] at hcut hcd hmax
 obtain ⟨ad, rfl, hx0⟩ := Kd.at_int hd 0 (by omega) (by simp only [List.length_cons]; omega)
 rw [show rd ((m : Int) :: t) 0 = (m : Int) from rfl] at hx0
 have hx0' : w.cell? ad = some (.int .u8 (m : Int)) := by simpa [Addr.add] using hx0
 have hne : (((t.length : Int) + 1) == 0) = false := by simp; omega
 clear hd hx0 hbm
 by_cases h1 : 8 < m
 ·go_enter Try.func81, Try.ntmps81
  go_wp2_with fail
  go_quiet (fail)
  go_wp2_with fail
  go_ret3
  exact lookPost_of (lookB_bad (by omega))
 ·by_cases h2 : t.length < m
  ·go_enter Try.func81, Try.ntmps81
   go_wp2_with fail
   go_quiet (fail)
   go_wp2_with fail
   go_ret3
   exact lookPost_of (lookB_short (by omega) (by omega))
  ·have H2 : Aside0 (m ≤ t.length) := ⟨by omega⟩
   by_cases h0 : m = 0
   ·have HM := Aside0.mk h0
    have hm0 : m ≤ 0 := by omega
    clear h0
    have H127 : Aside0 (m = 8 → (t.take m).getD 0 0 ≤ 127) := ⟨by omega⟩
    have HF : Aside0 (lookB ((m : Int) :: t) = (val 0 (t.take m), (m : Int) + 1, 0)) := by
     have := lookB_yes (x := (m : Int)) (t := t) (by omega) (by omega) (by rintro (⟨h, _⟩ | ⟨h, _⟩) <;> omega)
     rw [Int.toNat_natCast] at this
     exact ⟨this⟩
    go_enter Try.func81, Try.ntmps81
    go_wp2_with fail
    go_quiet (fail)
    go_wp2_with fail
    go_loop [7, 8] (fun s7 s8 => ∃ i : Nat, i ≤ m ∧ s8 = .int .i64 ((i : Int) + 1) ∧ s7 = .int .i64 (val 0 ((t.take m).take i))) (fun _ s8 => (m + 1 - (intOf s8).toNat))
    case atStart => exact ⟨0, by omega, rfl, rfl⟩
    case round =>
     obtain ⟨i, hi, rfl, rfl⟩ := hrel
     by_cases hlt : i < m
     ·exact absurd hlt (by omega)
     ·obtain rfl : i = m := by omega
      go_wp2_with fail
      go_ret3
      exact lookPost_of (by rw [List.take_of_length_le (by rw [List.length_take]; omega)]; exact HF.out)
   ·obtain ⟨y, s, hys⟩ : ∃ y s, t = y :: s := by
     cases t with
     | nil => simp at h2; omega
     | cons y s => exact ⟨y, s, rfl⟩
    obtain ⟨ad', e', hy0⟩ := Kd.at_int HD.out 1 (by omega) (by simp only [List.length_cons]; omega)
    cases e'
    have ey : rd ((m : Int) :: t) 1 = y := by rw [hys]; rfl
    rw [ey] at hy0
    have hy1 : w.cell? ⟨ad.block, ad.off + 1, none⟩ = some (.int .u8 y) := by simpa [Addr.add] using hy0
    have hy := HBM.out y (by rw [hys]; simp)
    have HY : Aside0 (t.getD 0 0 = y) := ⟨by rw [hys]; rfl⟩
    have HY2 : Aside0 ((t.take m).getD 0 0 = y) := ⟨by
     obtain ⟨m', hm'⟩ : ∃ m', m = m' + 1 := ⟨m - 1, by omega⟩
     rw [hys, hm']; rfl⟩
    clear hys ey hy0
    by_cases h3 : y = 0
    ·have hyb : (y == 0) = true := by simp [h3]
     have H3 := Aside0.mk h3
     clear h3
     go_enter Try.func81, Try.ntmps81
     go_wp2_with fail
     go_quiet (fail)
     go_wp2_with fail
     go_ret3
     exact lookPost_of (lookB_no (by omega) (by omega) (.inl ⟨by omega, HY.out.trans H3.out⟩))
    ·have hyb : (y == 0) = false := by simp [h3]
     by_cases h5 : m = 8 ∧ 127 < y
     ·have HF : Aside0 (lookB ((m : Int) :: t) = (0, 0, 2)) := ⟨lookB_no (by omega) (by omega) (.inr ⟨by omega, by rw [HY.out]; omega⟩)⟩
      have HS : Aside0 (∀ i : Nat, i < 8 → 0 ≤ val 0 ((t.take m).take i) ∧ (i < 7 → val 0 ((t.take m).take i) ≤ 36028797018963967) ∧ (i = 7 → 36028797018963967 < val 0 ((t.take m).take i))) := ⟨fun i hi => val_over (t.take m) (fun z hz => HBM.out z (by simp [List.mem_of_mem_take hz])) (by rw [List.length_take]; have := H2.out; omega) (by rw [HY2.out]; omega) i hi⟩
      have hm8 : m ≤ 8 := by omega
      have hm9 : 8 ≤ m := by omega
      clear h5 h3
      go_enter Try.func81, Try.ntmps81
      go_wp2_with fail
      go_quiet (fail)
      go_wp2_with fail
      go_loop [7, 8] (fun s7 s8 => ∃ i : Nat, i ≤ 7 ∧ s8 = .int .i64 ((i : Int) + 1) ∧ s7 = .int .i64 (val 0 ((t.take m).take i))) (fun _ s8 => (m + 1 - (intOf s8).toNat))
      case atStart => exact ⟨0, by omega, rfl, rfl⟩
      case round =>
       obtain ⟨i, hi, rfl, rfl⟩ := hrel
       by_cases hlt : i < m
       ·have hlm : (t.take m).length = m := by rw [List.length_take]; have := H2.out; omega
        have hmem : ∀ z ∈ t.take m, 0 ≤ z ∧ z ≤ 255 := fun z hz => HBM.out z (by simp [List.mem_of_mem_take hz])
        have hs : 0 ≤ val 0 ((t.take m).take i) ∧ (i < 7 → val 0 ((t.take m).take i) ≤ 36028797018963967) ∧ (i = 7 → 36028797018963967 < val 0 ((t.take m).take i)) := HS.out i (by omega)
        have hv := val_take (t.take m) i (by omega)
        have hdd := hmem _ (List.getElem_mem (show i < (t.take m).length by omega))
        obtain ⟨ad2, e2, hcell⟩ := Kd.at_int HD.out ((i : Int) + 1) (by omega) (by simp only [List.length_cons]; have := H2.out; omega)
        cases e2
        have hrd : rd ((m : Int) :: t) ((i : Int) + 1) = (t.take m)[i]'(by omega) := by
         have h2 := H2.out
         rw [List.getElem_take]
         simp only [rd, show ((i : Int) + 1).toNat = i + 1 by omega, List.getD_eq_getElem?_getD, List.getElem?_cons_succ, List.getElem?_eq_getElem (show i < t.length by omega), Option.getD_some]
        rw [hrd, show ((i : Int) + 1).toNat = i + 1 by omega] at hcell
        have hcell2 : w.cell? ⟨ad.block, ad.off + (i + 1), none⟩ = some (.int .u8 ((t.take m)[i]'(by omega))) := by simpa [Addr.add] using hcell
        obtain ⟨n, hn⟩ : ∃ n, val 0 ((t.take m).take i) = n := ⟨_, rfl⟩
        obtain ⟨dd, hddd⟩ : ∃ d, (t.take m)[i]'(by omega) = d := ⟨_, rfl⟩
        rw [hn] at hs hv ⊢
        rw [hddd] at hcell2 hdd hv
        have HV := Aside0.mk hv
        clear hcell
        clear hv hn hddd hrd hmem hlm
        by_cases h7 : i < 7
        ·have hs2 := hs.2.1 h7
         go_wp2_with fail
         go_round
         case rel => exact ⟨i + 1, by omega, by go_num, by rw [HV.out]⟩
         case measure => simp [intOf]; omega
        ·have hs2 := hs.2.2 (by omega)
         go_wp2_with fail
         go_ret3
         exact lookPost_of HF.out
       ·exact absurd hlt (by omega)
     ·have H127 : Aside0 (m = 8 → (t.take m).getD 0 0 ≤ 127) := ⟨fun e => by rw [HY2.out]; omega⟩
      have HF : Aside0 (lookB ((m : Int) :: t) = (val 0 (t.take m), (m : Int) + 1, 0)) := by
       have := lookB_yes (x := (m : Int)) (t := t) (by omega) (by omega) (by rw [HY.out]; rintro (⟨_, h⟩ | ⟨h, h'⟩) <;> omega)
       rw [Int.toNat_natCast] at this
       exact ⟨this⟩
      clear h5 h3
      go_enter Try.func81, Try.ntmps81
      go_wp2_with fail
      go_quiet (fail)
      go_wp2_with fail
      go_loop [7, 8] (fun s7 s8 => ∃ i : Nat, i ≤ m ∧ s8 = .int .i64 ((i : Int) + 1) ∧ s7 = .int .i64 (val 0 ((t.take m).take i))) (fun _ s8 => (m + 1 - (intOf s8).toNat))
      case atStart => exact ⟨0, by omega, rfl, rfl⟩
      case round =>
       obtain ⟨i, hi, rfl, rfl⟩ := hrel
       by_cases hlt : i < m
       ·have hlm : (t.take m).length = m := by rw [List.length_take]; have := H2.out; omega
        have hmem : ∀ z ∈ t.take m, 0 ≤ z ∧ z ≤ 255 := fun z hz => HBM.out z (by simp [List.mem_of_mem_take hz])
        have hs := val_small (t.take m) hmem (by omega) (fun h8 => H127.out (by omega)) i (by omega)
        have hv := val_take (t.take m) i (by omega)
        have hdd := hmem _ (List.getElem_mem (show i < (t.take m).length by omega))
        obtain ⟨ad2, e2, hcell⟩ := Kd.at_int HD.out ((i : Int) + 1) (by omega) (by simp only [List.length_cons]; have := H2.out; omega)
        cases e2
        have hrd : rd ((m : Int) :: t) ((i : Int) + 1) = (t.take m)[i]'(by omega) := by
         have h2 := H2.out
         rw [List.getElem_take]
         simp only [rd, show ((i : Int) + 1).toNat = i + 1 by omega, List.getD_eq_getElem?_getD, List.getElem?_cons_succ, List.getElem?_eq_getElem (show i < t.length by omega), Option.getD_some]
        rw [hrd, show ((i : Int) + 1).toNat = i + 1 by omega] at hcell
        have hcell2 : w.cell? ⟨ad.block, ad.off + (i + 1), none⟩ = some (.int .u8 ((t.take m)[i]'(by omega))) := by simpa [Addr.add] using hcell
        obtain ⟨n, hn⟩ : ∃ n, val 0 ((t.take m).take i) = n := ⟨_, rfl⟩
        obtain ⟨dd, hddd⟩ : ∃ d, (t.take m)[i]'(by omega) = d := ⟨_, rfl⟩
        rw [hn] at hs hv ⊢
        rw [hddd] at hcell2 hdd hv
        have HV := Aside0.mk hv
        clear hcell
        clear hv hn hddd hrd hmem hlm
        go_wp2_with fail
        go_round
        case rel => exact ⟨i + 1, by omega, by go_num, by rw [HV.out]⟩
        case measure => simp [intOf]; omega
       ·obtain rfl : i = m := by omega
        go_wp2_with fail
        go_ret3
        exact lookPost_of (by rw [List.take_of_length_le (by rw [List.length_take]; omega)]; exact HF.out)
theorem ref_look.calls (g : Nat) (A : Option Addr) (b : List Int) (c q : Nat) (e : Int) (w : World) (hG : w.heap[g]? = some (.cells #[.slice A b.length c, .int .i64 (q : Int), .int .i64 e] 104 (0, 0))) (hq : q ≤ b.length) (hA : Kd.C (Kd.int .u8) w A b.length b) (hcap : b.length ≤ c) (hok : okB b = true) :
  Calls Try.prog 81 #[.pointer (some ⟨g, 0, none⟩)] w (LookPost (b.drop q) w) := by
 obtain ⟨d, hd⟩ : ∃ d, b.drop q = d := ⟨_, rfl⟩
 rw [hd]
 cases d with
 | nil => exact ref_look_nil g A b c q e w hG hq hA hcap hok [] hd rfl
 | cons x t =>
  have hx := okB_mem (okB_drop hok q) x (by rw [hd]; simp)
  obtain ⟨m, rfl⟩ := Int.eq_ofNat_of_zero_le hx.1
  exact ref_look_cons g A b c q e w hG hq hA hcap hok _ hd m t rfl

def liveryref03_Cursor_Number.f (b : List Int) (p e a1 a2 : Int) : Option (Int × Int × Int) := if okB b = true then (if 0 ≤ p then (if p ≤ (b.length : Int) then some (numAt b p e a1 a2) else none) else none) else none
set_option maxHeartbeats 1000000 in
theorem liveryref03_Cursor_Number.calls (g : Nat) (s0_0 : List Int) (s0_1 : Int) (s0_2 : Int) (a1 : Int) (a2 : Int) (r1 : Int) (r2 : Int) (r3 : Int) (w0 w : World) (hI : IsS104 w0 w g s0_0 s0_1 s0_2) (hB : Below w0.heap.size w0 w) (h : liveryref03_Cursor_Number.f s0_0 s0_1 s0_2 a1 a2 = some (r1, r2, r3)) :
  Calls Try.prog 71 #[.pointer (some ⟨g, 0, none⟩), .int .i64 a1, .int .i64 a2] w fun e w' => e = .returned (.int .i64 r1) ∧ IsS104 w0 w' g s0_0 r2 r3 ∧ Below w0.heap.size w0 w' ∧ KeepBut w w' g none := by
 unfold liveryref03_Cursor_Number.f at h
 by_cases ho : okB s0_0 = true
 case neg => rw [if_neg ho] at h; cases h
 rw [if_pos ho] at h
 by_cases hp0 : 0 ≤ s0_1
 case neg => rw [if_neg hp0] at h; cases h
 rw [if_pos hp0] at h
 by_cases hp1 : s0_1 ≤ (s0_0.length : Int)
 case neg => rw [if_neg hp1] at h; cases h
 rw [if_pos hp1] at h
 obtain ⟨q, rfl⟩ := Int.eq_ofNat_of_zero_le hp0
 have HI0 := Aside0.mk hI
 have HK := Aside0.mk (KeepBut.refl w g none)
 have HB := Aside0.mk hB
 clear hI hB
 obtain ⟨A, c, HG, hg, HS⟩ := HI0.out
 have HC := Aside0.mk hg.2
 have hc0 := cellS104_0 HG
 have hc1 := cellS104_1 HG
 have hc2 := cellS104_2 HG
 have hf1 := blk_frozen HG 1
 have hf2 := blk_frozen HG 2
 have HR : Aside0 (Kd.C (Kd.int .u8) w A s0_0.length s0_0) := ⟨Kd.C_below HS HB.out⟩
 have hmax : Aside0 (s0_0.length ≤ 9223372036854775807) := ⟨C_max HS⟩
 unfold numAt at h
 by_cases he : s0_2 = 0
 ·subst he
  rw [if_pos rfl, Int.toNat_natCast] at h
  have hlf := ref_look.calls g A s0_0 c q 0 w HG (by omega) HR.out HC.out ho
  unfold LookPost at hlf
  obtain ⟨n, u, e1, hl⟩ : ∃ n u e1, lookB (s0_0.drop q) = (n, u, e1) := ⟨_, _, _, rfl⟩
  rw [hl] at h hlf
  have HLF := Aside0.mk hlf
  clear hlf hl HG hg HS ho hp0 hp1
  by_cases h1 : e1 = 0
  ·subst h1
   rw [if_pos rfl] at h
   by_cases h2 : n < a1
   ·rw [if_pos h2] at h
    cases h
    go_enter Try.func71, Try.ntmps71
    go_wp2_with fail
    refine HLF.out.mono ?_
    rintro e w' ⟨rfl, nl, rfl⟩
    go_wp2_with fail
    go_ret
    exact ⟨rfl, by repeat (first | (with_reducible first | exact HI0.out | apply IsS104.alloc | apply IsS104.drewN | apply IsS104.drew | apply IsS104.set_1 | apply IsS104.set_2) | exact HI0.out), by repeat (first | (with_reducible first | exact HB.out | apply below_alloc | apply pw_below_drewN | apply below_drew1 | refine below_set ?_ (IsS104.ge HI0.out)) | exact HB.out), by repeat (first | (with_reducible first | exact HK.out | apply KeepBut.set_ | apply keep_drewN | apply keep_drew | apply keep_alloc) | exact HK.out)⟩
   ·rw [if_neg h2] at h
    by_cases h3 : a2 < n
    ·rw [if_pos h3] at h
     cases h
     go_enter Try.func71, Try.ntmps71
     go_wp2_with fail
     refine HLF.out.mono ?_
     rintro e w' ⟨rfl, nl, rfl⟩
     go_wp2_with fail
     go_ret
     exact ⟨rfl, by repeat (first | (with_reducible first | exact HI0.out | apply IsS104.alloc | apply IsS104.drewN | apply IsS104.drew | apply IsS104.set_1 | apply IsS104.set_2) | exact HI0.out), by repeat (first | (with_reducible first | exact HB.out | apply below_alloc | apply pw_below_drewN | apply below_drew1 | refine below_set ?_ (IsS104.ge HI0.out)) | exact HB.out), by repeat (first | (with_reducible first | exact HK.out | apply KeepBut.set_ | apply keep_drewN | apply keep_drew | apply keep_alloc) | exact HK.out)⟩
    ·rw [if_neg h3] at h
     cases h
     go_enter Try.func71, Try.ntmps71
     go_wp2_with fail
     refine HLF.out.mono ?_
     rintro e w' ⟨rfl, nl, rfl⟩
     go_wp2_with fail
     go_ret
     exact ⟨rfl, by repeat (first | (with_reducible first | exact HI0.out | apply IsS104.alloc | apply IsS104.drewN | apply IsS104.drew | apply IsS104.set_1 | apply IsS104.set_2) | exact HI0.out), by repeat (first | (with_reducible first | exact HB.out | apply below_alloc | apply pw_below_drewN | apply below_drew1 | refine below_set ?_ (IsS104.ge HI0.out)) | exact HB.out), by repeat (first | (with_reducible first | exact HK.out | apply KeepBut.set_ | apply keep_drewN | apply keep_drew | apply keep_alloc) | exact HK.out)⟩
  ·rw [if_neg h1] at h
   cases h
   have h1b : (e1 != 0) = true := by simp [h1]
   clear h1
   go_enter Try.func71, Try.ntmps71
   go_wp2_with fail
   refine HLF.out.mono ?_
   rintro e w' ⟨rfl, nl, rfl⟩
   go_wp2_with fail
   go_ret
   exact ⟨rfl, by repeat (first | (with_reducible first | exact HI0.out | apply IsS104.alloc | apply IsS104.drewN | apply IsS104.drew | apply IsS104.set_1 | apply IsS104.set_2) | exact HI0.out), by repeat (first | (with_reducible first | exact HB.out | apply below_alloc | apply pw_below_drewN | apply below_drew1 | refine below_set ?_ (IsS104.ge HI0.out)) | exact HB.out), by repeat (first | (with_reducible first | exact HK.out | apply KeepBut.set_ | apply keep_drewN | apply keep_drew | apply keep_alloc) | exact HK.out)⟩
 ·rw [if_neg he] at h
  cases h
  have hea : (s0_2 != 0) = true := by simp [he]
  clear he HG hg HS
  go_enter Try.func71, Try.ntmps71
  go_wp2_with fail
  go_ret
  exact ⟨rfl, by repeat (first | (with_reducible first | exact HI0.out | apply IsS104.alloc | apply IsS104.drewN | apply IsS104.drew | apply IsS104.set_1 | apply IsS104.set_2) | exact HI0.out), by repeat (first | (with_reducible first | exact HB.out | apply below_alloc | apply pw_below_drewN | apply below_drew1 | refine below_set ?_ (IsS104.ge HI0.out)) | exact HB.out), by repeat (first | (with_reducible first | exact HK.out | apply KeepBut.set_ | apply keep_drewN | apply keep_drew | apply keep_alloc) | exact HK.out)⟩
end Go.Proofs.Ytmfmoddaejoekaa.P
