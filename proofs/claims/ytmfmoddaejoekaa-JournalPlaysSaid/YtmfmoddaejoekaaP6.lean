/- Texts of this claim, laid into one. -/
import Derived.Test.YtmfmoddaejoekaaHLook
import Derived.Test.YtmfmoddaejoekaaHShelf
import Derived.Test.YtmfmoddaejoekaaP15
section
/- Contracts, typed by hand, of layer 3's functions. -/
namespace Go.Proofs.Ytmfmoddaejoekaa.P
open Go.RowKit Go.Proofs.YtmfmoddaejoekaaW.PrintWords Go.Proofs.YtmfmoddaejoekaaW.PrintLast Go.Proofs.YtmfmoddaejoekaaW.PrintMore
set_option linter.unusedVariables false
set_option linter.unusedSimpArgs false
attribute [local go_sem] max2_int min2_int max_two min_two max_three min_three max_four min_four

theorem slices_Clip.calls (A : Option Addr) (n c : Nat) (w : World) (h : n ≤ c) (hm : n ≤ 9223372036854775807) :
  Calls Try.prog 73 #[.slice A n c] w fun e w' => e = .returned (.slice A n n) ∧ w = w' := by
 go_enter Try.func73, Try.ntmps73
 go_wp2
 go_ret
 exact ⟨rfl, rfl⟩

theorem wire_Number.core (A0 : Option Addr) (c0 : Nat) (l0 : List Int) (a1 m : Int) (w : World) (hr0 : Kd.C (Kd.int .u8) w A0 l0.length l0) (hc0 : l0.length ≤ c0) (h0 : 0 ≤ m) (h63 : m ≤ 9223372036854775807)
 (hmx : (if 0 < a1 then a1 else 0) = m)
 (hl : l0.length + 16 ≤ 140737488355328) :
  Calls Try.prog 68 #[.slice A0 l0.length c0, .int .i64 a1] w fun e w' => ∃ v0_ : Value, e = .returned (v0_) ∧ Kd.R (Kd.int .u8) 5 w' w.heap.size (fun _ => True) v0_ (l0 ++ numB m) ∧ Below w.heap.size w w' := by
 have HR0 := Aside0.mk hr0
 have H64 : Aside0 (m.toNat < 18446744073709551616) := ⟨by omega⟩
 clear hr0
 go_enter Try.func68, Try.ntmps68
 go_wp2_with fail
 clear hmx
 have HL : ∃ bl : Nat, numLen m.toNat = (bl + 7) / 8 ∧ bl ≤ 64 ∧ Calls Try.prog 79 #[.int .u64 m] w fun e w' => e = .returned (.int .i64 (bl : Int)) ∧ w = w' :=
 ⟨_, rfl, Lib.bitLen_le _ 64 (by omega) (by omega), (Try.bits_Len m w h0 (by omega)).mono fun _ _ h => ⟨h.1, h.2.symm⟩⟩
 obtain ⟨bl, hbl, hbl2, hcall⟩ := HL
 have Hbl := Aside0.mk hbl
 clear hbl
 refine hcall.mono ?_
 clear hcall
 rintro e w' ⟨rfl, rfl⟩
 go_wp2_with fail
 refine (slices_Clip.calls A0 l0.length c0 _ hc0 (by omega)).mono ?_
 rintro e w' ⟨rfl, rfl⟩
 obtain ⟨i0, hi, hzz⟩ := Option.map_eq_some_iff.1 hinfo5
 simp only [Prod.mk.injEq] at hzz
 obtain ⟨hz0, hz1, hz2⟩ := hzz
 have HI := Aside0.mk (And.intro hi (And.intro hz0 (And.intro hz1 hz2)))
 clear hi hz0 hz1 hz2
 go_wp2_with (at_builtin; go_loud (refine wpList_append_grows _ rfl (.tmp 15) (.tmp 18) 30 rfl 5 i0 (.int .u8 0) 1 1 Try.underlying30 HI.out.1 HI.out.2.1 HI.out.2.2.1 HI.out.2.2.2 rfl (by decide) A0 l0.length l0.length (nums .u8 l0) rfl ?c1 ?c2 ?c3 ⟨w.heap.size, 0, none⟩ 1 1 [.int .u8 (((bl : Int) + 7) / 8)] rfl rfl ?c4 ?c5 ?c6 ?c7 ?c8 ?_))
 case c1 => intro e; subst e; have := C_none HR0.out; omega
 case c2 => simp [nums]
 case c3 => exact fun b hb j u hu => pw_cell_below (below_alloc (Below.refl _ _) _) (C_cells HR0.out b hb j u hu)
 case c4 => exact World.news_of_block (cs := #[_]) (t := 5) (fr := (0, 0)) (heap_alloc_new w _)
 case c5 => simp [Value.oneCell']
 case c6 => omega
 case c7 => simp only [maxLen]; omega
 case c8 => omega
 intro v1 w1 hown hgr
 have HO : Aside0 (w1.ownsRow w.heap.size 5 1 v1 (l0 ++ ((numLen m.toNat : Nat) : Int) :: digs (m.toNat / 256 ^ (numLen m.toNat))).length (nums .u8 (l0 ++ ((numLen m.toNat : Nat) : Int) :: digs (m.toNat / 256 ^ (numLen m.toNat))))) := by
  rw [div_numLen _ H64.out, digs_zero]
  refine ⟨?_⟩
  have hx : nums .u8 (l0 ++ [((numLen m.toNat : Nat) : Int)]) = nums .u8 l0 ++ [.int .u8 (((bl : Int) + 7) / 8)] := by
   rw [nums_append, Hbl.out]; simp [nums]
  rw [hx, List.length_append]
  exact own_weaken hown (by simp)
 have HB : Aside0 (Below w.heap.size w w1) := ⟨(below_alloc (Below.refl _ _) _).grown hgr (by simp) (by simp)⟩
 clear hown hgr
 go_wp2_with fail
 go_loopw [5, 6] (fun s5 s6 wr => ∃ k : Int, -1 ≤ k ∧ k < 9 ∧ s5 = .int .i64 k ∧ Aside0 (k < (numLen m.toNat : Int)) ∧ Aside0 (wr.ownsRow w.heap.size 5 1 s6 (l0 ++ ((numLen m.toNat : Nat) : Int) :: digs (m.toNat / 256 ^ (k + 1).toNat)).length (nums .u8 (l0 ++ ((numLen m.toNat : Nat) : Int) :: digs (m.toNat / 256 ^ (k + 1).toNat)))) ∧ Aside0 (Below w.heap.size w wr)) (fun s5 _ _ => (intOf s5 + 1).toNat)
 case atStart =>
  refine ⟨((bl : Int) + 7) / 8 - 1, by omega, by omega, rfl, ⟨?_⟩, ?_, HB⟩
  ·have := Hbl.out; omega
  ·have e : (((bl : Int) + 7) / 8 - 1 + 1).toNat = numLen m.toNat := by have := Hbl.out; omega
   rw [e]
   exact HO
 case round =>
  obtain ⟨k, hk1, hk2, rfl, HK, HO2, HB2⟩ := hrel
  clear HO HB
  by_cases hk : 0 ≤ k
  ·go_wp2_with (at_builtin; go_loud (refine print_append_num (w0 := w) w.heap.size rfl (.tmp 26) (.tmp 32) 30 5 .u8 1 rfl Try.underlying30 hinfo5 (by decide) u6 (l0 ++ ((numLen m.toNat : Nat) : Int) :: digs (m.toNat / 256 ^ (k + 1).toNat)) (m / 2 ^ (8 * k).toNat % 256) rfl rfl HO2.out HB2.out ?c1 ?c2 ?_))
   case c1 => exact below_size HB2.out
   case c2 => 
    have h1 := digs_le8 _ (div_le m.toNat (256 ^ (k + 1).toNat) (by omega))
    simp only [List.length_append, List.length_cons]
    omega
   intro v2 w2 hown2 hb2 hg2 hat2
   clear hg2 hat2
   have HO3 : Aside0 (w2.ownsRow w.heap.size 5 1 v2 (l0 ++ ((numLen m.toNat : Nat) : Int) :: digs (m.toNat / 256 ^ (k - 1 + 1).toNat)).length (nums .u8 (l0 ++ ((numLen m.toNat : Nat) : Int) :: digs (m.toNat / 256 ^ (k - 1 + 1).toNat)))) := by
    have e1 : (k + 1).toNat = k.toNat + 1 := by omega
    have e2 : (k - 1 + 1).toNat = k.toNat := by omega
    rw [e2, digs_step m.toNat k.toNat H64.out (by have := HK.out; omega), ← shr_byte m k h0 hk]
    rw [e1] at hown2
    refine ⟨?_⟩
    have e4 : (l0 ++ ((numLen m.toNat : Nat) : Int) :: (digs (m.toNat / 256 ^ (k.toNat + 1)) ++ [m / 2 ^ (8 * k).toNat % 256])).length = l0.length + ((digs (m.toNat / 256 ^ (k.toNat + 1))).length + 1 + 1) := by simp
    rw [e4]
    exact hown2
   have HB3 := Aside0.mk hb2
   clear hown2 hb2 HO2 HB2
   go_wp2_with fail
   go_roundw
   case rel => exact ⟨k - 1, by omega, by omega, rfl, ⟨by have := HK.out; omega⟩, HO3, HB3⟩
   case measure => simp [intOf]; omega
  ·go_wp2_with fail
   go_ret
   have e : (k + 1).toNat = 0 := by omega
   have HO4 := HO2.out
   rw [e, Nat.pow_zero, Nat.div_one] at HO4
   exact ⟨_, rfl, R_of_ownsRow HO4, HB2.out⟩
/-- What 'wire.Number' answers. -/
def wire_Number.f (l0 : List Int) (a1 : Int) : Option (List Int) := if l0.length + 16 ≤ 140737488355328 then (if a1 ≤ 9223372036854775807 then some (l0 ++ numB a1) else none) else none
theorem numB_neg {a : Int} (h : a ≤ 0) : numB a = numB 0 := by unfold numB; rw [show a.toNat = (0 : Int).toNat by omega]
theorem wire_Number.calls (A0 : Option Addr) (c0 : Nat) (l0 : List Int) (a1 : Int) (r : List Int) (w : World) (hr0 : Kd.C (Kd.int .u8) w A0 l0.length l0) (hc0 : l0.length ≤ c0) (h : wire_Number.f l0 a1 = some r) :
  Calls Try.prog 68 #[.slice A0 l0.length c0, .int .i64 a1] w fun e w' => ∃ v0_ : Value, e = .returned (v0_) ∧ Kd.R (Kd.int .u8) 5 w' w.heap.size (fun _ => True) v0_ r ∧ Below w.heap.size w w' := by
 unfold wire_Number.f at h
 by_cases h1 : l0.length + 16 ≤ 140737488355328
 ·rw [if_pos h1] at h
  by_cases h2 : a1 ≤ 9223372036854775807
  ·rw [if_pos h2] at h
   cases h
   by_cases h3 : 0 < a1
   ·exact wire_Number.core A0 c0 l0 a1 a1 w hr0 hc0 (by omega) h2 (if_pos h3) h1
   ·rw [numB_neg (by omega)]
    exact wire_Number.core A0 c0 l0 a1 0 w hr0 hc0 (by omega) (by omega) (if_neg h3) h1
  ·rw [if_neg h2] at h; cases h
 ·rw [if_neg h1] at h; cases h

end Go.Proofs.Ytmfmoddaejoekaa.P
end
section
/- Written by a program of this session's, for this claim: the functions that the law reaches, their contracts, the law's row. Not trusted: it is checked as any text. -/
namespace Go.Proofs.Ytmfmoddaejoekaa.P
open Go.RowKit Go.Proofs.YtmfmoddaejoekaaW.PrintWords Go.Proofs.YtmfmoddaejoekaaW.PrintLast Go.Proofs.YtmfmoddaejoekaaW.PrintMore
attribute [local go_sem] max2_int min2_int max_two min_two max_three min_three max_four min_four   -- for this text's walks alone
set_option linter.unusedVariables false
set_option linter.unusedSimpArgs false

/-! ### journal_head: function 41 -/
def journal_head.f (a0 : Int) (a1 : Int) : Option (List Int) := (wire_Number.f ([] : List Int) a0).bind fun t119 => ((wire_Number.f t119 a1).bind fun t122 => (some t122))
set_option maxHeartbeats 8000000 in
set_option maxRecDepth 100000 in
theorem journal_head.calls (a0 : Int) (a1 : Int) (r : List Int) (w : World) (h : journal_head.f a0 a1 = some r) :
  Calls Try.prog 41 #[.int .i64 a0, .int .i64 a1] w fun e w' => ∃ v0_ : Value, e = .returned (v0_) ∧ Kd.R (Kd.int .u8) 5 w' w.heap.size (fun _ => True) v0_ r ∧ Below w.heap.size w w' := by
 have HB := Aside0.mk (Below.refl w.heap.size w)
 have H : ((wire_Number.f ([] : List Int) a0).bind fun t119 => ((wire_Number.f t119 a1).bind fun t122 => (some t122))) = some r := h
 clear h
 replace H := Option.bind_eq_some_iff.mp H
 obtain ⟨t119, A30, H⟩ := H
 replace H : ((wire_Number.f t119 a1).bind fun t122 => (some t122)) = some r := H
 have A3 := Aside0.mk A30
 clear A30
 replace H := Option.bind_eq_some_iff.mp H
 obtain ⟨t122, A40, H⟩ := H
 replace H : (some t122) = some r := H
 have A4 := Aside0.mk A40
 clear A40
 obtain rfl := Option.some.inj H
 go_enter Try.func41, Try.ntmps41
 go_wp2_with (first | ((with_reducible refine gate_callee (f := 68) rfl ?_); refine goesL_ (some 6) rfl rfl Try.func68 (by kernel_rfl) rfl #[.slice none 0 0, .int .i64 a0] rfl (by (try simp only [mA, mB, mC]); first | done | rfl | (simp only [List.length_drop, List.length_take]; rfl)) ?_; (refine (wire_Number.calls _ _ ([] : List Int) a0 t119 _ ?side1 ?side2 A3.out).mono ?_); (case side1 => exact Kd.C_nil _ _); (case side2 => exact Nat.le_refl _); rintro e w5 ⟨v120, rfl, ho0, hb⟩; refine ⟨_, rfl, ?_⟩; have n0_ := aM (Kd.R_lower ho0 (below_size (by repeat (first | (with_reducible first | exact HB.out | apply below_alloc | apply pw_below_drewN | apply below_drew1) | exact HB.out)))); have n1_ := aM (below_step (by repeat (first | (with_reducible first | exact HB.out | apply below_alloc | apply pw_below_drewN | apply below_drew1) | exact HB.out)) hb); clear HB; have HO121 := n0_; have HB := n1_; clear n0_ n1_; (try clear hb); (try clear hb2); (try clear hk); (try clear hi); (try clear ho0); obtain ⟨Ao6, co6, eo6⟩ := Kd.R_slice HO121.out; subst eo6) | ((with_reducible refine gate_callee (f := 68) rfl ?_); refine goesL_ (some 8) rfl rfl Try.func68 (by kernel_rfl) rfl #[.slice Ao6 t119.length co6, .int .i64 a1] rfl (by (try simp only [mA, mB, mC]); first | done | rfl | (simp only [List.length_drop, List.length_take]; rfl)) ?_; (with_reducible refine (wire_Number.calls _ _ t119 a1 t122 _ ?side1 ?side2 A4.out).mono ?_); (case side1 => repeat (first | exact (Kd.R_reads' HO121.out).2.2 | (with_reducible refine Kd.C_alloc ?_ _) | (with_reducible refine Kd.C_drewN ?_ _) | (with_reducible refine Kd.C_drew ?_))); (case side2 => exact (Kd.R_reads' HO121.out).2.1); rintro e w7 ⟨v123, rfl, ho0, hb⟩; refine ⟨_, rfl, ?_⟩; have n0_ := aM (Kd.R_elder' (by (with_reducible repeat (first | apply Kd.R_alloc | apply Kd.R_drewN | apply Kd.R_drew)); exact HO121.out) (Kd.R_base ho0) hb); have n1_ := aM (Kd.R_lower (Kd.R_new' ho0 (Kd.R_lt (by (with_reducible repeat (first | apply Kd.R_alloc | apply Kd.R_drewN | apply Kd.R_drew)); exact HO121.out))) (below_size (by repeat (first | (with_reducible first | exact HB.out | apply below_alloc | apply pw_below_drewN | apply below_drew1) | exact HB.out)))); have n2_ := aM (below_step (by repeat (first | (with_reducible first | exact HB.out | apply below_alloc | apply pw_below_drewN | apply below_drew1) | exact HB.out)) hb); clear HO121 HB; have HO121 := n0_; have HO124 := n1_; have HB := n2_; clear n0_ n1_ n2_; (try clear hb); (try clear hb2); (try clear hk); (try clear hi); (try clear ho0)))
 go_ret
 exact ⟨_, by first | rfl | (simp [errW_none, errW_some] <;> rfl) | (simp [*, errW_none, errW_some] <;> rfl), by (with_reducible repeat (first | apply Kd.R_alloc | apply Kd.R_drewN | apply Kd.R_drew)); exact Kd.R_mono HO124.out (fun _ hk => trivial), by repeat (first | (with_reducible first | exact HB.out | apply below_alloc | apply pw_below_drewN | apply below_drew1) | exact HB.out)⟩

-- NOT PRINTED: function 36 (tape_Tape_Trim)

-- NOT PRINTED: function 44 (tape_Tape_Clear)

-- NOT PRINTED: function 35 (journal_made)

-- NOT PRINTED: function 9 (journal_Open)

/-! ### liverylaw17_few: function 10 -/
def liverylaw17_few.f (l0 : List Int) (a1 : Int) : Option (List Int) := if (l0.length : Int) > a1 then (if 0 ≤ a1 then (if a1 ≤ (l0.length : Int) then (some (l0.take (a1 : Int).toNat)) else (none)) else (none)) else (some l0)
set_option maxHeartbeats 8000000 in
set_option maxRecDepth 100000 in
theorem liverylaw17_few.calls (P0_ : Nat → Prop) (A0 : Option Addr) (c0 : Nat) (l0 : List Int) (a1 : Int) (r : List Int) (w : World) (hs0 : Kd.V (Kd.int .u8) 5 w w.heap.size (fun k_ => P0_ k_) (.slice A0 l0.length c0) l0) (h : liverylaw17_few.f l0 a1 = some r) :
  Calls Try.prog 10 #[.slice A0 l0.length c0, .int .i64 a1] w fun e w' => ∃ v0_ : Value, e = .returned (v0_) ∧ Kd.V (Kd.int .u8) 5 w' w.heap.size (fun k_ => (P0_ k_ ∨ w.heap.size ≤ k_)) v0_ r ∧ Below w.heap.size w w' := by
 have HO0 := Aside0.mk (show Kd.V (Kd.int .u8) 5 w w.heap.size (fun k_ => (P0_ k_ ∨ w.heap.size ≤ k_)) (.slice A0 l0.length c0) l0 from Kd.V_mono hs0 (fun k_ hk => .inl hk))
 have HB := Aside0.mk (Below.refl w.heap.size w)
 have H : (if (l0.length : Int) > a1 then (if 0 ≤ a1 then (if a1 ≤ (l0.length : Int) then (some (l0.take (a1 : Int).toNat)) else (none)) else (none)) else (some l0)) = some r := h
 clear h
 by_cases c3 : (l0.length : Int) > a1
 ·rw [if_pos c3] at H
  have c3b0 : decide (a1 < (l0.length : Int)) = true := decide_eq_true c3
  clear c3
  by_cases c4 : 0 ≤ a1
  ·rw [if_pos c4] at H
   have c4b0 := eq_true c4
   have c4b1 : decide (0 ≤ a1) = true := decide_eq_true c4
   clear c4
   by_cases c5 : a1 ≤ (l0.length : Int)
   ·rw [if_pos c5] at H
    have c5b0 := eq_true c5
    have c5b1 : decide (a1 ≤ (l0.length : Int)) = true := decide_eq_true c5
    clear c5
    obtain ⟨y125, hy125⟩ : ∃ y_ : List Int, y_ = (l0.take (a1 : Int).toNat) := ⟨_, rfl⟩
    replace H : (some y125) = some r := by first | (rw [hy125]; with_reducible exact H) | (have H2_ := (Option.bind_some _ _).symm.trans H; rw [hy125]; with_reducible exact H2_) | (have H2_ := (Option.bind_some _ _).symm.trans H; with_reducible exact H2_) | with_reducible exact H | (rw [hy125]; exact H) | exact H
    have Ny125 := Aside0.mk hy125
    clear hy125
    obtain rfl := Option.some.inj H
    have q6 : (a1 : Int) ≤ ((l0.length : Int) : Int) := of_decide_eq_true (by first | (with_reducible assumption) | assumption)
    obtain ⟨i06, hi06, _, hsz6, _⟩ := info_parts info5
    have hroom6 : l0.length ≤ c0 := (Kd.V_reads' HO0.out).2.1
    have hC6 : Kd.F (Kd.int .u8) _ _ A0 l0.length l0 := (Kd.V_at (base := w.heap.size) HO0.out).2.2
    have hcut6 := cut_to (P := Try.prog) 30 5 .i64 Try.underlying30 hi06 A0 l0.length c0 a1 (of_decide_eq_true (by first | (with_reducible assumption) | assumption)) q6 hroom6
    have hr6 := Kd.F_take (m := (a1 : Int).toNat) hC6 (by omega)
    have hy6 : y125.length = (a1 : Int).toNat := (by rw [Ny125.out, List.length_take]; omega)
    rw [← Ny125.out] at hr6
    rw [← hy6] at hcut6
    have HO129 := Aside0.mk (show Kd.V (Kd.int .u8) 5 _ w.heap.size _ (.slice A0 y125.length c0) y125 from Kd.V_mk (by omega) hr6)
    have HC129 := Aside0.mk (show y125.length ≤ c0 from by omega)
    clear hr6 hC6 hroom6 hi06 hsz6
    have KY6 := Aside0.mk hy6
    clear hy6
    replace q6 := eq_true q6
    go_enter Try.func10, Try.ntmps10
    go_wp2
    go_ret
    exact ⟨_, by first | rfl | (simp [errW_none, errW_some] <;> rfl) | (simp [*, errW_none, errW_some] <;> rfl), by (with_reducible repeat (first | apply Kd.V_alloc | apply Kd.V_drewN | apply Kd.V_drew)); exact HO129.out, by repeat (first | (with_reducible first | exact HB.out | apply below_alloc | apply pw_below_drewN | apply below_drew1) | exact HB.out)⟩
   ·rw [if_neg c5] at H
    exact absurd H (by simp)
  ·rw [if_neg c4] at H
   exact absurd H (by simp)
 ·rw [if_neg c3] at H
  have c3b0 : decide (a1 < (l0.length : Int)) = false := decide_eq_false c3
  clear c3
  obtain rfl := Option.some.inj H
  go_enter Try.func10, Try.ntmps10
  go_wp2
  go_ret
  exact ⟨_, by first | rfl | (simp [errW_none, errW_some] <;> rfl) | (simp [*, errW_none, errW_some] <;> rfl), by (with_reducible repeat (first | apply Kd.V_alloc | apply Kd.V_drewN | apply Kd.V_drew)); exact HO0.out, by repeat (first | (with_reducible first | exact HB.out | apply below_alloc | apply pw_below_drewN | apply below_drew1) | exact HB.out)⟩

/-! ### liverylaw17_pick: function 11 -/
def liverylaw17_pick.f (a0 : Int) (a1 : Int) : Option (Int) := if a0 < 0 then (if a1 = 0 then (none) else (some (Int.tmod (wrap64 (-(wrap64 (a0 + 1)))) a1))) else (if a1 = 0 then (none) else (some (Int.tmod a0 a1)))
set_option maxHeartbeats 8000000 in
set_option maxRecDepth 100000 in
theorem liverylaw17_pick.calls (a0 : Int) (a1 : Int) (r : Int) (w : World) (h : liverylaw17_pick.f a0 a1 = some r) :
  Calls Try.prog 11 #[.int .i64 a0, .int .i64 a1] w fun e w' => e = .returned (.int .i64 r) ∧ Drawn0 w w' := by
 have H : (if a0 < 0 then (if a1 = 0 then (none) else (some (Int.tmod (wrap64 (-(wrap64 (a0 + 1)))) a1))) else (if a1 = 0 then (none) else (some (Int.tmod a0 a1)))) = some r := h
 clear h
 by_cases c3 : a0 < 0
 ·rw [if_pos c3] at H
  have c3b0 : decide (a0 < 0) = true := decide_eq_true c3
  clear c3
  by_cases c4 : a1 = 0
  ·rw [if_pos c4] at H
   exact absurd H (by simp)
  ·rw [if_neg c4] at H
   have c4b0 : (a1 == 0) = false := beq_eq_false_iff_ne.mpr c4
   have c4b1 : (a1 != 0) = true := bne_iff_ne.mpr c4
   obtain rfl := Option.some.inj H
   go_enter Try.func11, Try.ntmps11
   go_wp2
   go_ret
   exact ⟨by first | rfl | (simp; done) | (simp [*]; done), by repeat (first | exact Drawn0.refl _ | apply Drawn0.step)⟩
 ·rw [if_neg c3] at H
  have c3b0 : decide (a0 < 0) = false := decide_eq_false c3
  clear c3
  by_cases c5 : a1 = 0
  ·rw [if_pos c5] at H
   exact absurd H (by simp)
  ·rw [if_neg c5] at H
   have c5b0 : (a1 == 0) = false := beq_eq_false_iff_ne.mpr c5
   have c5b1 : (a1 != 0) = true := bne_iff_ne.mpr c5
   obtain rfl := Option.some.inj H
   go_enter Try.func11, Try.ntmps11
   go_wp2
   go_ret
   exact ⟨by first | rfl | (simp; done) | (simp [*]; done), by repeat (first | exact Drawn0.refl _ | apply Drawn0.step)⟩

-- NOT PRINTED: function 67 (slices_IndexFunc_byte_byte)

-- NOT PRINTED: function 37 (slices_ContainsFunc_byte_byte)

-- NOT PRINTED: function 43 (journal_Journal_breaks)

-- NOT PRINTED: function 12 (journal_Journal_Renew)

/-! ### journal_is: function 39 -/
def journal_is.f (l0 : List Int) : Option (Bool) := if (l0.length : Int) ≥ 1 then (some (decide ((l0.length : Int) ≤ 8192))) else (some false)
set_option maxHeartbeats 8000000 in
set_option maxRecDepth 100000 in
theorem journal_is.calls (A0 : Option Addr) (c0 : Nat) (l0 : List Int) (r : Bool) (w : World) (hr0 : Kd.C (Kd.int .u8) w A0 l0.length l0) (hc0 : l0.length ≤ c0) (h : journal_is.f l0 = some r) :
  Calls Try.prog 39 #[.slice A0 l0.length c0] w fun e w' => e = .returned (.bool r) ∧ Drawn0 w w' := by
 have HR0 := Aside0.mk hr0
 have HC0 := Aside0.mk hc0
 clear hr0 hc0
 have H : (if (l0.length : Int) ≥ 1 then (some (decide ((l0.length : Int) ≤ 8192))) else (some false)) = some r := h
 clear h
 by_cases c2 : (l0.length : Int) ≥ 1
 ·rw [if_pos c2] at H
  have c2b0 : decide (1 ≤ (l0.length : Int)) = true := decide_eq_true c2
  have c2b1 : decide (1 ≤ l0.length) = true := decide_eq_true (by omega)
  clear c2
  obtain rfl := Option.some.inj H
  go_enter Try.func39, Try.ntmps39
  go_wp2
  go_ret
  exact ⟨by first | rfl | (simp; done) | (simp [*]; done), by repeat (first | exact Drawn0.refl _ | apply Drawn0.step)⟩
 ·rw [if_neg c2] at H
  have c2b0 : decide (1 ≤ (l0.length : Int)) = false := decide_eq_false c2
  have c2b1 : decide (1 ≤ l0.length) = false := decide_eq_false (by omega)
  clear c2
  obtain rfl := Option.some.inj H
  go_enter Try.func39, Try.ntmps39
  go_wp2
  go_ret
  exact ⟨by first | rfl | (simp; done) | (simp [*]; done), by repeat (first | exact Drawn0.refl _ | apply Drawn0.step)⟩

-- NOT PRINTED: function 13 (journal_Journal_Append)

-- NOT PRINTED: function 14 (journal_Journal_Records)

end Go.Proofs.Ytmfmoddaejoekaa.P
end
