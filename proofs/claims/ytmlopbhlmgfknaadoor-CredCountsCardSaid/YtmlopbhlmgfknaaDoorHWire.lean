/- Contracts, typed by hand, of layer 3's functions. -/
import Derived.Test.YtmlopbhlmgfknaaDoorHBase
import Derived.Test.YtmlopbhlmgfknaaDoorHShelf
namespace Go.Proofs.YtmlopbhlmgfknaaDoor.P
open Go.RowKit Go.Proofs.YtmlopbhlmgfknaaDoorW.PrintWords Go.Proofs.YtmlopbhlmgfknaaDoorW.PrintLast Go.Proofs.YtmlopbhlmgfknaaDoorW.PrintMore
set_option linter.unusedVariables false
set_option linter.unusedSimpArgs false
attribute [local go_sem] max2_int min2_int max_two min_two max_three min_three max_four min_four

theorem slices_Clip.calls (A : Option Addr) (n c : Nat) (w : World) (h : n ≤ c) (hm : n ≤ 9223372036854775807) :
    Calls Tryd.prog 40 #[.slice A n c] w fun e w' => e = .returned (.slice A n n) ∧ w = w' := by
  go_enter Tryd.func40, Tryd.ntmps40
  go_wp2
  go_ret
  exact ⟨rfl, rfl⟩

theorem wire_Number.core (A0 : Option Addr) (c0 : Nat) (l0 : List Int) (a1 m : Int) (w : World) (hr0 : Kd.C (Kd.int .u8) w A0 l0.length l0) (hc0 : l0.length ≤ c0) (h0 : 0 ≤ m) (h63 : m ≤ 9223372036854775807)
   (hmx : (if 0 < a1 then a1 else 0) = m)
   (hl : l0.length + 16 ≤ 140737488355328) :
    Calls Tryd.prog 28 #[.slice A0 l0.length c0, .int .i64 a1] w fun e w' => ∃ v0_ : Value, e = .returned (v0_) ∧ Kd.R (Kd.int .u8) 5 w' w.heap.size (fun _ => True) v0_ (l0 ++ numB m) ∧ Below w.heap.size w w' := by
  have HR0 := Aside0.mk hr0
  have H64 : Aside0 (m.toNat < 18446744073709551616) := ⟨by omega⟩
  clear hr0
  go_enter Tryd.func28, Tryd.ntmps28
  go_wp2_with fail
  clear hmx
  have HL : ∃ bl : Nat, numLen m.toNat = (bl + 7) / 8 ∧ bl ≤ 64 ∧ Calls Tryd.prog 39 #[.int .u64 m] w fun e w' => e = .returned (.int .i64 (bl : Int)) ∧ w = w' :=
   ⟨_, rfl, Lib.bitLen_le _ 64 (by omega) (by omega), (Tryd.bits_Len m w h0 (by omega)).mono fun _ _ h => ⟨h.1, h.2.symm⟩⟩
  obtain ⟨bl, hbl, hbl2, hcall⟩ := HL
  have Hbl := Aside0.mk hbl
  clear hbl
  refine hcall.mono ?_
  clear hcall
  rintro e w' ⟨rfl, rfl⟩
  go_wp2_with fail
  refine (slices_Clip.calls A0 l0.length c0 _ hc0 (by omega)).mono ?_
  rintro e w' ⟨rfl, rfl⟩
  obtain ⟨i0, hi, hzz⟩ := Option.map_eq_some_iff.1 hinfo5
  simp only [Prod.mk.injEq] at hzz
  obtain ⟨hz0, hz1, hz2⟩ := hzz
  have HI := Aside0.mk (And.intro hi (And.intro hz0 (And.intro hz1 hz2)))
  clear hi hz0 hz1 hz2
  go_wp2_with (at_builtin; go_loud (refine wpList_append_grows _ rfl (.tmp 15) (.tmp 18) 41 rfl 5 i0 (.int .u8 0) 1 1 Tryd.underlying41 HI.out.1 HI.out.2.1 HI.out.2.2.1 HI.out.2.2.2 rfl (by decide) A0 l0.length l0.length (nums .u8 l0) rfl ?c1 ?c2 ?c3 ⟨w.heap.size, 0, none⟩ 1 1 [.int .u8 (((bl : Int) + 7) / 8)] rfl rfl ?c4 ?c5 ?c6 ?c7 ?c8 ?_))
  case c1 => intro e; subst e; have := C_none HR0.out; omega
  case c2 => simp [nums]
  case c3 => exact fun b hb j u hu => pw_cell_below (below_alloc (Below.refl _ _) _) (C_cells HR0.out b hb j u hu)
  case c4 => exact World.news_of_block (cs := #[_]) (t := 5) (fr := (0, 0)) (heap_alloc_new w _)
  case c5 => simp [Value.oneCell']
  case c6 => omega
  case c7 => simp only [maxLen]; omega
  case c8 => omega
  intro v1 w1 hown hgr
  have HO : Aside0 (w1.ownsRow w.heap.size 5 1 v1 (l0 ++ ((numLen m.toNat : Nat) : Int) :: digs (m.toNat / 256 ^ (numLen m.toNat))).length (nums .u8 (l0 ++ ((numLen m.toNat : Nat) : Int) :: digs (m.toNat / 256 ^ (numLen m.toNat))))) := by
    rw [div_numLen _ H64.out, digs_zero]
    refine ⟨?_⟩
    have hx : nums .u8 (l0 ++ [((numLen m.toNat : Nat) : Int)]) = nums .u8 l0 ++ [.int .u8 (((bl : Int) + 7) / 8)] := by
      rw [nums_append, Hbl.out]; simp [nums]
    rw [hx, List.length_append]
    exact own_weaken hown (by simp)
  have HB : Aside0 (Below w.heap.size w w1) := ⟨(below_alloc (Below.refl _ _) _).grown hgr (by simp) (by simp)⟩
  clear hown hgr
  go_wp2_with fail
  go_loopw [5, 6] (fun s5 s6 wr => ∃ k : Int, -1 ≤ k ∧ k < 9 ∧ s5 = .int .i64 k ∧ Aside0 (k < (numLen m.toNat : Int)) ∧ Aside0 (wr.ownsRow w.heap.size 5 1 s6 (l0 ++ ((numLen m.toNat : Nat) : Int) :: digs (m.toNat / 256 ^ (k + 1).toNat)).length (nums .u8 (l0 ++ ((numLen m.toNat : Nat) : Int) :: digs (m.toNat / 256 ^ (k + 1).toNat)))) ∧ Aside0 (Below w.heap.size w wr)) (fun s5 _ _ => (intOf s5 + 1).toNat)
  case atStart =>
    refine ⟨((bl : Int) + 7) / 8 - 1, by omega, by omega, rfl, ⟨?_⟩, ?_, HB⟩
    · have := Hbl.out; omega
    · have e : (((bl : Int) + 7) / 8 - 1 + 1).toNat = numLen m.toNat := by have := Hbl.out; omega
      rw [e]
      exact HO
  case round =>
    obtain ⟨k, hk1, hk2, rfl, HK, HO2, HB2⟩ := hrel
    clear HO HB
    by_cases hk : 0 ≤ k
    · go_wp2_with (at_builtin; go_loud (refine print_append_num (w0 := w) w.heap.size rfl (.tmp 26) (.tmp 32) 41 5 .u8 1 rfl Tryd.underlying41 hinfo5 (by decide) u6 (l0 ++ ((numLen m.toNat : Nat) : Int) :: digs (m.toNat / 256 ^ (k + 1).toNat)) (m / 2 ^ (8 * k).toNat % 256) rfl rfl HO2.out HB2.out ?c1 ?c2 ?_))
      case c1 => exact below_size HB2.out
      case c2 => 
        have h1 := digs_le8 _ (div_le m.toNat (256 ^ (k + 1).toNat) (by omega))
        simp only [List.length_append, List.length_cons]
        omega
      intro v2 w2 hown2 hb2 hg2 hat2
      clear hg2 hat2
      have HO3 : Aside0 (w2.ownsRow w.heap.size 5 1 v2 (l0 ++ ((numLen m.toNat : Nat) : Int) :: digs (m.toNat / 256 ^ (k - 1 + 1).toNat)).length (nums .u8 (l0 ++ ((numLen m.toNat : Nat) : Int) :: digs (m.toNat / 256 ^ (k - 1 + 1).toNat)))) := by
        have e1 : (k + 1).toNat = k.toNat + 1 := by omega
        have e2 : (k - 1 + 1).toNat = k.toNat := by omega
        rw [e2, digs_step m.toNat k.toNat H64.out (by have := HK.out; omega), ← shr_byte m k h0 hk]
        rw [e1] at hown2
        refine ⟨?_⟩
        have e4 : (l0 ++ ((numLen m.toNat : Nat) : Int) :: (digs (m.toNat / 256 ^ (k.toNat + 1)) ++ [m / 2 ^ (8 * k).toNat % 256])).length = l0.length + ((digs (m.toNat / 256 ^ (k.toNat + 1))).length + 1 + 1) := by simp
        rw [e4]
        exact hown2
      have HB3 := Aside0.mk hb2
      clear hown2 hb2 HO2 HB2
      go_wp2_with fail
      go_roundw
      case rel => exact ⟨k - 1, by omega, by omega, rfl, ⟨by have := HK.out; omega⟩, HO3, HB3⟩
      case measure => simp [intOf]; omega
    · go_wp2_with fail
      go_ret
      have e : (k + 1).toNat = 0 := by omega
      have HO4 := HO2.out
      rw [e, Nat.pow_zero, Nat.div_one] at HO4
      exact ⟨_, rfl, R_of_ownsRow HO4, HB2.out⟩
/-- What 'wire.Number' answers. -/
def wire_Number.f (l0 : List Int) (a1 : Int) : Option (List Int) := if l0.length + 16 ≤ 140737488355328 then (if a1 ≤ 9223372036854775807 then some (l0 ++ numB a1) else none) else none
theorem numB_neg {a : Int} (h : a ≤ 0) : numB a = numB 0 := by unfold numB; rw [show a.toNat = (0 : Int).toNat by omega]
theorem wire_Number.calls (A0 : Option Addr) (c0 : Nat) (l0 : List Int) (a1 : Int) (r : List Int) (w : World) (hr0 : Kd.C (Kd.int .u8) w A0 l0.length l0) (hc0 : l0.length ≤ c0) (h : wire_Number.f l0 a1 = some r) :
    Calls Tryd.prog 28 #[.slice A0 l0.length c0, .int .i64 a1] w fun e w' => ∃ v0_ : Value, e = .returned (v0_) ∧ Kd.R (Kd.int .u8) 5 w' w.heap.size (fun _ => True) v0_ r ∧ Below w.heap.size w w' := by
  unfold wire_Number.f at h
  by_cases h1 : l0.length + 16 ≤ 140737488355328
  · rw [if_pos h1] at h
    by_cases h2 : a1 ≤ 9223372036854775807
    · rw [if_pos h2] at h
      cases h
      by_cases h3 : 0 < a1
      · exact wire_Number.core A0 c0 l0 a1 a1 w hr0 hc0 (by omega) h2 (if_pos h3) h1
      · rw [numB_neg (by omega)]
        exact wire_Number.core A0 c0 l0 a1 0 w hr0 hc0 (by omega) (by omega) (if_neg h3) h1
    · rw [if_neg h2] at h; cases h
  · rw [if_neg h1] at h; cases h

end Go.Proofs.YtmlopbhlmgfknaaDoor.P
