/- Contracts, typed by hand, of layer 10's functions that go through a closure. -/
import Derived.Test.YtadkafhhkidecaaHBase
import Derived.Test.YtadkafhhkidecaaP1
import Derived.Deep.QuietTactic
import Derived.BigQuiet
namespace Go.Proofs.Ytadkafhhkidecaa.P
open Go.RowKit Go.Proofs.YtadkafhhkidecaaW.PrintWords Go.Proofs.YtadkafhhkidecaaW.PrintLast Go.Proofs.YtadkafhhkidecaaW.PrintMore
set_option linter.unusedVariables false
set_option linter.unusedSimpArgs false
attribute [local go_sem] max2_int min2_int max_two min_two max_three min_three max_four min_four

/-- What a vector says of a domain. -/
def getV (l : List Int) (d : Int) : Int := if d < 1 then 0 else if mn (l.length : Int) 16 < d then 0 else mx 0 (mn (rd l (d - 1)) 1099511627776)
theorem mn_le (a b : Int) : mn a b ≤ a ∧ mn a b ≤ b := by unfold mn; split <;> omega
theorem vector_Get_eq (l : List Int) (d : Int) : vector_Get.f l d = some (getV l d) := by
  unfold vector_Get.f getV
  by_cases h1 : d < 1
  · rw [if_pos h1, if_pos h1]
  · rw [if_neg h1, if_neg h1]
    by_cases h2 : d > mn (l.length : Int) 16
    · rw [if_pos h2, if_pos h2]
    · have hm := mn_le (l.length : Int) 16
      have hw : wrap64 (d - 1) = d - 1 := by unfold wrap64; omega
      rw [if_neg h2, if_neg h2, hw, if_pos (by omega), if_pos (by omega)]
theorem getV_range (l : List Int) (d : Int) : 0 ≤ getV l d ∧ getV l d ≤ 1099511627776 := by
  unfold getV mx mn
  repeat' split
  all_goals omega
/-- The last of the first n domains of which more than 0 is told. -/
def lastPos (of : Int → Int) : Nat → Nat
  | 0 => 0
  | n + 1 => if 0 < of ((n : Int) + 1) then n + 1 else lastPos of n
theorem lastPos_le (of : Int → Int) : ∀ n, lastPos of n ≤ n
  | 0 => Nat.le_refl _
  | n + 1 => by unfold lastPos; have := lastPos_le of n; split <;> omega
/-- What is told of the first n domains. -/
def rowOf (of : Int → Int) (n : Nat) : List Int := (List.range n).map fun (i : Nat) => of ((i : Int) + 1)
theorem rowOf_length (of : Int → Int) (n : Nat) : (rowOf of n).length = n := by simp [rowOf]
theorem rowOf_succ (of : Int → Int) (n : Nat) : rowOf of (n + 1) = rowOf of n ++ [of ((n : Int) + 1)] := by simp [rowOf, List.range_succ]
/-- The bare vector of what is told of each domain. -/
def bareOf (of : Int → Int) : List Int := (rowOf of 16).take (lastPos of 16)
theorem hinfo3 : (Try.prog.info? 3).map (fun i => (i.zero, i.size, i.bytes)) = some (some (.int .i64 0), 1, 8) := by kernel_rfl
/-- The row in the making: n are told, the others are 0. -/
def madeRow (of : Int → Int) (n : Nat) : List Int := rowOf of n ++ List.replicate (16 - n) 0
theorem madeRow_length (of : Int → Int) (n : Nat) (h : n ≤ 16) : (madeRow of n).length = 16 := by simp [madeRow, rowOf_length]; omega
theorem madeRow_set (of : Int → Int) (n : Nat) (h : n < 16) : (madeRow of n).set n (of ((n : Int) + 1)) = madeRow of (n + 1) := by
  unfold madeRow
  rw [rowOf_succ, List.set_append_right _ _ (by rw [rowOf_length]; exact Nat.le_refl _), rowOf_length, Nat.sub_self]
  obtain ⟨m, hm⟩ : ∃ m, 16 - n = m + 1 := ⟨15 - n, by omega⟩
  rw [hm, show 16 - (n + 1) = m by omega, List.replicate_succ, List.set_cons_zero, List.append_assoc, List.singleton_append]
theorem madeRow_get (of : Int → Int) (n : Nat) (h : n < 16) : (madeRow of (n + 1)).getD n 0 = of ((n : Int) + 1) := by
  unfold madeRow
  rw [rowOf_succ, List.append_assoc, List.getD_eq_getElem?_getD, List.getElem?_append_right (by rw [rowOf_length]; exact Nat.le_refl _), rowOf_length, Nat.sub_self]
  rfl
theorem bareOf_length (of : Int → Int) : (bareOf of).length = lastPos of 16 := by
  have := lastPos_le of 16
  rw [bareOf, List.length_take, rowOf_length]; omega
theorem bare_V {of : Int → Int} {W : World} {g base : Nat} (h : W.ownsRow base 3 1 (.slice (some ⟨g, 0, none⟩) 16 16) 16 (nums .i64 (madeRow of 16))) (hb : base ≤ g) :
    Kd.V (Kd.int .i64) 3 W base (fun k_ => base ≤ k_) (.slice (some ⟨g, 0, none⟩) (lastPos of 16) (lastPos of 16)) (bareOf of) := by
  have e : madeRow of 16 = rowOf of 16 := by simp [madeRow]
  rw [e] at h
  have hR : (Kd.int .i64).R 3 W base (fun k_ => base ≤ k_) (.slice (some ⟨g, 0, none⟩) 16 16) (rowOf of 16) :=
    Kd.R_of_own (enc := Value.int .i64) (h1 := fun _ => rfl) (by rw [rowOf_length]; exact h) (fun k hk => by
      have e2 : g = k := by simpa [Value.ownBlock] using hk
      exact e2 ▸ hb)
  obtain ⟨h1, h2, hF⟩ := Kd.V_at (Kd.R_V (base' := base) hR)
  have hT := Kd.F_take hF (m := lastPos of 16) (by rw [rowOf_length]; exact lastPos_le of 16)
  have hl := bareOf_length of
  refine ⟨_, lastPos of 16, by rw [hl], by rw [hl]; exact Nat.le_refl _, ?_⟩
  exact hT

set_option maxHeartbeats 1000000 in
theorem made_Bare (b1 : Addr) (of : Int → Int) (w : World) (hof : ∀ d, -9223372036854775808 ≤ of d ∧ of d ≤ 9223372036854775807)
    (hcall : Aside0 (∀ (W : World) (d : Int), Below w.heap.size w W → 1 ≤ d → d ≤ 16 → Calls Try.prog 47 #[.int .i64 d, .pointer (some b1)] W fun e W' => e = .returned (.int .i64 (of d)) ∧ Below W.heap.size W W')) :
    Calls Try.prog 46 #[.func (.func 47) #[] #[.pointer (some b1)]] w fun e w' => ∃ v0_ : Value, e = .returned (v0_) ∧ Kd.V (Kd.int .i64) 3 w' w.heap.size (fun k_ => w.heap.size ≤ k_) v0_ (bareOf of) ∧ Below w.heap.size w w' ∧ Plain w' v0_ := by
  have HF := Aside0.mk hof
  clear hof
  have hmk : ∀ W : World, (Instr.makeSlice 30 (.int .i64 16) (.int .i64 16)).run Try.prog W = .ok (.slice (some ⟨W.heap.size, 0, none⟩) 16 16) (W.alloc (.cells (madeCells #[.int .i64 0] 16) 3)) := fun W => run_make_row' 30 3 (.int .i64 0) 8 Try.underlying30 hinfo3 rfl .i64 .i64 16 (by omega) (by omega) W
  go_enter Try.func46, Try.ntmps46
  go_wp2_with fail
  clear hmk
  have HO := Aside0.mk (own_made w w.heap.size 3 .i64 16 (Nat.le_refl _) (by omega))
  have e0 : List.replicate 16 (0 : Int) = madeRow of 0 := by simp [madeRow, rowOf]
  rw [e0] at HO
  clear e0
  have HB := Aside0.mk (below_alloc (Below.refl w.heap.size w) (.cells (madeCells #[.int .i64 0] 16) 3))
  go_loopw [4, 5] (fun s4 s5 wr => ∃ i : Nat, i ≤ 16 ∧ s5 = .int .i64 ((i : Int) + 1) ∧ s4 = .int .i64 ((lastPos of i : Nat) : Int) ∧ Aside0 (wr.ownsRow w.heap.size 3 1 (.slice (some ⟨w.heap.size, 0, none⟩) 16 16) 16 (nums .i64 (madeRow of i))) ∧ Aside0 (Below w.heap.size w wr)) (fun _ s5 _ => (17 - intOf s5).toNat)
  case atStart => exact ⟨0, by omega, rfl, rfl, HO, HB⟩
  case round =>
    obtain ⟨i, hi, rfl, rfl, HO, HB⟩ := hrel
    have hlp := lastPos_le of i
    by_cases hlt : i < 16
    · go_wp2_with fail
      refine (hcall.out wr ((i : Int) + 1) HB.out (by omega) (by omega)).mono ?_
      rintro e w' ⟨rfl, hb⟩
      have HO2 := Aside0.mk (pw_own_below HO.out hb)
      have HB2 := Aside0.mk (below_step HB.out hb)
      clear HO HB hb
      obtain ⟨hc, hf⟩ := own_at HO2.out (i : Int) (by omega) (by omega)
      rw [Int.toNat_natCast] at hc hf
      obtain ⟨ho3, hg3⟩ := own_store HO2.out (i : Int) (of ((i : Int) + 1))
      rw [Int.toNat_natCast, madeRow_set of i hlt] at ho3
      have HO3 := Aside0.mk ho3
      have HB3 := Aside0.mk (Below.setCell (p := ⟨w.heap.size, i, none⟩) HB2.out (Nat.le_refl _) (.int .i64 (of ((i : Int) + 1))))
      have hc3 := (own_at HO3.out (i : Int) (by omega) (by omega)).1
      rw [Int.toNat_natCast, rd, Int.toNat_natCast, madeRow_get of i hlt] at hc3
      clear ho3 hg3
      have hr := HF.out ((i : Int) + 1)
      go_wp2_with fail
      all_goals refine ⟨⟨i + 1, by omega, by simp, ?_, HO3, HB3⟩, by simp [intOf]; omega⟩
      all_goals first | (rw [lastPos, if_pos (by assumption)]; simp; done) | (rw [lastPos, if_neg (by omega)])
    · have e16 : i = 16 := by omega
      subst e16
      go_wp2_with fail
      go_ret
      exact ⟨_, rfl, bare_V HO.out (Nat.le_refl _), HB.out, (own_plain HO.out).cut⟩

theorem Get0.calls (A : Option Addr) (c : Nat) (l : List Int) (d : Int) (w : World) (hr : Kd.C (Kd.int .i64) w A l.length l) :
    Calls Try.prog 35 #[.slice A l.length c, .int .i64 d] w fun e w' => e = .returned (.int .i64 (getV l d)) ∧ w' = w := by
  have HR := Aside0.mk hr
  have hmax := C_max hr
  clear hr
  unfold getV
  by_cases h1 : d < 1
  · rw [if_pos h1]
    have hb1 : decide (d < 1) = true := by simpa using h1
    go_enter Try.func35, Try.ntmps35
    go_wp2_with fail
    go_ret
    exact ⟨rfl, rfl⟩
  · rw [if_neg h1]
    have hb1 : decide (d < 1) = false := by simpa using h1
    obtain ⟨m, hm⟩ : ∃ m, mn (l.length : Int) 16 = m := ⟨_, rfl⟩
    have hm3 := mn_le (l.length : Int) 16
    rw [hm] at hm3 ⊢
    unfold mn at hm
    by_cases h2 : m < d
    · rw [if_pos h2]
      go_enter Try.func35, Try.ntmps35
      go_wp2_with fail
      go_ret
      exact ⟨rfl, rfl⟩
    · rw [if_neg h2]
      obtain ⟨ad, rfl, hc⟩ := Kd.at_int HR.out (d - 1) (by omega) (by omega)
      obtain ⟨x, hx⟩ : ∃ x, rd l (d - 1) = x := ⟨_, rfl⟩
      rw [hx] at hc ⊢
      obtain ⟨m1, hm1⟩ : ∃ m, mn x 1099511627776 = m := ⟨_, rfl⟩
      obtain ⟨m2, hm2⟩ : ∃ m2, mx 0 m1 = m2 := ⟨_, rfl⟩
      rw [hm1, hm2]
      unfold mn at hm1
      unfold mx at hm2
      clear hx
      rw [show (d - 1).toNat = d.toNat - 1 by omega] at hc
      go_enter Try.func35, Try.ntmps35
      go_wp2_with fail
      go_ret
      exact ⟨rfl, rfl⟩
theorem Bare1.calls (b1 : Nat) (A : Option Addr) (c : Nat) (l : List Int) (d : Int) (w : World) (hc : w.cell? ⟨b1, 0, none⟩ = some (.slice A l.length c)) (hr : Kd.C (Kd.int .i64) w A l.length l) (hcap : l.length ≤ c) :
    Calls Try.prog 47 #[.int .i64 d, .pointer (some ⟨b1, 0, none⟩)] w fun e w' => e = .returned (.int .i64 (getV l d)) ∧ Below w.heap.size w w' := by
  have HR := Aside0.mk hr
  have HC := Aside0.mk hcap
  clear hr hcap
  go_enter Try.func47, Try.ntmps47
  go_wp2_with fail
  refine (vector_Get.calls A c l d _ _ HR.out HC.out (vector_Get_eq l d)).mono ?_
  rintro e w' ⟨rfl, hb⟩
  have HB := Aside0.mk hb
  clear hb
  go_wp2_with fail
  go_ret
  exact ⟨rfl, HB.out⟩

theorem getV_wf (l : List Int) (d : Int) : -9223372036854775808 ≤ getV l d ∧ getV l d ≤ 9223372036854775807 := by
  have := getV_range l d; omega
theorem box_cell (w : World) (x : Value) (t : TypeId) : (w.alloc (.cells #[x] t)).cell? ⟨w.heap.size, 0, none⟩ = some x := cell_one_new w x t 0 x rfl
/-- A box just made is still there. -/
theorem box_later {w W : World} {x : Value} {t : TypeId} {b : Nat} (h : Below b (w.alloc (.cells #[x] t)) W) (hb : w.heap.size < b) : W.cell? ⟨w.heap.size, 0, none⟩ = some x := (h.cell (p := ⟨w.heap.size, 0, none⟩) hb).trans (box_cell w x t)
theorem cell_up {w W : World} {a : Addr} {x : Value} (hc : w.cell? a = some x) (h : Below w.heap.size w W) : W.cell? a = some x := pw_cell_below h hc

def vector_Bare.f (l0 : List Int) : Option (List Int) := some (bareOf (getV l0))
theorem vector_Bare.callsP (A0 : Option Addr) (c0 : Nat) (l0 : List Int) (r : List Int) (w : World) (hr0 : Kd.C (Kd.int .i64) w A0 l0.length l0) (hc0 : l0.length ≤ c0) (h : vector_Bare.f l0 = some r) :
    Calls Try.prog 39 #[.slice A0 l0.length c0] w fun e w' => ∃ v0_ : Value, e = .returned (v0_) ∧ Kd.V (Kd.int .i64) 3 w' w.heap.size (fun k_ => w.heap.size ≤ k_) v0_ r ∧ Below w.heap.size w w' ∧ Plain w' v0_ := by
  cases h
  have HR := Aside0.mk hr0
  have HC := Aside0.mk hc0
  clear hr0 hc0
  have HB := Aside0.mk (Below.alloc (Below.refl w.heap.size w) (Nat.le_refl _) (.cells #[.slice A0 l0.length c0] 30))
  have H : Aside0 (∀ (W : World) (d : Int), Below (w.alloc (.cells #[.slice A0 l0.length c0] 30)).heap.size (w.alloc (.cells #[.slice A0 l0.length c0] 30)) W → 1 ≤ d → d ≤ 16 → Calls Try.prog 47 #[.int .i64 d, .pointer (some ⟨w.heap.size, 0, none⟩)] W fun e W' => e = .returned (.int .i64 (getV l0 d)) ∧ Below W.heap.size W W') :=
    ⟨fun W d hb _ _ => Bare1.calls w.heap.size A0 c0 l0 d W (box_later hb (by simp)) (Kd.C_below (Kd.C_below HR.out HB.out) hb) HC.out⟩
  go_enter Try.func39, Try.ntmps39
  go_wp2_with fail
  refine (made_Bare ⟨w.heap.size, 0, none⟩ (getV l0) _ (getV_wf l0) H).mono ?_
  rintro e w' ⟨v, rfl, hV, hB, hP⟩
  have HP := Aside0.mk hP
  clear hP
  have HV := Aside0.mk hV
  have HB2 := Aside0.mk hB
  clear hV hB
  go_wp2_with fail
  go_ret
  exact ⟨_, rfl, Kd.V_mono HV.out (fun k hk => by simp at hk; omega), HB.out.trans (HB2.out.mono (by simp)), HP.out⟩
theorem vector_Bare.calls (A0 : Option Addr) (c0 : Nat) (l0 : List Int) (r : List Int) (w : World) (hr0 : Kd.C (Kd.int .i64) w A0 l0.length l0) (hc0 : l0.length ≤ c0) (h : vector_Bare.f l0 = some r) :
    Calls Try.prog 39 #[.slice A0 l0.length c0] w fun e w' => ∃ v0_ : Value, e = .returned (v0_) ∧ Kd.V (Kd.int .i64) 3 w' w.heap.size (fun k_ => w.heap.size ≤ k_) v0_ r ∧ Below w.heap.size w w' := (vector_Bare.callsP A0 c0 l0 r w hr0 hc0 h).mono fun e w' ⟨v, h1, h2, h3, _⟩ => ⟨v, h1, h2, h3⟩

def vector_With.f (l0 : List Int) (a1 a2 : Int) : Option (List Int) := some (bareOf (fun d => if d = a1 then mx 0 (mn a2 1099511627776) else getV l0 d))
def vector_Join.f (l0 l1 : List Int) : Option (List Int) := some (bareOf (fun d => mx (getV l0 d) (getV l1 d)))
end Go.Proofs.Ytadkafhhkidecaa.P
