/- Written by a program of this session's, for this claim: the functions that the law reaches, their contracts, the law's row. Not trusted: it is checked as any text. -/
import Derived.Test.YtpnmmkoiemeodaaDoorP0
namespace Go.Proofs.YtpnmmkoiemeodaaDoor.P
open Go.RowKit Go.Proofs.YtpnmmkoiemeodaaDoorW.PrintWords Go.Proofs.YtpnmmkoiemeodaaDoorW.PrintLast Go.Proofs.YtpnmmkoiemeodaaDoorW.PrintMore
attribute [local go_sem] max2_int min2_int max_two min_two max_three min_three max_four min_four   -- for this text's walks alone
set_option linter.unusedVariables false
set_option linter.unusedSimpArgs false

/-! ### liveryref04_Domain: function 29 -/
def liveryref04_Domain.j0 : Nat → Int → Bool → Option (ByteArray)
  | 0, _, _ => none
  | k + 1, x0, x8 => if x8 = true then (some (⟨#[]⟩ : ByteArray)) else (if x0 < 10 then ((some (([(wrap64 (48 + x0)) % 256] : List Int) : List Int)).bind fun y143 => (if 1 + (strOfNums y143).size ≤ 9223372036854775807 then (some ((⟨#[100]⟩ : ByteArray) ++ (strOfNums y143))) else (none))) else ((some (([(wrap64 ((wrap64 (48 + x0)) - 10)) % 256] : List Int) : List Int)).bind fun y146 => (if 2 + (strOfNums y146).size ≤ 9223372036854775807 then (some ((⟨#[100, 49]⟩ : ByteArray) ++ (strOfNums y146))) else (none))))
def liveryref04_Domain.f (k : Nat) (a0 : Int) : Option (ByteArray) := if a0 < 1 then (liveryref04_Domain.j0 k a0 true) else (liveryref04_Domain.j0 k a0 (decide (a0 > 16)))
set_option maxHeartbeats 8000000 in
set_option maxRecDepth 100000 in
theorem liveryref04_Domain.calls (k : Nat) (a0 : Int) (r : ByteArray) (w : World) (h : liveryref04_Domain.f k a0 = some r) :
    Calls Tryd.prog 29 #[.int .i64 a0] w fun e w' => e = .returned (.string r) ∧ Below w.heap.size w w' := by
  have HB := Aside0.mk (Below.refl w.heap.size w)
  have H : (if a0 < 1 then (liveryref04_Domain.j0 k a0 true) else (liveryref04_Domain.j0 k a0 (decide (a0 > 16)))) = some r := h
  clear h
  have HC2 := Aside0.mk H
  clear H
  go_enter Tryd.func29, Tryd.ntmps29
  go_upto_region 1 with (fail)
  go_cut [8] (fun v8 wc => ∃ (kq : Nat) (x8_1 : Bool), v8 = .bool x8_1 ∧ Aside0 (liveryref04_Domain.j0 kq a0 x8_1 = some r) ∧ Aside0 (kq ≤ k) ∧ Aside0 (Below w.heap.size w wc))
  case first =>
    have H := HC2.out
    clear HC2
    by_cases c3 : a0 < 1
    · rw [if_pos c3] at H
      have c3b0 : decide (a0 < 1) = true := decide_eq_true c3
      clear c3
      (first | rw [c3b0] | (simp only [i64_w, i32_w]; rw [c3b0]) | skip)
      have H' := Aside0.mk H
      clear H
      go_wp2
      go_meet
      case rel => exact ⟨_, (true), (by first | rfl | (simp; done) | (simp [*]; done)), H', ⟨by first | omega | exact Nat.le_refl _⟩, ⟨by repeat (first | (with_reducible first | exact HB.out | apply below_alloc | apply pw_below_drewN | apply below_drew1) | exact HB.out)⟩⟩
    · rw [if_neg c3] at H
      have c3b0 : decide (a0 < 1) = false := decide_eq_false c3
      clear c3
      (first | rw [c3b0] | (simp only [i64_w, i32_w]; rw [c3b0]) | skip)
      have H' := Aside0.mk H
      clear H
      go_wp2
      go_meet
      case rel => exact ⟨_, (decide (a0 > 16)), (by first | rfl | (simp; done) | (simp [*]; done)), H', ⟨by first | omega | exact Nat.le_refl _⟩, ⟨by repeat (first | (with_reducible first | exact HB.out | apply below_alloc | apply pw_below_drewN | apply below_drew1) | exact HB.out)⟩⟩
  case rest =>
    clear HC2
    try clear c2
    try clear p2
    try clear c3
    try clear c3b0
    obtain ⟨kq, x8_1, rfl, HA, HJ1, HB⟩ := hcut
    cases kq with
    | zero => exact absurd HA.out (by simp [liveryref04_Domain.j0])
    | succ kj1 =>
      have H := HA.out
      clear HA
      simp only [liveryref04_Domain.j0] at H
      by_cases c4 : x8_1 = true
      · subst c4
        have H1 : (some (⟨#[]⟩ : ByteArray)) = some r := by rw [if_pos rfl] at H; exact H
        clear H
        have H := H1
        clear H1
        obtain rfl := Option.some.inj H
        go_wp2
        go_ret
        exact ⟨by first | rfl | (simp [errW_none, errW_some] <;> rfl) | (simp [*, errW_none, errW_some] <;> rfl), by repeat (first | (with_reducible first | exact HB.out | apply below_alloc | apply pw_below_drewN | apply below_drew1) | exact HB.out)⟩
      · replace c4 := Bool.eq_false_iff.mpr c4
        subst c4
        have H1 : (if a0 < 10 then ((some (([(wrap64 (48 + a0)) % 256] : List Int) : List Int)).bind fun y143 => (if 1 + (strOfNums y143).size ≤ 9223372036854775807 then (some ((⟨#[100]⟩ : ByteArray) ++ (strOfNums y143))) else (none))) else ((some (([(wrap64 ((wrap64 (48 + a0)) - 10)) % 256] : List Int) : List Int)).bind fun y146 => (if 2 + (strOfNums y146).size ≤ 9223372036854775807 then (some ((⟨#[100, 49]⟩ : ByteArray) ++ (strOfNums y146))) else (none)))) = some r := by rw [if_neg (show ¬ (false = true) by decide)] at H; exact H
        clear H
        have H := H1
        clear H1
        by_cases c5 : a0 < 10
        · rw [if_pos c5] at H
          have c5b0 : decide (a0 < 10) = true := decide_eq_true c5
          clear c5
          obtain ⟨y143, hy143⟩ : ∃ y_ : List Int, y_ = (([(wrap64 (48 + a0)) % 256] : List Int)) := ⟨_, rfl⟩
          replace H : (if 1 + (strOfNums y143).size ≤ 9223372036854775807 then (some ((⟨#[100]⟩ : ByteArray) ++ (strOfNums y143))) else (none)) = some r := by first | (rw [hy143]; with_reducible exact H) | (have H2_ := (Option.bind_some _ _).symm.trans H; rw [hy143]; with_reducible exact H2_) | (have H2_ := (Option.bind_some _ _).symm.trans H; with_reducible exact H2_) | with_reducible exact H | (rw [hy143]; exact H) | exact H
          have Ny143 := Aside0.mk hy143
          clear hy143
          by_cases c6 : 1 + (strOfNums y143).size ≤ 9223372036854775807
          · rw [if_pos c6] at H
            have c6b0 := eq_true c6
            have c6b1 : decide (1 + (strOfNums y143).size ≤ 9223372036854775807) = true := decide_eq_true c6
            try have c6b2 : (9223372036854775807 < 1 + (strOfNums y143).size) = False := eq_false (Nat.not_lt.2 c6)
            obtain rfl := Option.some.inj H
            go_wp2_with (first | ((with_reducible refine gate_dst (N := 14) rfl ?_); refine Kd.R_lit (Kd.int .u8) _ 5 ?hg (N := 14) ?hd (xs := ([(wrap64 (48 + a0)) % 256] : List Int)) (inner := [.int .u8 ((wrap64 (48 + a0)) % 256)]) (ok := fun _ => True) (okp := fun _ => True) ?hr ?hp (fun _ hk => hk) trivial (Below.refl _ _) (Nat.le_refl _) (by simp) ?_; (case hd => rfl); (case hg => rfl); (case hr => first | (go_simp; done) | (go_simp; rfl)); (case hp => exact (Reps.one (show Kd.M (Kd.int .u8) _ _ _ ((wrap64 (48 + a0)) % 256) [.int .u8 ((wrap64 (48 + a0)) % 256)] from rfl) (Reps.none _ _))); intro v144 w7 ho8 hb hg_ hnew_; clear hg_ hnew_; (first | rw [← Ny143.out] at ho8 | (simp only [Int.reduceToNat] at ho8; rw [← Ny143.out] at ho8)); have n0_ := aM (Kd.R_lower ho8 (below_size (by repeat (first | (with_reducible first | exact HB.out | apply below_alloc | apply pw_below_drewN | apply below_drew1) | exact HB.out)))); have n1_ := aM (below_step (by repeat (first | (with_reducible first | exact HB.out | apply below_alloc | apply pw_below_drewN | apply below_drew1) | exact HB.out)) hb); clear HB; have HO145 := n0_; have HB := n1_; clear n0_ n1_; clear hb ho8; have hcv9 := own_string (P := Tryd.prog) Tryd.underlying34 Tryd.underlying5 Tryd.underlying9 (Kd.own_of_R HO145.out)))
            go_ret
            exact ⟨by first | rfl | (simp [errW_none, errW_some] <;> rfl) | (simp [*, errW_none, errW_some] <;> rfl), by repeat (first | (with_reducible first | exact HB.out | apply below_alloc | apply pw_below_drewN | apply below_drew1) | exact HB.out)⟩
          · rw [if_neg c6] at H
            exact absurd H (by simp)
        · rw [if_neg c5] at H
          have c5b0 : decide (a0 < 10) = false := decide_eq_false c5
          clear c5
          obtain ⟨y146, hy146⟩ : ∃ y_ : List Int, y_ = (([(wrap64 ((wrap64 (48 + a0)) - 10)) % 256] : List Int)) := ⟨_, rfl⟩
          replace H : (if 2 + (strOfNums y146).size ≤ 9223372036854775807 then (some ((⟨#[100, 49]⟩ : ByteArray) ++ (strOfNums y146))) else (none)) = some r := by first | (rw [hy146]; with_reducible exact H) | (have H2_ := (Option.bind_some _ _).symm.trans H; rw [hy146]; with_reducible exact H2_) | (have H2_ := (Option.bind_some _ _).symm.trans H; with_reducible exact H2_) | with_reducible exact H | (rw [hy146]; exact H) | exact H
          have Ny146 := Aside0.mk hy146
          clear hy146
          by_cases c10 : 2 + (strOfNums y146).size ≤ 9223372036854775807
          · rw [if_pos c10] at H
            have c10b0 := eq_true c10
            have c10b1 : decide (2 + (strOfNums y146).size ≤ 9223372036854775807) = true := decide_eq_true c10
            try have c10b2 : (9223372036854775807 < 2 + (strOfNums y146).size) = False := eq_false (Nat.not_lt.2 c10)
            obtain rfl := Option.some.inj H
            go_wp2_with (first | ((with_reducible refine gate_dst (N := 21) rfl ?_); refine Kd.R_lit (Kd.int .u8) _ 5 ?hg (N := 21) ?hd (xs := ([(wrap64 ((wrap64 (48 + a0)) - 10)) % 256] : List Int)) (inner := [.int .u8 ((wrap64 ((wrap64 (48 + a0)) - 10)) % 256)]) (ok := fun _ => True) (okp := fun _ => True) ?hr ?hp (fun _ hk => hk) trivial (Below.refl _ _) (Nat.le_refl _) (by simp) ?_; (case hd => rfl); (case hg => rfl); (case hr => first | (go_simp; done) | (go_simp; rfl)); (case hp => exact (Reps.one (show Kd.M (Kd.int .u8) _ _ _ ((wrap64 ((wrap64 (48 + a0)) - 10)) % 256) [.int .u8 ((wrap64 ((wrap64 (48 + a0)) - 10)) % 256)] from rfl) (Reps.none _ _))); intro v147 w11 ho12 hb hg_ hnew_; clear hg_ hnew_; (first | rw [← Ny146.out] at ho12 | (simp only [Int.reduceToNat] at ho12; rw [← Ny146.out] at ho12)); have n0_ := aM (Kd.R_lower ho12 (below_size (by repeat (first | (with_reducible first | exact HB.out | apply below_alloc | apply pw_below_drewN | apply below_drew1) | exact HB.out)))); have n1_ := aM (below_step (by repeat (first | (with_reducible first | exact HB.out | apply below_alloc | apply pw_below_drewN | apply below_drew1) | exact HB.out)) hb); clear HB; have HO148 := n0_; have HB := n1_; clear n0_ n1_; clear hb ho12; have hcv13 := own_string (P := Tryd.prog) Tryd.underlying34 Tryd.underlying5 Tryd.underlying9 (Kd.own_of_R HO148.out)))
            go_ret
            exact ⟨by first | rfl | (simp [errW_none, errW_some] <;> rfl) | (simp [*, errW_none, errW_some] <;> rfl), by repeat (first | (with_reducible first | exact HB.out | apply below_alloc | apply pw_below_drewN | apply below_drew1) | exact HB.out)⟩
          · rw [if_neg c10] at H
            exact absurd H (by simp)

/-! ### liveryref04_Text: function 30 -/
def liveryref04_Text.f (a0_0 : ByteArray) (a0_1 : ByteArray) : Option (ByteArray) := if a0_0.size + 1 ≤ 9223372036854775807 then (if (a0_0 ++ (⟨#[46]⟩ : ByteArray)).size + a0_1.size ≤ 9223372036854775807 then (some ((a0_0 ++ (⟨#[46]⟩ : ByteArray)) ++ a0_1)) else (none)) else (none)
set_option maxHeartbeats 8000000 in
set_option maxRecDepth 100000 in
theorem liveryref04_Text.calls (a0_0 : ByteArray) (a0_1 : ByteArray) (r : ByteArray) (w : World) (h : liveryref04_Text.f a0_0 a0_1 = some r) :
    Calls Tryd.prog 30 #[.agg #[.string a0_0, .string a0_1]] w fun e w' => e = .returned (.string r) ∧ Below w.heap.size w w' := by
  have hu25 := Tryd.underlying25
  have HB := Aside0.mk (Below.refl w.heap.size w)
  have H : (if a0_0.size + 1 ≤ 9223372036854775807 then (if (a0_0 ++ (⟨#[46]⟩ : ByteArray)).size + a0_1.size ≤ 9223372036854775807 then (some ((a0_0 ++ (⟨#[46]⟩ : ByteArray)) ++ a0_1)) else (none)) else (none)) = some r := h
  clear h
  by_cases c2 : a0_0.size + 1 ≤ 9223372036854775807
  · rw [if_pos c2] at H
    have c2b0 := eq_true c2
    have c2b1 : decide (a0_0.size + 1 ≤ 9223372036854775807) = true := decide_eq_true c2
    try have c2b2 : (9223372036854775807 < a0_0.size + 1) = False := eq_false (Nat.not_lt.2 c2)
    by_cases c3 : (a0_0 ++ (⟨#[46]⟩ : ByteArray)).size + a0_1.size ≤ 9223372036854775807
    · rw [if_pos c3] at H
      have c3b0 := eq_true c3
      have c3b1 : decide ((a0_0 ++ (⟨#[46]⟩ : ByteArray)).size + a0_1.size ≤ 9223372036854775807) = true := decide_eq_true c3
      try have c3b2 : (9223372036854775807 < (a0_0 ++ (⟨#[46]⟩ : ByteArray)).size + a0_1.size) = False := eq_false (Nat.not_lt.2 c3)
      try (have c3b3 := c3; simp only [ByteArray.size_append, show (⟨#[46]⟩ : ByteArray).size = 1 from rfl] at c3b3; have c3b4 := eq_false (Nat.not_lt.2 c3b3))
      obtain rfl := Option.some.inj H
      go_enter Tryd.func30, Tryd.ntmps30
      go_wp2_with (first | ((with_reducible refine gate_dst (N := 1) rfl ?_); refine box_event ?hg (N := 1) ?hd (cs := #[.string a0_0, .string a0_1]) (t := 25) ?hr ?_; (case hd => rfl); (case hg => rfl); (case hr => first | (go_simp; done) | (go_simp; rfl)); intro gb149 hg w4 hbox hb; have n0_ := aM (below_step (by repeat (first | (with_reducible first | exact HB.out | apply below_alloc | apply pw_below_drewN | apply below_drew1) | exact HB.out)) hb); have n1_ := aM (hbox); have n2_ := aM ((by rw [hg]; exact (below_size (by repeat (first | (with_reducible first | exact HB.out | apply below_alloc | apply pw_below_drewN | apply below_drew1) | exact HB.out))) : w.heap.size ≤ gb149)); have n3_ := n2_; clear HB; have HB := n0_; have BK149 := n1_; have GW149 := n2_; have GE149 := n3_; clear n0_ n1_ n2_ n3_; clear hb hbox hg; obtain ⟨hcz5_0, hcz5_1, hfz5_0, hfz5_1⟩ := blk_all2 BK149.out))
      go_ret
      exact ⟨by first | rfl | (simp [errW_none, errW_some] <;> rfl) | (simp [*, errW_none, errW_some] <;> rfl), by repeat (first | (with_reducible first | exact HB.out | apply below_alloc | apply pw_below_drewN | apply below_drew1 | refine below_set ?_ GE149.out) | exact HB.out)⟩
    · rw [if_neg c3] at H
      exact absurd H (by simp)
  · rw [if_neg c2] at H
    exact absurd H (by simp)

end Go.Proofs.YtpnmmkoiemeodaaDoor.P
