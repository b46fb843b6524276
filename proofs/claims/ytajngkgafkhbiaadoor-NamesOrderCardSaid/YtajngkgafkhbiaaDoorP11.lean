/- Written by a program of this session's, for this claim: the functions that the law reaches, their contracts, the law's row. Not trusted: it is checked as any text. -/
import Derived.Test.YtajngkgafkhbiaaDoorP0
import Derived.Test.YtajngkgafkhbiaaDoorP5
import Derived.Test.YtajngkgafkhbiaaDoorP9
import Derived.Test.YtajngkgafkhbiaaDoorHMay
import Derived.Test.YtajngkgafkhbiaaDoorHNames
namespace Go.Proofs.YtajngkgafkhbiaaDoor.P
open Go.RowKit Go.Proofs.YtajngkgafkhbiaaDoorW.PrintWords Go.Proofs.YtajngkgafkhbiaaDoorW.PrintLast Go.Proofs.YtajngkgafkhbiaaDoorW.PrintMore
attribute [local go_sem] max2_int min2_int max_two min_two max_three min_three max_four min_four   -- for this text's walks alone
set_option linter.unusedVariables false
set_option linter.unusedSimpArgs false

/-! ### liveryref04_Domain: function 17 -/
def liveryref04_Domain.j0 : Nat → Int → Bool → Option (ByteArray)
  | 0, _, _ => none
  | k + 1, x0, x8 => if x8 = true then (some (⟨#[]⟩ : ByteArray)) else (if x0 < 10 then ((some (([(wrap64 (48 + x0)) % 256] : List Int) : List Int)).bind fun y136 => (if 1 + (strOfNums y136).size ≤ 9223372036854775807 then (some ((⟨#[100]⟩ : ByteArray) ++ (strOfNums y136))) else (none))) else ((some (([(wrap64 ((wrap64 (48 + x0)) - 10)) % 256] : List Int) : List Int)).bind fun y139 => (if 2 + (strOfNums y139).size ≤ 9223372036854775807 then (some ((⟨#[100, 49]⟩ : ByteArray) ++ (strOfNums y139))) else (none))))
def liveryref04_Domain.f (k : Nat) (a0 : Int) : Option (ByteArray) := if a0 < 1 then (liveryref04_Domain.j0 k a0 true) else (liveryref04_Domain.j0 k a0 (decide (a0 > 16)))
theorem liveryref04_Domain.mono_l : ∀ k, (∀ y0 y1, LeO (liveryref04_Domain.j0 k y0 y1) (liveryref04_Domain.j0 (k + 1) y0 y1))
  | 0 => fun _ _ r h => by simp [liveryref04_Domain.j0] at h
  | k + 1 => by
    have ih0 := liveryref04_Domain.mono_l k
    · intro y0 y1
      unfold liveryref04_Domain.j0
      repeat' first
      | (with_reducible exact ih0 _ _)
      | (with_reducible exact LeO.refl _)
      | (with_reducible exact LeO.none _)
      | (with_reducible refine LeO.ite ?_ ?_)
      | (with_reducible refine LeO.bind ?_ (fun _ => ?_))
      | exact ih0 _ _
      | exact LeO.none _
      | refine LeO.ite ?_ ?_
      | refine LeO.bind ?_ (fun _ => ?_)
theorem liveryref04_Domain.mono : ∀ a0 k, LeO (liveryref04_Domain.f k a0) (liveryref04_Domain.f (k + 1) a0) := by
  intro a0 k
  have ih0 := liveryref04_Domain.mono_l k
  unfold liveryref04_Domain.f
  repeat' first
      | (with_reducible exact ih0 _ _)
      | (with_reducible exact LeO.refl _)
      | (with_reducible exact LeO.none _)
      | (with_reducible refine LeO.ite ?_ ?_)
      | (with_reducible refine LeO.bind ?_ (fun _ => ?_))
      | exact ih0 _ _
      | exact LeO.none _
      | refine LeO.ite ?_ ?_
      | refine LeO.bind ?_ (fun _ => ?_)
set_option maxHeartbeats 8000000 in
set_option maxRecDepth 100000 in
theorem liveryref04_Domain.calls (k : Nat) (a0 : Int) (r : ByteArray) (w : World) (h : liveryref04_Domain.f k a0 = some r) :
    Calls Tryd.prog 17 #[.int .i64 a0] w fun e w' => e = .returned (.string r) ∧ Below w.heap.size w w' := by
  have HB := Aside0.mk (Below.refl w.heap.size w)
  have H : (if a0 < 1 then (liveryref04_Domain.j0 k a0 true) else (liveryref04_Domain.j0 k a0 (decide (a0 > 16)))) = some r := h
  clear h
  have HC2 := Aside0.mk H
  clear H
  go_enter Tryd.func17, Tryd.ntmps17
  go_upto_region 1 with (fail)
  go_cut [8] (fun v8 wc => ∃ (kq : Nat) (x8_1 : Bool), v8 = .bool x8_1 ∧ Aside0 (liveryref04_Domain.j0 kq a0 x8_1 = some r) ∧ Aside0 (kq ≤ k) ∧ Aside0 (Below w.heap.size w wc))
  case first =>
    have H := HC2.out
    clear HC2
    by_cases c3 : a0 < 1
    · rw [if_pos c3] at H
      have c3b0 : decide (a0 < 1) = true := decide_eq_true c3
      clear c3
      (first | rw [c3b0] | (simp only [i64_w, i32_w]; rw [c3b0]) | skip)
      have H' := Aside0.mk H
      clear H
      go_wp2
      go_meet
      case rel => exact ⟨_, (true), (by first | rfl | (simp; done) | (simp [*]; done)), H', ⟨by first | omega | exact Nat.le_refl _⟩, ⟨by repeat (first | (with_reducible first | exact HB.out | apply below_alloc | apply pw_below_drewN | apply below_drew1) | exact HB.out)⟩⟩
    · rw [if_neg c3] at H
      have c3b0 : decide (a0 < 1) = false := decide_eq_false c3
      clear c3
      (first | rw [c3b0] | (simp only [i64_w, i32_w]; rw [c3b0]) | skip)
      have H' := Aside0.mk H
      clear H
      go_wp2
      go_meet
      case rel => exact ⟨_, (decide (a0 > 16)), (by first | rfl | (simp; done) | (simp [*]; done)), H', ⟨by first | omega | exact Nat.le_refl _⟩, ⟨by repeat (first | (with_reducible first | exact HB.out | apply below_alloc | apply pw_below_drewN | apply below_drew1) | exact HB.out)⟩⟩
  case rest =>
    clear HC2
    try clear c1
    try clear p2
    try clear c3
    try clear c3b0
    obtain ⟨kq, x8_1, rfl, HA, HJ1, HB⟩ := hcut
    cases kq with
    | zero => exact absurd HA.out (by simp [liveryref04_Domain.j0])
    | succ kj1 =>
      have H := HA.out
      clear HA
      simp only [liveryref04_Domain.j0] at H
      by_cases c4 : x8_1 = true
      · subst c4
        have H1 : (some (⟨#[]⟩ : ByteArray)) = some r := by rw [if_pos rfl] at H; exact H
        clear H
        have H := H1
        clear H1
        obtain rfl := Option.some.inj H
        go_wp2
        go_ret
        exact ⟨by first | rfl | (simp [errW_none, errW_some] <;> rfl) | (simp [*, errW_none, errW_some] <;> rfl), by repeat (first | (with_reducible first | exact HB.out | apply below_alloc | apply pw_below_drewN | apply below_drew1) | exact HB.out)⟩
      · replace c4 := Bool.eq_false_iff.mpr c4
        subst c4
        have H1 : (if a0 < 10 then ((some (([(wrap64 (48 + a0)) % 256] : List Int) : List Int)).bind fun y136 => (if 1 + (strOfNums y136).size ≤ 9223372036854775807 then (some ((⟨#[100]⟩ : ByteArray) ++ (strOfNums y136))) else (none))) else ((some (([(wrap64 ((wrap64 (48 + a0)) - 10)) % 256] : List Int) : List Int)).bind fun y139 => (if 2 + (strOfNums y139).size ≤ 9223372036854775807 then (some ((⟨#[100, 49]⟩ : ByteArray) ++ (strOfNums y139))) else (none)))) = some r := by rw [if_neg (show ¬ (false = true) by decide)] at H; exact H
        clear H
        have H := H1
        clear H1
        by_cases c5 : a0 < 10
        · rw [if_pos c5] at H
          have c5b0 : decide (a0 < 10) = true := decide_eq_true c5
          clear c5
          obtain ⟨y136, hy136⟩ : ∃ y_ : List Int, y_ = (([(wrap64 (48 + a0)) % 256] : List Int)) := ⟨_, rfl⟩
          replace H : (if 1 + (strOfNums y136).size ≤ 9223372036854775807 then (some ((⟨#[100]⟩ : ByteArray) ++ (strOfNums y136))) else (none)) = some r := by first | (rw [hy136]; with_reducible exact H) | (have H2_ := (Option.bind_some _ _).symm.trans H; rw [hy136]; with_reducible exact H2_) | (have H2_ := (Option.bind_some _ _).symm.trans H; with_reducible exact H2_) | with_reducible exact H | (rw [hy136]; exact H) | exact H
          have Ny136 := Aside0.mk hy136
          clear hy136
          by_cases c6 : 1 + (strOfNums y136).size ≤ 9223372036854775807
          · rw [if_pos c6] at H
            have c6b0 := eq_true c6
            have c6b1 : decide (1 + (strOfNums y136).size ≤ 9223372036854775807) = true := decide_eq_true c6
            try have c6b2 : (9223372036854775807 < 1 + (strOfNums y136).size) = False := eq_false (Nat.not_lt.2 c6)
            obtain rfl := Option.some.inj H
            go_wp2_with (first | ((with_reducible refine gate_dst (N := 14) rfl ?_); refine Kd.R_lit (Kd.int .u8) _ 5 ?hg (N := 14) ?hd (xs := ([(wrap64 (48 + a0)) % 256] : List Int)) (inner := [.int .u8 ((wrap64 (48 + a0)) % 256)]) (ok := fun _ => True) (okp := fun _ => True) ?hr ?hp (fun _ hk => hk) trivial (Below.refl _ _) (Nat.le_refl _) (by simp) ?_; (case hd => rfl); (case hg => rfl); (case hr => first | (go_simp; done) | (go_simp; rfl)); (case hp => exact (Reps.one (show Kd.M (Kd.int .u8) _ _ _ ((wrap64 (48 + a0)) % 256) [.int .u8 ((wrap64 (48 + a0)) % 256)] from rfl) (Reps.none _ _))); intro v137 w7 ho8 hb hg_ hnew_; clear hg_ hnew_; (first | rw [← Ny136.out] at ho8 | (simp only [Int.reduceToNat] at ho8; rw [← Ny136.out] at ho8)); have n0_ := Aside0.mk (Kd.R_lower ho8 (below_size (by repeat (first | (with_reducible first | exact HB.out | apply below_alloc | apply pw_below_drewN | apply below_drew1) | exact HB.out)))); have n1_ := Aside0.mk (below_step (by repeat (first | (with_reducible first | exact HB.out | apply below_alloc | apply pw_below_drewN | apply below_drew1) | exact HB.out)) hb); clear HB; have HO138 := n0_; have HB := n1_; clear n0_ n1_; clear hb ho8; have hcv9 := own_string (P := Tryd.prog) Tryd.underlying38 Tryd.underlying5 Tryd.underlying9 (Kd.own_of_R HO138.out)))
            go_ret
            exact ⟨by first | rfl | (simp [errW_none, errW_some] <;> rfl) | (simp [*, errW_none, errW_some] <;> rfl), by repeat (first | (with_reducible first | exact HB.out | apply below_alloc | apply pw_below_drewN | apply below_drew1) | exact HB.out)⟩
          · rw [if_neg c6] at H
            exact absurd H (by simp)
        · rw [if_neg c5] at H
          have c5b0 : decide (a0 < 10) = false := decide_eq_false c5
          clear c5
          obtain ⟨y139, hy139⟩ : ∃ y_ : List Int, y_ = (([(wrap64 ((wrap64 (48 + a0)) - 10)) % 256] : List Int)) := ⟨_, rfl⟩
          replace H : (if 2 + (strOfNums y139).size ≤ 9223372036854775807 then (some ((⟨#[100, 49]⟩ : ByteArray) ++ (strOfNums y139))) else (none)) = some r := by first | (rw [hy139]; with_reducible exact H) | (have H2_ := (Option.bind_some _ _).symm.trans H; rw [hy139]; with_reducible exact H2_) | (have H2_ := (Option.bind_some _ _).symm.trans H; with_reducible exact H2_) | with_reducible exact H | (rw [hy139]; exact H) | exact H
          have Ny139 := Aside0.mk hy139
          clear hy139
          by_cases c10 : 2 + (strOfNums y139).size ≤ 9223372036854775807
          · rw [if_pos c10] at H
            have c10b0 := eq_true c10
            have c10b1 : decide (2 + (strOfNums y139).size ≤ 9223372036854775807) = true := decide_eq_true c10
            try have c10b2 : (9223372036854775807 < 2 + (strOfNums y139).size) = False := eq_false (Nat.not_lt.2 c10)
            obtain rfl := Option.some.inj H
            go_wp2_with (first | ((with_reducible refine gate_dst (N := 21) rfl ?_); refine Kd.R_lit (Kd.int .u8) _ 5 ?hg (N := 21) ?hd (xs := ([(wrap64 ((wrap64 (48 + a0)) - 10)) % 256] : List Int)) (inner := [.int .u8 ((wrap64 ((wrap64 (48 + a0)) - 10)) % 256)]) (ok := fun _ => True) (okp := fun _ => True) ?hr ?hp (fun _ hk => hk) trivial (Below.refl _ _) (Nat.le_refl _) (by simp) ?_; (case hd => rfl); (case hg => rfl); (case hr => first | (go_simp; done) | (go_simp; rfl)); (case hp => exact (Reps.one (show Kd.M (Kd.int .u8) _ _ _ ((wrap64 ((wrap64 (48 + a0)) - 10)) % 256) [.int .u8 ((wrap64 ((wrap64 (48 + a0)) - 10)) % 256)] from rfl) (Reps.none _ _))); intro v140 w11 ho12 hb hg_ hnew_; clear hg_ hnew_; (first | rw [← Ny139.out] at ho12 | (simp only [Int.reduceToNat] at ho12; rw [← Ny139.out] at ho12)); have n0_ := Aside0.mk (Kd.R_lower ho12 (below_size (by repeat (first | (with_reducible first | exact HB.out | apply below_alloc | apply pw_below_drewN | apply below_drew1) | exact HB.out)))); have n1_ := Aside0.mk (below_step (by repeat (first | (with_reducible first | exact HB.out | apply below_alloc | apply pw_below_drewN | apply below_drew1) | exact HB.out)) hb); clear HB; have HO141 := n0_; have HB := n1_; clear n0_ n1_; clear hb ho12; have hcv13 := own_string (P := Tryd.prog) Tryd.underlying38 Tryd.underlying5 Tryd.underlying9 (Kd.own_of_R HO141.out)))
            go_ret
            exact ⟨by first | rfl | (simp [errW_none, errW_some] <;> rfl) | (simp [*, errW_none, errW_some] <;> rfl), by repeat (first | (with_reducible first | exact HB.out | apply below_alloc | apply pw_below_drewN | apply below_drew1) | exact HB.out)⟩
          · rw [if_neg c10] at H
            exact absurd H (by simp)

/-! ### liverylaw04_NamesDomains: function 4 -/
mutual
def liverylaw04_NamesDomains.j0 : Nat → Int → ByteArray → ByteArray → Bool → Option (Bool)
  | 0, _, _, _, _ => none
  | k + 1, x0, x1, x5, x18 => if x18 = true then ((names_Number.f k x5).bind fun t144 => (if t144 = x0 then ((names_May.f x5).bind fun t145 => (liverylaw04_NamesDomains.j1 k x1 (!t145))) else (liverylaw04_NamesDomains.j1 k x1 true))) else (if x5.toList = ([] : List UInt8) then ((names_Number.f k x1).bind fun t150 => (if t150 = 0 then ((liverylaw04_lives.f k).bind fun t151 => (some t151)) else ((names_Domain.f t150).bind fun t152 => (if t152.toList = x1.toList then ((liverylaw04_lives.f k).bind fun t153 => (some t153)) else (some false))))) else (some false))
def liverylaw04_NamesDomains.j1 : Nat → ByteArray → Bool → Option (Bool)
  | 0, _, _ => none
  | k + 1, x1, x27 => if x27 = true then (some false) else ((names_Number.f k x1).bind fun t146 => (if t146 = 0 then ((liverylaw04_lives.f k).bind fun t147 => (some t147)) else ((names_Domain.f t146).bind fun t148 => (if t148.toList = x1.toList then ((liverylaw04_lives.f k).bind fun t149 => (some t149)) else (some false)))))
end
def liverylaw04_NamesDomains.f (k : Nat) (a0 : Int) (a1 : ByteArray) : Option (Bool) := (names_Domain.f a0).bind fun t142 => ((liveryref04_Domain.f k a0).bind fun t143 => (if t142.toList = t143.toList then (if a0 ≥ 1 then (liverylaw04_NamesDomains.j0 k a0 a1 t142 (decide (a0 ≤ 16))) else (liverylaw04_NamesDomains.j0 k a0 a1 t142 false)) else (some false)))
theorem liverylaw04_NamesDomains.mono_l : ∀ k, (∀ y0 y1 y2 y3, LeO (liverylaw04_NamesDomains.j0 k y0 y1 y2 y3) (liverylaw04_NamesDomains.j0 (k + 1) y0 y1 y2 y3)) ∧ (∀ y0 y1, LeO (liverylaw04_NamesDomains.j1 k y0 y1) (liverylaw04_NamesDomains.j1 (k + 1) y0 y1))
  | 0 => ⟨fun _ _ _ _ r h => by simp [liverylaw04_NamesDomains.j0] at h, fun _ _ r h => by simp [liverylaw04_NamesDomains.j1] at h⟩
  | k + 1 => by
    obtain ⟨ih0, ih1⟩ := liverylaw04_NamesDomains.mono_l k
    refine ⟨?_, ?_⟩
    · intro y0 y1 y2 y3
      unfold liverylaw04_NamesDomains.j0
      repeat' first
      | (with_reducible exact ih0 _ _ _ _)
      | (with_reducible exact ih1 _ _)
      | (with_reducible exact liverylaw04_lives.mono _)
      | (with_reducible exact liveryref04_Domain.mono _ _)
      | (with_reducible exact names_Number.mono _ _)
      | (with_reducible exact LeO.refl _)
      | (with_reducible exact LeO.none _)
      | (with_reducible refine LeO.ite ?_ ?_)
      | (with_reducible refine LeO.bind ?_ (fun _ => ?_))
      | exact ih0 _ _ _ _
      | exact ih1 _ _
      | exact liverylaw04_lives.mono _
      | exact liveryref04_Domain.mono _ _
      | exact names_Number.mono _ _
      | exact LeO.none _
      | refine LeO.ite ?_ ?_
      | refine LeO.bind ?_ (fun _ => ?_)
    · intro y0 y1
      unfold liverylaw04_NamesDomains.j1
      repeat' first
      | (with_reducible exact ih0 _ _ _ _)
      | (with_reducible exact ih1 _ _)
      | (with_reducible exact liverylaw04_lives.mono _)
      | (with_reducible exact liveryref04_Domain.mono _ _)
      | (with_reducible exact names_Number.mono _ _)
      | (with_reducible exact LeO.refl _)
      | (with_reducible exact LeO.none _)
      | (with_reducible refine LeO.ite ?_ ?_)
      | (with_reducible refine LeO.bind ?_ (fun _ => ?_))
      | exact ih0 _ _ _ _
      | exact ih1 _ _
      | exact liverylaw04_lives.mono _
      | exact liveryref04_Domain.mono _ _
      | exact names_Number.mono _ _
      | exact LeO.none _
      | refine LeO.ite ?_ ?_
      | refine LeO.bind ?_ (fun _ => ?_)
theorem liverylaw04_NamesDomains.mono : ∀ a0 a1 k, LeO (liverylaw04_NamesDomains.f k a0 a1) (liverylaw04_NamesDomains.f (k + 1) a0 a1) := by
  intro a0 a1 k
  obtain ⟨ih0, ih1⟩ := liverylaw04_NamesDomains.mono_l k
  unfold liverylaw04_NamesDomains.f
  repeat' first
      | (with_reducible exact ih0 _ _ _ _)
      | (with_reducible exact ih1 _ _)
      | (with_reducible exact liverylaw04_lives.mono _)
      | (with_reducible exact liveryref04_Domain.mono _ _)
      | (with_reducible exact names_Number.mono _ _)
      | (with_reducible exact LeO.refl _)
      | (with_reducible exact LeO.none _)
      | (with_reducible refine LeO.ite ?_ ?_)
      | (with_reducible refine LeO.bind ?_ (fun _ => ?_))
      | exact ih0 _ _ _ _
      | exact ih1 _ _
      | exact liverylaw04_lives.mono _
      | exact liveryref04_Domain.mono _ _
      | exact names_Number.mono _ _
      | exact LeO.none _
      | refine LeO.ite ?_ ?_
      | refine LeO.bind ?_ (fun _ => ?_)
set_option maxHeartbeats 8000000 in
set_option maxRecDepth 100000 in
theorem liverylaw04_NamesDomains.calls (k : Nat) (a0 : Int) (a1 : ByteArray) (r : Bool) (w : World) (h : liverylaw04_NamesDomains.f k a0 a1 = some r) :
    Calls Tryd.prog 4 #[.int .i64 a0, .string a1] w fun e w' => e = .returned (.bool r) ∧ Below w.heap.size w w' := by
  have HB := Aside0.mk (Below.refl w.heap.size w)
  have H : ((names_Domain.f a0).bind fun t142 => ((liveryref04_Domain.f k a0).bind fun t143 => (if t142.toList = t143.toList then (if a0 ≥ 1 then (liverylaw04_NamesDomains.j0 k a0 a1 t142 (decide (a0 ≤ 16))) else (liverylaw04_NamesDomains.j0 k a0 a1 t142 false)) else (some false)))) = some r := h
  clear h
  replace H := Option.bind_eq_some_iff.mp H
  obtain ⟨t142, A30, H⟩ := H
  replace H : ((liveryref04_Domain.f k a0).bind fun t143 => (if t142.toList = t143.toList then (if a0 ≥ 1 then (liverylaw04_NamesDomains.j0 k a0 a1 t142 (decide (a0 ≤ 16))) else (liverylaw04_NamesDomains.j0 k a0 a1 t142 false)) else (some false))) = some r := H
  have A3 := Aside0.mk A30
  clear A30
  replace H := Option.bind_eq_some_iff.mp H
  obtain ⟨t143, A40, H⟩ := H
  replace H : (if t142.toList = t143.toList then (if a0 ≥ 1 then (liverylaw04_NamesDomains.j0 k a0 a1 t142 (decide (a0 ≤ 16))) else (liverylaw04_NamesDomains.j0 k a0 a1 t142 false)) else (some false)) = some r := H
  have A4 := Aside0.mk A40
  clear A40
  by_cases c5 : t142.toList = t143.toList
  · rw [if_pos c5] at H
    have c5b0 : (t142.toList == t143.toList) = true := beq_iff_eq.mpr c5
    have c5b1 : (t142.toList != t143.toList) = false := bne_eq_false_iff_eq.mpr c5
    clear c5
    have HC6 := Aside0.mk H
    clear H
    go_enter Tryd.func4, Tryd.ntmps4
    go_upto_region 4 with (first | ((with_reducible refine gate_callee (f := 16) rfl ?_); refine goesL_ (some 8) rfl rfl Tryd.func16 (by kernel_rfl) rfl #[.int .i64 a0] rfl (by (try simp only [List.map_toArray, List.map_cons, List.map_nil]); first | done | rfl | (simp only [List.length_drop, List.length_take]; rfl)) ?_; (with_reducible refine (names_Domain.calls a0 t142 _ A3.out).mono ?_); rintro e w7 ⟨rfl, hb⟩; refine ⟨_, rfl, ?_⟩; have n0_ := Aside0.mk (below_step (by repeat (first | (with_reducible first | exact HB.out | apply below_alloc | apply pw_below_drewN | apply below_drew1) | exact HB.out)) hb); clear HB; have HB := n0_; clear n0_; (try clear hb); (try clear hb2); (try clear hk); (try clear hi)) | ((with_reducible refine gate_callee (f := 17) rfl ?_); refine goesL_ (some 11) rfl rfl Tryd.func17 (by kernel_rfl) rfl #[.int .i64 a0] rfl (by (try simp only [List.map_toArray, List.map_cons, List.map_nil]); first | done | rfl | (simp only [List.length_drop, List.length_take]; rfl)) ?_; (with_reducible refine (liveryref04_Domain.calls k a0 t143 _ A4.out).mono ?_); rintro e w8 ⟨rfl, hb⟩; refine ⟨_, rfl, ?_⟩; have n0_ := Aside0.mk (below_step (by repeat (first | (with_reducible first | exact HB.out | apply below_alloc | apply pw_below_drewN | apply below_drew1) | exact HB.out)) hb); clear HB; have HB := n0_; clear n0_; (try clear hb); (try clear hb2); (try clear hk); (try clear hi)))
    (try simp only [Act.put, List.setIfInBounds_toArray, List.set_cons_zero, List.set_cons_succ])
    go_cut [18] (fun v18 wc => ∃ (kq : Nat) (x18_5 : Bool), v18 = .bool x18_5 ∧ Aside0 (liverylaw04_NamesDomains.j0 kq a0 a1 t142 x18_5 = some r) ∧ Aside0 (kq ≤ k) ∧ Aside0 (Below w.heap.size w wc))
    case first =>
      have H := HC6.out
      clear HC6
      by_cases c9 : a0 ≥ 1
      · rw [if_pos c9] at H
        have c9b0 : decide (1 ≤ a0) = true := decide_eq_true c9
        clear c9
        (first | rw [c9b0] | (simp only [i64_w, i32_w]; rw [c9b0]) | skip)
        have H' := Aside0.mk H
        clear H
        go_wp2
        go_meet
        case rel => exact ⟨_, (decide (a0 ≤ 16)), (by first | rfl | (simp; done) | (simp [*]; done)), H', ⟨by first | omega | exact Nat.le_refl _⟩, ⟨by repeat (first | (with_reducible first | exact HB.out | apply below_alloc | apply pw_below_drewN | apply below_drew1) | exact HB.out)⟩⟩
      · rw [if_neg c9] at H
        have c9b0 : decide (1 ≤ a0) = false := decide_eq_false c9
        clear c9
        (first | rw [c9b0] | (simp only [i64_w, i32_w]; rw [c9b0]) | skip)
        have H' := Aside0.mk H
        clear H
        go_wp2
        go_meet
        case rel => exact ⟨_, (false), (by first | rfl | (simp; done) | (simp [*]; done)), H', ⟨by first | omega | exact Nat.le_refl _⟩, ⟨by repeat (first | (with_reducible first | exact HB.out | apply below_alloc | apply pw_below_drewN | apply below_drew1) | exact HB.out)⟩⟩
    case rest =>
      clear HC6
      try clear c1
      try clear p2
      try clear c4
      try clear c5
      try clear c5b0
      try clear c5b1
      try clear c9
      try clear c9b0
      obtain ⟨kq, x18_5, rfl, HA, HJ5, HB⟩ := hcut
      cases kq with
      | zero => exact absurd HA.out (by simp [liverylaw04_NamesDomains.j0])
      | succ kj5 =>
        have H := HA.out
        clear HA
        simp only [liverylaw04_NamesDomains.j0] at H
        by_cases c10 : x18_5 = true
        · subst c10
          have H1 : ((names_Number.f kj5 t142).bind fun t144 => (if t144 = a0 then ((names_May.f t142).bind fun t145 => (liverylaw04_NamesDomains.j1 kj5 a1 (!t145))) else (liverylaw04_NamesDomains.j1 kj5 a1 true))) = some r := by rw [if_pos rfl] at H; exact H
          clear H
          have H := H1
          clear H1
          have HC11 := Aside0.mk H
          clear H
          go_upto_region 5 with (fail)
          go_cut [27] (fun v27 wc => ∃ (kq : Nat) (x27_10 : Bool), v27 = .bool x27_10 ∧ Aside0 (liverylaw04_NamesDomains.j1 kq a1 x27_10 = some r) ∧ Aside0 (kq ≤ kj5) ∧ Aside0 (Below w.heap.size w wc))
          case first =>
            have H := HC11.out
            clear HC11
            replace H := Option.bind_eq_some_iff.mp H
            obtain ⟨t144, A120, H⟩ := H
            replace H : (if t144 = a0 then ((names_May.f t142).bind fun t145 => (liverylaw04_NamesDomains.j1 kj5 a1 (!t145))) else (liverylaw04_NamesDomains.j1 kj5 a1 true)) = some r := H
            have A12 := Aside0.mk A120
            clear A120
            by_cases c13 : t144 = a0
            · rw [if_pos c13] at H
              have c13b0 : (t144 == a0) = true := beq_iff_eq.mpr c13
              have c13b1 : (t144 != a0) = false := bne_eq_false_iff_eq.mpr c13
              clear c13
              (first | rw [c13b0] | (simp only [i64_w, i32_w]; rw [c13b0]) | skip)
              replace H := Option.bind_eq_some_iff.mp H
              obtain ⟨t145, A140, H⟩ := H
              replace H : (liverylaw04_NamesDomains.j1 kj5 a1 (!t145)) = some r := H
              have A14 := Aside0.mk A140
              clear A140
              have H' := Aside0.mk H
              clear H
              go_wp2_with (first | ((with_reducible refine gate_callee (f := 11) rfl ?_); refine goesL_ (some 20) rfl rfl Tryd.func11 (by kernel_rfl) rfl #[.string t142] rfl (by (try simp only [List.map_toArray, List.map_cons, List.map_nil]); first | done | rfl | (simp only [List.length_drop, List.length_take]; rfl)) ?_; (with_reducible refine (names_Number.calls kj5 t142 t144 _ A12.out).mono ?_); rintro e w15 ⟨rfl, hb⟩; refine ⟨_, rfl, ?_⟩; have n0_ := Aside0.mk (below_step (by repeat (first | (with_reducible first | exact HB.out | apply below_alloc | apply pw_below_drewN | apply below_drew1) | exact HB.out)) hb); clear HB; have HB := n0_; clear n0_; (try clear hb); (try clear hb2); (try clear hk); (try clear hi)) | (go_at_call 9; (with_reducible refine (names_May.calls t142 t145 _ A14.out).mono ?_); rintro e w16 ⟨rfl, hb⟩; have n0_ := Aside0.mk (below_step (by repeat (first | (with_reducible first | exact HB.out | apply below_alloc | apply pw_below_drewN | apply below_drew1) | exact HB.out)) hb); clear HB; have HB := n0_; clear n0_; (try clear hb); (try clear hb2); (try clear hk); (try clear hi)))
              go_meet
              case rel => exact ⟨_, (!t145), (by first | rfl | (simp; done) | (simp [*]; done)), H', ⟨by have := HJ5.out; first | omega | exact Nat.le_refl _⟩, ⟨by repeat (first | (with_reducible first | exact HB.out | apply below_alloc | apply pw_below_drewN | apply below_drew1) | exact HB.out)⟩⟩
            · rw [if_neg c13] at H
              have c13b0 : (t144 == a0) = false := beq_eq_false_iff_ne.mpr c13
              have c13b1 : (t144 != a0) = true := bne_iff_ne.mpr c13
              (first | rw [c13b0] | (simp only [i64_w, i32_w]; rw [c13b0]) | skip)
              have H' := Aside0.mk H
              clear H
              go_wp2_with (first | ((with_reducible refine gate_callee (f := 11) rfl ?_); refine goesL_ (some 20) rfl rfl Tryd.func11 (by kernel_rfl) rfl #[.string t142] rfl (by (try simp only [List.map_toArray, List.map_cons, List.map_nil]); first | done | rfl | (simp only [List.length_drop, List.length_take]; rfl)) ?_; (with_reducible refine (names_Number.calls kj5 t142 t144 _ A12.out).mono ?_); rintro e w17 ⟨rfl, hb⟩; refine ⟨_, rfl, ?_⟩; have n0_ := Aside0.mk (below_step (by repeat (first | (with_reducible first | exact HB.out | apply below_alloc | apply pw_below_drewN | apply below_drew1) | exact HB.out)) hb); clear HB; have HB := n0_; clear n0_; (try clear hb); (try clear hb2); (try clear hk); (try clear hi)))
              go_meet
              case rel => exact ⟨_, (true), (by first | rfl | (simp; done) | (simp [*]; done)), H', ⟨by have := HJ5.out; first | omega | exact Nat.le_refl _⟩, ⟨by repeat (first | (with_reducible first | exact HB.out | apply below_alloc | apply pw_below_drewN | apply below_drew1) | exact HB.out)⟩⟩
          case rest =>
            clear HC11
            try clear c1
            try clear p2
            try clear c4
            try clear c5
            try clear c5b0
            try clear c5b1
            try clear c9
            try clear c9b0
            try clear c10
            try clear c11
            try clear c13
            try clear c13b0
            try clear c13b1
            try clear c16
            try clear c17
            try clear p2
            obtain ⟨kq, x27_10, rfl, HA, HJ10, HB⟩ := hcut
            cases kq with
            | zero => exact absurd HA.out (by simp [liverylaw04_NamesDomains.j1])
            | succ kj10 =>
              have H := HA.out
              clear HA
              simp only [liverylaw04_NamesDomains.j1] at H
              by_cases c18 : x27_10 = true
              · subst c18
                have H1 : (some false) = some r := by rw [if_pos rfl] at H; exact H
                clear H
                have H := H1
                clear H1
                obtain rfl := Option.some.inj H
                go_wp2
                go_ret
                exact ⟨by first | rfl | (simp [errW_none, errW_some] <;> rfl) | (simp [*, errW_none, errW_some] <;> rfl), by repeat (first | (with_reducible first | exact HB.out | apply below_alloc | apply pw_below_drewN | apply below_drew1) | exact HB.out)⟩
              · replace c18 := Bool.eq_false_iff.mpr c18
                subst c18
                have H1 : ((names_Number.f kj10 a1).bind fun t146 => (if t146 = 0 then ((liverylaw04_lives.f kj10).bind fun t147 => (some t147)) else ((names_Domain.f t146).bind fun t148 => (if t148.toList = a1.toList then ((liverylaw04_lives.f kj10).bind fun t149 => (some t149)) else (some false))))) = some r := by rw [if_neg (show ¬ (false = true) by decide)] at H; exact H
                clear H
                have H := H1
                clear H1
                replace H := Option.bind_eq_some_iff.mp H
                obtain ⟨t146, A190, H⟩ := H
                replace H : (if t146 = 0 then ((liverylaw04_lives.f kj10).bind fun t147 => (some t147)) else ((names_Domain.f t146).bind fun t148 => (if t148.toList = a1.toList then ((liverylaw04_lives.f kj10).bind fun t149 => (some t149)) else (some false)))) = some r := H
                have A19 := Aside0.mk A190
                clear A190
                by_cases c20 : t146 = 0
                · rw [if_pos c20] at H
                  have c20b0 : (t146 == 0) = true := beq_iff_eq.mpr c20
                  have c20b1 : (t146 != 0) = false := bne_eq_false_iff_eq.mpr c20
                  clear c20
                  replace H := Option.bind_eq_some_iff.mp H
                  obtain ⟨t147, A210, H⟩ := H
                  replace H : (some t147) = some r := H
                  have A21 := Aside0.mk A210
                  clear A210
                  obtain rfl := Option.some.inj H
                  go_wp2_with (first | ((with_reducible refine gate_callee (f := 11) rfl ?_); refine goesL_ (some 31) rfl rfl Tryd.func11 (by kernel_rfl) rfl #[.string a1] rfl (by (try simp only [List.map_toArray, List.map_cons, List.map_nil]); first | done | rfl | (simp only [List.length_drop, List.length_take]; rfl)) ?_; (with_reducible refine (names_Number.calls kj10 a1 t146 _ A19.out).mono ?_); rintro e w22 ⟨rfl, hb⟩; refine ⟨_, rfl, ?_⟩; have n0_ := Aside0.mk (below_step (by repeat (first | (with_reducible first | exact HB.out | apply below_alloc | apply pw_below_drewN | apply below_drew1) | exact HB.out)) hb); clear HB; have HB := n0_; clear n0_; (try clear hb); (try clear hb2); (try clear hk); (try clear hi)) | (go_at_call 15; (with_reducible refine (liverylaw04_lives.calls kj10  t147 _ A21.out).mono ?_); rintro e w23 ⟨rfl, hb⟩; have n0_ := Aside0.mk (below_step (by repeat (first | (with_reducible first | exact HB.out | apply below_alloc | apply pw_below_drewN | apply below_drew1) | exact HB.out)) hb); clear HB; have HB := n0_; clear n0_; (try clear hb); (try clear hb2); (try clear hk); (try clear hi)))
                  go_ret
                  exact ⟨by first | rfl | (simp [errW_none, errW_some] <;> rfl) | (simp [*, errW_none, errW_some] <;> rfl), by repeat (first | (with_reducible first | exact HB.out | apply below_alloc | apply pw_below_drewN | apply below_drew1) | exact HB.out)⟩
                · rw [if_neg c20] at H
                  have c20b0 : (t146 == 0) = false := beq_eq_false_iff_ne.mpr c20
                  have c20b1 : (t146 != 0) = true := bne_iff_ne.mpr c20
                  replace H := Option.bind_eq_some_iff.mp H
                  obtain ⟨t148, A240, H⟩ := H
                  replace H : (if t148.toList = a1.toList then ((liverylaw04_lives.f kj10).bind fun t149 => (some t149)) else (some false)) = some r := H
                  have A24 := Aside0.mk A240
                  clear A240
                  by_cases c25 : t148.toList = a1.toList
                  · rw [if_pos c25] at H
                    have c25b0 : (t148.toList == a1.toList) = true := beq_iff_eq.mpr c25
                    have c25b1 : (t148.toList != a1.toList) = false := bne_eq_false_iff_eq.mpr c25
                    clear c25
                    replace H := Option.bind_eq_some_iff.mp H
                    obtain ⟨t149, A260, H⟩ := H
                    replace H : (some t149) = some r := H
                    have A26 := Aside0.mk A260
                    clear A260
                    obtain rfl := Option.some.inj H
                    go_wp2_with (first | ((with_reducible refine gate_callee (f := 11) rfl ?_); refine goesL_ (some 31) rfl rfl Tryd.func11 (by kernel_rfl) rfl #[.string a1] rfl (by (try simp only [List.map_toArray, List.map_cons, List.map_nil]); first | done | rfl | (simp only [List.length_drop, List.length_take]; rfl)) ?_; (with_reducible refine (names_Number.calls kj10 a1 t146 _ A19.out).mono ?_); rintro e w27 ⟨rfl, hb⟩; refine ⟨_, rfl, ?_⟩; have n0_ := Aside0.mk (below_step (by repeat (first | (with_reducible first | exact HB.out | apply below_alloc | apply pw_below_drewN | apply below_drew1) | exact HB.out)) hb); clear HB; have HB := n0_; clear n0_; (try clear hb); (try clear hb2); (try clear hk); (try clear hi)) | (go_at_call 16; (with_reducible refine (names_Domain.calls t146 t148 _ A24.out).mono ?_); rintro e w28 ⟨rfl, hb⟩; have n0_ := Aside0.mk (below_step (by repeat (first | (with_reducible first | exact HB.out | apply below_alloc | apply pw_below_drewN | apply below_drew1) | exact HB.out)) hb); clear HB; have HB := n0_; clear n0_; (try clear hb); (try clear hb2); (try clear hk); (try clear hi)) | (go_at_call 15; (with_reducible refine (liverylaw04_lives.calls kj10  t149 _ A26.out).mono ?_); rintro e w29 ⟨rfl, hb⟩; have n0_ := Aside0.mk (below_step (by repeat (first | (with_reducible first | exact HB.out | apply below_alloc | apply pw_below_drewN | apply below_drew1) | exact HB.out)) hb); clear HB; have HB := n0_; clear n0_; (try clear hb); (try clear hb2); (try clear hk); (try clear hi)))
                    go_ret
                    exact ⟨by first | rfl | (simp [errW_none, errW_some] <;> rfl) | (simp [*, errW_none, errW_some] <;> rfl), by repeat (first | (with_reducible first | exact HB.out | apply below_alloc | apply pw_below_drewN | apply below_drew1) | exact HB.out)⟩
                  · rw [if_neg c25] at H
                    have c25b0 : (t148.toList == a1.toList) = false := beq_eq_false_iff_ne.mpr c25
                    have c25b1 : (t148.toList != a1.toList) = true := bne_iff_ne.mpr c25
                    obtain rfl := Option.some.inj H
                    go_wp2_with (first | ((with_reducible refine gate_callee (f := 11) rfl ?_); refine goesL_ (some 31) rfl rfl Tryd.func11 (by kernel_rfl) rfl #[.string a1] rfl (by (try simp only [List.map_toArray, List.map_cons, List.map_nil]); first | done | rfl | (simp only [List.length_drop, List.length_take]; rfl)) ?_; (with_reducible refine (names_Number.calls kj10 a1 t146 _ A19.out).mono ?_); rintro e w30 ⟨rfl, hb⟩; refine ⟨_, rfl, ?_⟩; have n0_ := Aside0.mk (below_step (by repeat (first | (with_reducible first | exact HB.out | apply below_alloc | apply pw_below_drewN | apply below_drew1) | exact HB.out)) hb); clear HB; have HB := n0_; clear n0_; (try clear hb); (try clear hb2); (try clear hk); (try clear hi)) | (go_at_call 16; (with_reducible refine (names_Domain.calls t146 t148 _ A24.out).mono ?_); rintro e w31 ⟨rfl, hb⟩; have n0_ := Aside0.mk (below_step (by repeat (first | (with_reducible first | exact HB.out | apply below_alloc | apply pw_below_drewN | apply below_drew1) | exact HB.out)) hb); clear HB; have HB := n0_; clear n0_; (try clear hb); (try clear hb2); (try clear hk); (try clear hi)))
                    go_ret
                    exact ⟨by first | rfl | (simp [errW_none, errW_some] <;> rfl) | (simp [*, errW_none, errW_some] <;> rfl), by repeat (first | (with_reducible first | exact HB.out | apply below_alloc | apply pw_below_drewN | apply below_drew1) | exact HB.out)⟩
        · replace c10 := Bool.eq_false_iff.mpr c10
          subst c10
          have H1 : (if t142.toList = ([] : List UInt8) then ((names_Number.f kj5 a1).bind fun t150 => (if t150 = 0 then ((liverylaw04_lives.f kj5).bind fun t151 => (some t151)) else ((names_Domain.f t150).bind fun t152 => (if t152.toList = a1.toList then ((liverylaw04_lives.f kj5).bind fun t153 => (some t153)) else (some false))))) else (some false)) = some r := by rw [if_neg (show ¬ (false = true) by decide)] at H; exact H
          clear H
          have H := H1
          clear H1
          by_cases c32 : t142.toList = ([] : List UInt8)
          · rw [if_pos c32] at H
            have c32b0 : (t142.toList == ([] : List UInt8)) = true := beq_iff_eq.mpr c32
            have c32b1 : (t142.toList != ([] : List UInt8)) = false := bne_eq_false_iff_eq.mpr c32
            clear c32
            replace H := Option.bind_eq_some_iff.mp H
            obtain ⟨t150, A330, H⟩ := H
            replace H : (if t150 = 0 then ((liverylaw04_lives.f kj5).bind fun t151 => (some t151)) else ((names_Domain.f t150).bind fun t152 => (if t152.toList = a1.toList then ((liverylaw04_lives.f kj5).bind fun t153 => (some t153)) else (some false)))) = some r := H
            have A33 := Aside0.mk A330
            clear A330
            by_cases c34 : t150 = 0
            · rw [if_pos c34] at H
              have c34b0 : (t150 == 0) = true := beq_iff_eq.mpr c34
              have c34b1 : (t150 != 0) = false := bne_eq_false_iff_eq.mpr c34
              clear c34
              replace H := Option.bind_eq_some_iff.mp H
              obtain ⟨t151, A350, H⟩ := H
              replace H : (some t151) = some r := H
              have A35 := Aside0.mk A350
              clear A350
              obtain rfl := Option.some.inj H
              go_wp2_with (first | ((with_reducible refine gate_callee (f := 11) rfl ?_); refine goesL_ (some 31) rfl rfl Tryd.func11 (by kernel_rfl) rfl #[.string a1] rfl (by (try simp only [List.map_toArray, List.map_cons, List.map_nil]); first | done | rfl | (simp only [List.length_drop, List.length_take]; rfl)) ?_; (with_reducible refine (names_Number.calls kj5 a1 t150 _ A33.out).mono ?_); rintro e w36 ⟨rfl, hb⟩; refine ⟨_, rfl, ?_⟩; have n0_ := Aside0.mk (below_step (by repeat (first | (with_reducible first | exact HB.out | apply below_alloc | apply pw_below_drewN | apply below_drew1) | exact HB.out)) hb); clear HB; have HB := n0_; clear n0_; (try clear hb); (try clear hb2); (try clear hk); (try clear hi)) | (go_at_call 15; (with_reducible refine (liverylaw04_lives.calls kj5  t151 _ A35.out).mono ?_); rintro e w37 ⟨rfl, hb⟩; have n0_ := Aside0.mk (below_step (by repeat (first | (with_reducible first | exact HB.out | apply below_alloc | apply pw_below_drewN | apply below_drew1) | exact HB.out)) hb); clear HB; have HB := n0_; clear n0_; (try clear hb); (try clear hb2); (try clear hk); (try clear hi)))
              go_ret
              exact ⟨by first | rfl | (simp [errW_none, errW_some] <;> rfl) | (simp [*, errW_none, errW_some] <;> rfl), by repeat (first | (with_reducible first | exact HB.out | apply below_alloc | apply pw_below_drewN | apply below_drew1) | exact HB.out)⟩
            · rw [if_neg c34] at H
              have c34b0 : (t150 == 0) = false := beq_eq_false_iff_ne.mpr c34
              have c34b1 : (t150 != 0) = true := bne_iff_ne.mpr c34
              replace H := Option.bind_eq_some_iff.mp H
              obtain ⟨t152, A380, H⟩ := H
              replace H : (if t152.toList = a1.toList then ((liverylaw04_lives.f kj5).bind fun t153 => (some t153)) else (some false)) = some r := H
              have A38 := Aside0.mk A380
              clear A380
              by_cases c39 : t152.toList = a1.toList
              · rw [if_pos c39] at H
                have c39b0 : (t152.toList == a1.toList) = true := beq_iff_eq.mpr c39
                have c39b1 : (t152.toList != a1.toList) = false := bne_eq_false_iff_eq.mpr c39
                clear c39
                replace H := Option.bind_eq_some_iff.mp H
                obtain ⟨t153, A400, H⟩ := H
                replace H : (some t153) = some r := H
                have A40 := Aside0.mk A400
                clear A400
                obtain rfl := Option.some.inj H
                go_wp2_with (first | ((with_reducible refine gate_callee (f := 11) rfl ?_); refine goesL_ (some 31) rfl rfl Tryd.func11 (by kernel_rfl) rfl #[.string a1] rfl (by (try simp only [List.map_toArray, List.map_cons, List.map_nil]); first | done | rfl | (simp only [List.length_drop, List.length_take]; rfl)) ?_; (with_reducible refine (names_Number.calls kj5 a1 t150 _ A33.out).mono ?_); rintro e w41 ⟨rfl, hb⟩; refine ⟨_, rfl, ?_⟩; have n0_ := Aside0.mk (below_step (by repeat (first | (with_reducible first | exact HB.out | apply below_alloc | apply pw_below_drewN | apply below_drew1) | exact HB.out)) hb); clear HB; have HB := n0_; clear n0_; (try clear hb); (try clear hb2); (try clear hk); (try clear hi)) | (go_at_call 16; (with_reducible refine (names_Domain.calls t150 t152 _ A38.out).mono ?_); rintro e w42 ⟨rfl, hb⟩; have n0_ := Aside0.mk (below_step (by repeat (first | (with_reducible first | exact HB.out | apply below_alloc | apply pw_below_drewN | apply below_drew1) | exact HB.out)) hb); clear HB; have HB := n0_; clear n0_; (try clear hb); (try clear hb2); (try clear hk); (try clear hi)) | (go_at_call 15; (with_reducible refine (liverylaw04_lives.calls kj5  t153 _ A40.out).mono ?_); rintro e w43 ⟨rfl, hb⟩; have n0_ := Aside0.mk (below_step (by repeat (first | (with_reducible first | exact HB.out | apply below_alloc | apply pw_below_drewN | apply below_drew1) | exact HB.out)) hb); clear HB; have HB := n0_; clear n0_; (try clear hb); (try clear hb2); (try clear hk); (try clear hi)))
                go_ret
                exact ⟨by first | rfl | (simp [errW_none, errW_some] <;> rfl) | (simp [*, errW_none, errW_some] <;> rfl), by repeat (first | (with_reducible first | exact HB.out | apply below_alloc | apply pw_below_drewN | apply below_drew1) | exact HB.out)⟩
              · rw [if_neg c39] at H
                have c39b0 : (t152.toList == a1.toList) = false := beq_eq_false_iff_ne.mpr c39
                have c39b1 : (t152.toList != a1.toList) = true := bne_iff_ne.mpr c39
                obtain rfl := Option.some.inj H
                go_wp2_with (first | ((with_reducible refine gate_callee (f := 11) rfl ?_); refine goesL_ (some 31) rfl rfl Tryd.func11 (by kernel_rfl) rfl #[.string a1] rfl (by (try simp only [List.map_toArray, List.map_cons, List.map_nil]); first | done | rfl | (simp only [List.length_drop, List.length_take]; rfl)) ?_; (with_reducible refine (names_Number.calls kj5 a1 t150 _ A33.out).mono ?_); rintro e w44 ⟨rfl, hb⟩; refine ⟨_, rfl, ?_⟩; have n0_ := Aside0.mk (below_step (by repeat (first | (with_reducible first | exact HB.out | apply below_alloc | apply pw_below_drewN | apply below_drew1) | exact HB.out)) hb); clear HB; have HB := n0_; clear n0_; (try clear hb); (try clear hb2); (try clear hk); (try clear hi)) | (go_at_call 16; (with_reducible refine (names_Domain.calls t150 t152 _ A38.out).mono ?_); rintro e w45 ⟨rfl, hb⟩; have n0_ := Aside0.mk (below_step (by repeat (first | (with_reducible first | exact HB.out | apply below_alloc | apply pw_below_drewN | apply below_drew1) | exact HB.out)) hb); clear HB; have HB := n0_; clear n0_; (try clear hb); (try clear hb2); (try clear hk); (try clear hi)))
                go_ret
                exact ⟨by first | rfl | (simp [errW_none, errW_some] <;> rfl) | (simp [*, errW_none, errW_some] <;> rfl), by repeat (first | (with_reducible first | exact HB.out | apply below_alloc | apply pw_below_drewN | apply below_drew1) | exact HB.out)⟩
          · rw [if_neg c32] at H
            have c32b0 : (t142.toList == ([] : List UInt8)) = false := beq_eq_false_iff_ne.mpr c32
            have c32b1 : (t142.toList != ([] : List UInt8)) = true := bne_iff_ne.mpr c32
            obtain rfl := Option.some.inj H
            go_wp2
            go_ret
            exact ⟨by first | rfl | (simp [errW_none, errW_some] <;> rfl) | (simp [*, errW_none, errW_some] <;> rfl), by repeat (first | (with_reducible first | exact HB.out | apply below_alloc | apply pw_below_drewN | apply below_drew1) | exact HB.out)⟩
  · rw [if_neg c5] at H
    have c5b0 : (t142.toList == t143.toList) = false := beq_eq_false_iff_ne.mpr c5
    have c5b1 : (t142.toList != t143.toList) = true := bne_iff_ne.mpr c5
    obtain rfl := Option.some.inj H
    go_enter Tryd.func4, Tryd.ntmps4
    go_wp2_with (first | ((with_reducible refine gate_callee (f := 16) rfl ?_); refine goesL_ (some 8) rfl rfl Tryd.func16 (by kernel_rfl) rfl #[.int .i64 a0] rfl (by (try simp only [List.map_toArray, List.map_cons, List.map_nil]); first | done | rfl | (simp only [List.length_drop, List.length_take]; rfl)) ?_; (with_reducible refine (names_Domain.calls a0 t142 _ A3.out).mono ?_); rintro e w46 ⟨rfl, hb⟩; refine ⟨_, rfl, ?_⟩; have n0_ := Aside0.mk (below_step (by repeat (first | (with_reducible first | exact HB.out | apply below_alloc | apply pw_below_drewN | apply below_drew1) | exact HB.out)) hb); clear HB; have HB := n0_; clear n0_; (try clear hb); (try clear hb2); (try clear hk); (try clear hi)) | ((with_reducible refine gate_callee (f := 17) rfl ?_); refine goesL_ (some 11) rfl rfl Tryd.func17 (by kernel_rfl) rfl #[.int .i64 a0] rfl (by (try simp only [List.map_toArray, List.map_cons, List.map_nil]); first | done | rfl | (simp only [List.length_drop, List.length_take]; rfl)) ?_; (with_reducible refine (liveryref04_Domain.calls k a0 t143 _ A4.out).mono ?_); rintro e w47 ⟨rfl, hb⟩; refine ⟨_, rfl, ?_⟩; have n0_ := Aside0.mk (below_step (by repeat (first | (with_reducible first | exact HB.out | apply below_alloc | apply pw_below_drewN | apply below_drew1) | exact HB.out)) hb); clear HB; have HB := n0_; clear n0_; (try clear hb); (try clear hb2); (try clear hk); (try clear hi)))
    go_ret
    exact ⟨by first | rfl | (simp [errW_none, errW_some] <;> rfl) | (simp [*, errW_none, errW_some] <;> rfl), by repeat (first | (with_reducible first | exact HB.out | apply below_alloc | apply pw_below_drewN | apply below_drew1) | exact HB.out)⟩

/-- THE ONE PURE STATEMENT of liverylaw04_NamesDomains. -/
def liverylaw04_NamesDomains.Pure : Prop := ∀ (a0 : Int) (a1 : ByteArray), (Lit.int .i64 a0).wf = true → a1.size ≤ 140737488351232 → ∃ k, liverylaw04_NamesDomains.f k a0 a1 = some true
theorem liverylaw04_NamesDomains.walk (P : liverylaw04_NamesDomains.Pure) (a0 : Int) (a1 : ByteArray) (w : World) (w0 : (Lit.int .i64 a0).wf = true) (w1 : a1.size ≤ 140737488351232) :
    Calls Tryd.prog 4 #[.int .i64 a0, .string a1] w fun e w' => e = .returned (.bool true) ∧ Below w.heap.size w w' := by
  obtain ⟨k, h⟩ := P a0 a1 w0 w1
  refine (liverylaw04_NamesDomains.calls k a0 a1 true w  h).mono ?_
  rintro e w' ⟨rfl, hd⟩
  exact ⟨rfl, hd⟩

end Go.Proofs.YtajngkgafkhbiaaDoor.P
