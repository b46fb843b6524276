/- Written by a program of this session's, for this claim: the functions that the law reaches, their contracts, the law's row. Not trusted: it is checked as any text. -/
import Derived.Test.YtpnmmkoiemeodaaDoorP0
import Derived.Test.YtpnmmkoiemeodaaDoorP14
import Derived.Test.YtpnmmkoiemeodaaDoorP15
namespace Go.Proofs.YtpnmmkoiemeodaaDoor.P
open Go.RowKit Go.Proofs.YtpnmmkoiemeodaaDoorW.PrintWords Go.Proofs.YtpnmmkoiemeodaaDoorW.PrintLast Go.Proofs.YtpnmmkoiemeodaaDoorW.PrintMore
attribute [local go_sem] max2_int min2_int max_two min_two max_three min_three max_four min_four   -- for this text's walks alone
set_option linter.unusedVariables false
set_option linter.unusedSimpArgs false

/-! ### liveryref05_Text: function 10 -/
mutual
def liveryref05_Text.j0 : Nat → ByteArray → ByteArray → Int → Int → ByteArray → Int → ByteArray → ByteArray → ByteArray → ByteArray → ByteArray → Option (ByteArray × Int)
  | 0, _, _, _, _, _, _, _, _, _, _, _ => none
  | k + 1, x5, x6, x151000, x151001, x151002, x151003, x151004, x151005, x151006, x151007, x151008 => if x151003 = 2 then (liveryref05_Text.j1 k x5 x6 true x151000 x151001 x151002 x151003 x151004 x151005 x151006 x151007 x151008) else (liveryref05_Text.j1 k x5 x6 (x151003 == 4) x151000 x151001 x151002 x151003 x151004 x151005 x151006 x151007 x151008)
def liveryref05_Text.j1 : Nat → ByteArray → ByteArray → Bool → Int → Int → ByteArray → Int → ByteArray → ByteArray → ByteArray → ByteArray → ByteArray → Option (ByteArray × Int)
  | 0, _, _, _, _, _, _, _, _, _, _, _, _ => none
  | k + 1, x5, x6, x35, x151000, x151001, x151002, x151003, x151004, x151005, x151006, x151007, x151008 => if x35 = true then ((liveryref04_Text.f x151005 x151006).bind fun t153 => (if x6.size + t153.size ≤ 9223372036854775807 then (liveryref05_Text.j2 k x5 (x6 ++ t153) x151000 x151001 x151002 x151003 x151004 x151005 x151006 x151007 x151008) else (none))) else (liveryref05_Text.j2 k x5 x6 x151000 x151001 x151002 x151003 x151004 x151005 x151006 x151007 x151008)
def liveryref05_Text.j2 : Nat → ByteArray → ByteArray → Int → Int → ByteArray → Int → ByteArray → ByteArray → ByteArray → ByteArray → ByteArray → Option (ByteArray × Int)
  | 0, _, _, _, _, _, _, _, _, _, _, _ => none
  | k + 1, x5, x6, x151000, x151001, x151002, x151003, x151004, x151005, x151006, x151007, x151008 => if x151003 = 3 then (if x6.size + x5.size ≤ 9223372036854775807 then (if (x6 ++ x5).size + 1 ≤ 9223372036854775807 then (if ((x6 ++ x5) ++ (⟨#[46]⟩ : ByteArray)).size + x151006.size ≤ 9223372036854775807 then (if (((x6 ++ x5) ++ (⟨#[46]⟩ : ByteArray)) ++ x151006).size + 1 ≤ 9223372036854775807 then (if ((((x6 ++ x5) ++ (⟨#[46]⟩ : ByteArray)) ++ x151006) ++ (⟨#[46]⟩ : ByteArray)).size + x151008.size ≤ 9223372036854775807 then (if x151003 = 4 then (if (((((x6 ++ x5) ++ (⟨#[46]⟩ : ByteArray)) ++ x151006) ++ (⟨#[46]⟩ : ByteArray)) ++ x151008).size + 3 ≤ 9223372036854775807 then ((liveryref04_Text.f x151007 x151008).bind fun t154 => (if ((((((x6 ++ x5) ++ (⟨#[46]⟩ : ByteArray)) ++ x151006) ++ (⟨#[46]⟩ : ByteArray)) ++ x151008) ++ (⟨#[32, 38, 32]⟩ : ByteArray)).size + t154.size ≤ 9223372036854775807 then (some (((((((x6 ++ x5) ++ (⟨#[46]⟩ : ByteArray)) ++ x151006) ++ (⟨#[46]⟩ : ByteArray)) ++ x151008) ++ (⟨#[32, 38, 32]⟩ : ByteArray)) ++ t154, 0)) else (none))) else (none)) else (some (((((x6 ++ x5) ++ (⟨#[46]⟩ : ByteArray)) ++ x151006) ++ (⟨#[46]⟩ : ByteArray)) ++ x151008, 0))) else (none)) else (none)) else (none)) else (none)) else (none)) else (if x151003 = 4 then (if x6.size + 3 ≤ 9223372036854775807 then ((liveryref04_Text.f x151007 x151008).bind fun t155 => (if (x6 ++ (⟨#[32, 38, 32]⟩ : ByteArray)).size + t155.size ≤ 9223372036854775807 then (some ((x6 ++ (⟨#[32, 38, 32]⟩ : ByteArray)) ++ t155, 0)) else (none))) else (none)) else (some (x6, 0)))
end
def liveryref05_Text.f (k : Nat) (a0_0 : Int) (a0_1 : Int) (a0_2 : ByteArray) (a0_3 : Int) (a0_4 : ByteArray) (a0_5 : ByteArray) (a0_6 : ByteArray) (a0_7 : ByteArray) (a0_8 : ByteArray) : Option (ByteArray × Int) := (liveryref05_May.f k a0_0 a0_1 a0_2 a0_3 a0_4 a0_5 a0_6 a0_7 a0_8).bind fun t151 => (if t151 = true then ((liveryref04_Domain.f k a0_0).bind fun t152 => (if t152.size + 1 ≤ 9223372036854775807 then (if (t152 ++ (⟨#[46]⟩ : ByteArray)).size + a0_2.size ≤ 9223372036854775807 then (if ((t152 ++ (⟨#[46]⟩ : ByteArray)) ++ a0_2).size + 4 ≤ 9223372036854775807 then (if a0_3 = 1 then (if (((t152 ++ (⟨#[46]⟩ : ByteArray)) ++ a0_2) ++ (⟨#[32, 60, 45, 32]⟩ : ByteArray)).size + a0_4.size ≤ 9223372036854775807 then (liveryref05_Text.j0 k t152 ((((t152 ++ (⟨#[46]⟩ : ByteArray)) ++ a0_2) ++ (⟨#[32, 60, 45, 32]⟩ : ByteArray)) ++ a0_4) a0_0 a0_1 a0_2 a0_3 a0_4 a0_5 a0_6 a0_7 a0_8) else (none)) else (liveryref05_Text.j0 k t152 (((t152 ++ (⟨#[46]⟩ : ByteArray)) ++ a0_2) ++ (⟨#[32, 60, 45, 32]⟩ : ByteArray)) a0_0 a0_1 a0_2 a0_3 a0_4 a0_5 a0_6 a0_7 a0_8)) else (none)) else (none)) else (none))) else (some ((⟨#[]⟩ : ByteArray), 11)))
set_option maxHeartbeats 8000000 in
set_option maxRecDepth 100000 in
theorem liveryref05_Text.calls (k : Nat) (a0_0 : Int) (a0_1 : Int) (a0_2 : ByteArray) (a0_3 : Int) (a0_4 : ByteArray) (a0_5 : ByteArray) (a0_6 : ByteArray) (a0_7 : ByteArray) (a0_8 : ByteArray) (r1 : ByteArray) (r2 : Int) (w : World) (h : liveryref05_Text.f k a0_0 a0_1 a0_2 a0_3 a0_4 a0_5 a0_6 a0_7 a0_8 = some (r1, r2)) :
    Calls Tryd.prog 10 #[.agg #[.int .i64 a0_0, .int .i64 a0_1, .string a0_2, .int .i64 a0_3, .string a0_4, .string a0_5, .string a0_6, .string a0_7, .string a0_8]] w fun e w' => e = .returned (.tuple #[.string r1, .int .i64 r2]) ∧ Below w.heap.size w w' := by
  have hu27 := Tryd.underlying27
  have hu25 := Tryd.underlying25
  have HB := Aside0.mk (Below.refl w.heap.size w)
  have H : ((liveryref05_May.f k a0_0 a0_1 a0_2 a0_3 a0_4 a0_5 a0_6 a0_7 a0_8).bind fun t151 => (if t151 = true then ((liveryref04_Domain.f k a0_0).bind fun t152 => (if t152.size + 1 ≤ 9223372036854775807 then (if (t152 ++ (⟨#[46]⟩ : ByteArray)).size + a0_2.size ≤ 9223372036854775807 then (if ((t152 ++ (⟨#[46]⟩ : ByteArray)) ++ a0_2).size + 4 ≤ 9223372036854775807 then (if a0_3 = 1 then (if (((t152 ++ (⟨#[46]⟩ : ByteArray)) ++ a0_2) ++ (⟨#[32, 60, 45, 32]⟩ : ByteArray)).size + a0_4.size ≤ 9223372036854775807 then (liveryref05_Text.j0 k t152 ((((t152 ++ (⟨#[46]⟩ : ByteArray)) ++ a0_2) ++ (⟨#[32, 60, 45, 32]⟩ : ByteArray)) ++ a0_4) a0_0 a0_1 a0_2 a0_3 a0_4 a0_5 a0_6 a0_7 a0_8) else (none)) else (liveryref05_Text.j0 k t152 (((t152 ++ (⟨#[46]⟩ : ByteArray)) ++ a0_2) ++ (⟨#[32, 60, 45, 32]⟩ : ByteArray)) a0_0 a0_1 a0_2 a0_3 a0_4 a0_5 a0_6 a0_7 a0_8)) else (none)) else (none)) else (none))) else (some ((⟨#[]⟩ : ByteArray), 11)))) = some (r1, r2) := h
  clear h
  replace H := Option.bind_eq_some_iff.mp H
  obtain ⟨t151, A20, H⟩ := H
  replace H : (if t151 = true then ((liveryref04_Domain.f k a0_0).bind fun t152 => (if t152.size + 1 ≤ 9223372036854775807 then (if (t152 ++ (⟨#[46]⟩ : ByteArray)).size + a0_2.size ≤ 9223372036854775807 then (if ((t152 ++ (⟨#[46]⟩ : ByteArray)) ++ a0_2).size + 4 ≤ 9223372036854775807 then (if a0_3 = 1 then (if (((t152 ++ (⟨#[46]⟩ : ByteArray)) ++ a0_2) ++ (⟨#[32, 60, 45, 32]⟩ : ByteArray)).size + a0_4.size ≤ 9223372036854775807 then (liveryref05_Text.j0 k t152 ((((t152 ++ (⟨#[46]⟩ : ByteArray)) ++ a0_2) ++ (⟨#[32, 60, 45, 32]⟩ : ByteArray)) ++ a0_4) a0_0 a0_1 a0_2 a0_3 a0_4 a0_5 a0_6 a0_7 a0_8) else (none)) else (liveryref05_Text.j0 k t152 (((t152 ++ (⟨#[46]⟩ : ByteArray)) ++ a0_2) ++ (⟨#[32, 60, 45, 32]⟩ : ByteArray)) a0_0 a0_1 a0_2 a0_3 a0_4 a0_5 a0_6 a0_7 a0_8)) else (none)) else (none)) else (none))) else (some ((⟨#[]⟩ : ByteArray), 11))) = some (r1, r2) := H
  have A2 := Aside0.mk A20
  clear A20
  by_cases c3 : t151 = true
  · subst c3
    have H1 : ((liveryref04_Domain.f k a0_0).bind fun t152 => (if t152.size + 1 ≤ 9223372036854775807 then (if (t152 ++ (⟨#[46]⟩ : ByteArray)).size + a0_2.size ≤ 9223372036854775807 then (if ((t152 ++ (⟨#[46]⟩ : ByteArray)) ++ a0_2).size + 4 ≤ 9223372036854775807 then (if a0_3 = 1 then (if (((t152 ++ (⟨#[46]⟩ : ByteArray)) ++ a0_2) ++ (⟨#[32, 60, 45, 32]⟩ : ByteArray)).size + a0_4.size ≤ 9223372036854775807 then (liveryref05_Text.j0 k t152 ((((t152 ++ (⟨#[46]⟩ : ByteArray)) ++ a0_2) ++ (⟨#[32, 60, 45, 32]⟩ : ByteArray)) ++ a0_4) a0_0 a0_1 a0_2 a0_3 a0_4 a0_5 a0_6 a0_7 a0_8) else (none)) else (liveryref05_Text.j0 k t152 (((t152 ++ (⟨#[46]⟩ : ByteArray)) ++ a0_2) ++ (⟨#[32, 60, 45, 32]⟩ : ByteArray)) a0_0 a0_1 a0_2 a0_3 a0_4 a0_5 a0_6 a0_7 a0_8)) else (none)) else (none)) else (none))) = some (r1, r2) := by rw [if_pos rfl] at H; exact H
    clear H
    have H := H1
    clear H1
    replace H := Option.bind_eq_some_iff.mp H
    obtain ⟨t152, A40, H⟩ := H
    replace H : (if t152.size + 1 ≤ 9223372036854775807 then (if (t152 ++ (⟨#[46]⟩ : ByteArray)).size + a0_2.size ≤ 9223372036854775807 then (if ((t152 ++ (⟨#[46]⟩ : ByteArray)) ++ a0_2).size + 4 ≤ 9223372036854775807 then (if a0_3 = 1 then (if (((t152 ++ (⟨#[46]⟩ : ByteArray)) ++ a0_2) ++ (⟨#[32, 60, 45, 32]⟩ : ByteArray)).size + a0_4.size ≤ 9223372036854775807 then (liveryref05_Text.j0 k t152 ((((t152 ++ (⟨#[46]⟩ : ByteArray)) ++ a0_2) ++ (⟨#[32, 60, 45, 32]⟩ : ByteArray)) ++ a0_4) a0_0 a0_1 a0_2 a0_3 a0_4 a0_5 a0_6 a0_7 a0_8) else (none)) else (liveryref05_Text.j0 k t152 (((t152 ++ (⟨#[46]⟩ : ByteArray)) ++ a0_2) ++ (⟨#[32, 60, 45, 32]⟩ : ByteArray)) a0_0 a0_1 a0_2 a0_3 a0_4 a0_5 a0_6 a0_7 a0_8)) else (none)) else (none)) else (none)) = some (r1, r2) := H
    have A4 := Aside0.mk A40
    clear A40
    by_cases c5 : t152.size + 1 ≤ 9223372036854775807
    · rw [if_pos c5] at H
      have c5b0 := eq_true c5
      have c5b1 : decide (t152.size + 1 ≤ 9223372036854775807) = true := decide_eq_true c5
      try have c5b2 : (9223372036854775807 < t152.size + 1) = False := eq_false (Nat.not_lt.2 c5)
      by_cases c6 : (t152 ++ (⟨#[46]⟩ : ByteArray)).size + a0_2.size ≤ 9223372036854775807
      · rw [if_pos c6] at H
        have c6b0 := eq_true c6
        have c6b1 : decide ((t152 ++ (⟨#[46]⟩ : ByteArray)).size + a0_2.size ≤ 9223372036854775807) = true := decide_eq_true c6
        try have c6b2 : (9223372036854775807 < (t152 ++ (⟨#[46]⟩ : ByteArray)).size + a0_2.size) = False := eq_false (Nat.not_lt.2 c6)
        try (have c6b3 := c6; simp only [ByteArray.size_append, show (⟨#[46]⟩ : ByteArray).size = 1 from rfl] at c6b3; have c6b4 := eq_false (Nat.not_lt.2 c6b3))
        by_cases c7 : ((t152 ++ (⟨#[46]⟩ : ByteArray)) ++ a0_2).size + 4 ≤ 9223372036854775807
        · rw [if_pos c7] at H
          have c7b0 := eq_true c7
          have c7b1 : decide (((t152 ++ (⟨#[46]⟩ : ByteArray)) ++ a0_2).size + 4 ≤ 9223372036854775807) = true := decide_eq_true c7
          try have c7b2 : (9223372036854775807 < ((t152 ++ (⟨#[46]⟩ : ByteArray)) ++ a0_2).size + 4) = False := eq_false (Nat.not_lt.2 c7)
          try (have c7b3 := c7; simp only [ByteArray.size_append, show (⟨#[46]⟩ : ByteArray).size = 1 from rfl] at c7b3; have c7b4 := eq_false (Nat.not_lt.2 c7b3))
          have HC8 := Aside0.mk H
          clear H
          go_enter Tryd.func10, Tryd.ntmps10
          go_upto_if 23 with (first | ((with_reducible refine gate_dst (N := 1) rfl ?_); refine box_event ?hg (N := 1) ?hd (cs := #[.int .i64 a0_0, .int .i64 a0_1, .string a0_2, .int .i64 a0_3, .string a0_4, .string a0_5, .string a0_6, .string a0_7, .string a0_8]) (t := 27) ?hr ?_; (case hd => rfl); (case hg => rfl); (case hr => first | (go_simp; done) | (go_simp; rfl)); intro gb150 hg w9 hbox hb; have n0_ := Aside0.mk (below_step (by repeat (first | (with_reducible first | exact HB.out | apply below_alloc | apply pw_below_drewN | apply below_drew1) | exact HB.out)) hb); have n1_ := Aside0.mk (hbox); have n2_ := Aside0.mk ((by rw [hg]; exact (below_size (by repeat (first | (with_reducible first | exact HB.out | apply below_alloc | apply pw_below_drewN | apply below_drew1) | exact HB.out))) : w.heap.size ≤ gb150)); have n3_ := n2_; clear HB; have HB := n0_; have BK150 := n1_; have GW150 := n2_; have GE150 := n3_; clear n0_ n1_ n2_ n3_; clear hb hbox hg; obtain ⟨hcz10_0, hcz10_1, hcz10_2, hcz10_3, hcz10_4, hcz10_5, hcz10_6, hcz10_7, hcz10_8, hfz10_0, hfz10_1, hfz10_2, hfz10_3, hfz10_4, hfz10_5, hfz10_6, hfz10_7, hfz10_8⟩ := blk_all9 BK150.out) | ((with_reducible refine gate_callee (f := 12) rfl ?_); refine goesL_ (some 8) rfl rfl Tryd.func12 (by kernel_rfl) rfl #[.agg #[.int .i64 a0_0, .int .i64 a0_1, .string a0_2, .int .i64 a0_3, .string a0_4, .string a0_5, .string a0_6, .string a0_7, .string a0_8]] rfl (by (try simp only [List.map_toArray, List.map_cons, List.map_nil]); first | done | rfl | (simp only [List.length_drop, List.length_take]; rfl)) ?_; (with_reducible refine (liveryref05_May.calls k a0_0 a0_1 a0_2 a0_3 a0_4 a0_5 a0_6 a0_7 a0_8 true _ A2.out).mono ?_); rintro e w11 ⟨rfl, hb⟩; refine ⟨_, rfl, ?_⟩; have n0_ := Aside0.mk (blk_below (g := gb150) (o := .cells #[.int .i64 a0_0, .int .i64 a0_1, .string a0_2, .int .i64 a0_3, .string a0_4, .string a0_5, .string a0_6, .string a0_7, .string a0_8] 27 (0, 0)) (by (with_reducible repeat (first | refine blk_drewN ?_ _ | refine blk_drew ?_ | refine blk_alloc ?_ _)); exact BK150.out) hb); have n1_ := Aside0.mk (below_step (by repeat (first | (with_reducible first | exact HB.out | apply below_alloc | apply pw_below_drewN | apply below_drew1 | refine below_set ?_ GE150.out) | exact HB.out)) hb); clear BK150; clear HB; have BK150 := n0_; have HB := n1_; clear n0_ n1_; (try clear hb); (try clear hb2); (try clear hk); (try clear hi); obtain ⟨hcz12_0, hcz12_1, hcz12_2, hcz12_3, hcz12_4, hcz12_5, hcz12_6, hcz12_7, hcz12_8, hfz12_0, hfz12_1, hfz12_2, hfz12_3, hfz12_4, hfz12_5, hfz12_6, hfz12_7, hfz12_8⟩ := blk_all9 BK150.out) | ((with_reducible refine gate_callee (f := 29) rfl ?_); refine goesL_ (some 14) rfl rfl Tryd.func29 (by kernel_rfl) rfl #[.int .i64 a0_0] rfl (by (try simp only [List.map_toArray, List.map_cons, List.map_nil]); first | done | rfl | (simp only [List.length_drop, List.length_take]; rfl)) ?_; (with_reducible refine (liveryref04_Domain.calls k a0_0 t152 _ A4.out).mono ?_); rintro e w13 ⟨rfl, hb⟩; refine ⟨_, rfl, ?_⟩; have n0_ := Aside0.mk (blk_below (g := gb150) (o := .cells #[.int .i64 a0_0, .int .i64 a0_1, .string a0_2, .int .i64 a0_3, .string a0_4, .string a0_5, .string a0_6, .string a0_7, .string a0_8] 27 (0, 0)) (by (with_reducible repeat (first | refine blk_drewN ?_ _ | refine blk_drew ?_ | refine blk_alloc ?_ _)); exact BK150.out) hb); have n1_ := Aside0.mk (below_step (by repeat (first | (with_reducible first | exact HB.out | apply below_alloc | apply pw_below_drewN | apply below_drew1 | refine below_set ?_ GE150.out) | exact HB.out)) hb); clear BK150; clear HB; have BK150 := n0_; have HB := n1_; clear n0_ n1_; (try clear hb); (try clear hb2); (try clear hk); (try clear hi); obtain ⟨hcz14_0, hcz14_1, hcz14_2, hcz14_3, hcz14_4, hcz14_5, hcz14_6, hcz14_7, hcz14_8, hfz14_0, hfz14_1, hfz14_2, hfz14_3, hfz14_4, hfz14_5, hfz14_6, hfz14_7, hfz14_8⟩ := blk_all9 BK150.out))
          (try simp only [Act.put, List.setIfInBounds_toArray, List.set_cons_zero, List.set_cons_succ])
          go_cut [6] (fun v6 wc => ∃ (kq : Nat) (x6_7 : ByteArray), v6 = .string x6_7 ∧ Aside0 (liveryref05_Text.j0 kq t152 x6_7 a0_0 a0_1 a0_2 a0_3 a0_4 a0_5 a0_6 a0_7 a0_8 = some (r1, r2)) ∧ Aside0 (kq ≤ k) ∧ Aside0 (wc.heap[gb150]? = some (.cells #[.int .i64 a0_0, .int .i64 a0_1, .string a0_2, .int .i64 a0_3, .string a0_4, .string a0_5, .string a0_6, .string a0_7, .string a0_8] 27 (0, 0))) ∧ Aside0 (Below w.heap.size w wc))
          case first =>
            have H := HC8.out
            clear HC8
            by_cases c15 : a0_3 = 1
            · rw [if_pos c15] at H
              have c15b0 : (a0_3 == 1) = true := beq_iff_eq.mpr c15
              have c15b1 : (a0_3 != 1) = false := bne_eq_false_iff_eq.mpr c15
              clear c15
              (first | rw [c15b0] | (simp only [i64_w, i32_w]; rw [c15b0]) | skip)
              by_cases c16 : (((t152 ++ (⟨#[46]⟩ : ByteArray)) ++ a0_2) ++ (⟨#[32, 60, 45, 32]⟩ : ByteArray)).size + a0_4.size ≤ 9223372036854775807
              · rw [if_pos c16] at H
                have c16b0 := eq_true c16
                have c16b1 : decide ((((t152 ++ (⟨#[46]⟩ : ByteArray)) ++ a0_2) ++ (⟨#[32, 60, 45, 32]⟩ : ByteArray)).size + a0_4.size ≤ 9223372036854775807) = true := decide_eq_true c16
                try have c16b2 : (9223372036854775807 < (((t152 ++ (⟨#[46]⟩ : ByteArray)) ++ a0_2) ++ (⟨#[32, 60, 45, 32]⟩ : ByteArray)).size + a0_4.size) = False := eq_false (Nat.not_lt.2 c16)
                try (have c16b3 := c16; simp only [ByteArray.size_append, show (⟨#[32, 60, 45, 32]⟩ : ByteArray).size = 4 from rfl, show (⟨#[46]⟩ : ByteArray).size = 1 from rfl] at c16b3; have c16b4 := eq_false (Nat.not_lt.2 c16b3))
                have H' := Aside0.mk H
                clear H
                obtain ⟨hcz17_0, hcz17_1, hcz17_2, hcz17_3, hcz17_4, hcz17_5, hcz17_6, hcz17_7, hcz17_8, hfz17_0, hfz17_1, hfz17_2, hfz17_3, hfz17_4, hfz17_5, hfz17_6, hfz17_7, hfz17_8⟩ := blk_all9 BK150.out
                go_wp2
                go_meet
                case rel => exact ⟨_, ((((t152 ++ (⟨#[46]⟩ : ByteArray)) ++ a0_2) ++ (⟨#[32, 60, 45, 32]⟩ : ByteArray)) ++ a0_4), (by first | rfl | (simp; done) | (simp [*]; done)), H', ⟨by first | omega | exact Nat.le_refl _⟩, ⟨by (with_reducible repeat (first | refine blk_drewN ?_ _ | refine blk_drew ?_ | refine blk_alloc ?_ _)); exact BK150.out⟩, ⟨by repeat (first | (with_reducible first | exact HB.out | apply below_alloc | apply pw_below_drewN | apply below_drew1 | refine below_set ?_ GE150.out) | exact HB.out)⟩⟩
              · rw [if_neg c16] at H
                exact absurd H (by simp)
            · rw [if_neg c15] at H
              have c15b0 : (a0_3 == 1) = false := beq_eq_false_iff_ne.mpr c15
              have c15b1 : (a0_3 != 1) = true := bne_iff_ne.mpr c15
              (first | rw [c15b0] | (simp only [i64_w, i32_w]; rw [c15b0]) | skip)
              have H' := Aside0.mk H
              clear H
              go_wp2
              go_meet
              case rel => exact ⟨_, (((t152 ++ (⟨#[46]⟩ : ByteArray)) ++ a0_2) ++ (⟨#[32, 60, 45, 32]⟩ : ByteArray)), (by first | rfl | (simp; done) | (simp [*]; done)), H', ⟨by first | omega | exact Nat.le_refl _⟩, ⟨by (with_reducible repeat (first | refine blk_drewN ?_ _ | refine blk_drew ?_ | refine blk_alloc ?_ _)); exact BK150.out⟩, ⟨by repeat (first | (with_reducible first | exact HB.out | apply below_alloc | apply pw_below_drewN | apply below_drew1 | refine below_set ?_ GE150.out) | exact HB.out)⟩⟩
          case rest =>
            clear HC8
            try clear c1
            try clear c2
            try clear p2
            try clear c3
            try clear c5
            try clear c5b0
            try clear c5b1
            try clear c5b2
            try clear c6
            try clear c6b0
            try clear c6b1
            try clear c6b2
            try clear c7
            try clear c7b0
            try clear c7b1
            try clear c7b2
            try clear c10
            try clear c12
            try clear c15
            try clear c15b0
            try clear c15b1
            try clear c16
            try clear c16b0
            try clear c16b1
            try clear c16b2
            try clear hcz10_0
            try clear hcz10_1
            try clear hcz10_2
            try clear hcz10_3
            try clear hcz10_4
            try clear hcz10_5
            try clear hcz10_6
            try clear hcz10_7
            try clear hcz10_8
            try clear hcz12_0
            try clear hcz12_1
            try clear hcz12_2
            try clear hcz12_3
            try clear hcz12_4
            try clear hcz12_5
            try clear hcz12_6
            try clear hcz12_7
            try clear hcz12_8
            try clear hcz14_0
            try clear hcz14_1
            try clear hcz14_2
            try clear hcz14_3
            try clear hcz14_4
            try clear hcz14_5
            try clear hcz14_6
            try clear hcz14_7
            try clear hcz14_8
            try clear hcz17_0
            try clear hcz17_1
            try clear hcz17_2
            try clear hcz17_3
            try clear hcz17_4
            try clear hcz17_5
            try clear hcz17_6
            try clear hcz17_7
            try clear hcz17_8
            try clear hfz10_0
            try clear hfz10_1
            try clear hfz10_2
            try clear hfz10_3
            try clear hfz10_4
            try clear hfz10_5
            try clear hfz10_6
            try clear hfz10_7
            try clear hfz10_8
            try clear hfz12_0
            try clear hfz12_1
            try clear hfz12_2
            try clear hfz12_3
            try clear hfz12_4
            try clear hfz12_5
            try clear hfz12_6
            try clear hfz12_7
            try clear hfz12_8
            try clear hfz14_0
            try clear hfz14_1
            try clear hfz14_2
            try clear hfz14_3
            try clear hfz14_4
            try clear hfz14_5
            try clear hfz14_6
            try clear hfz14_7
            try clear hfz14_8
            try clear hfz17_0
            try clear hfz17_1
            try clear hfz17_2
            try clear hfz17_3
            try clear hfz17_4
            try clear hfz17_5
            try clear hfz17_6
            try clear hfz17_7
            try clear hfz17_8
            obtain ⟨kq, x6_7, rfl, HA, HJ7, BK150, HB⟩ := hcut
            cases kq with
            | zero => exact absurd HA.out (by simp [liveryref05_Text.j0])
            | succ kj7 =>
              have H := HA.out
              clear HA
              simp only [liveryref05_Text.j0] at H
              have HC18 := Aside0.mk H
              clear H
              go_upto_region 8 with (fail)
              go_cut [35] (fun v35 wc => ∃ (kq : Nat) (x35_17 : Bool), v35 = .bool x35_17 ∧ Aside0 (liveryref05_Text.j1 kq t152 x6_7 x35_17 a0_0 a0_1 a0_2 a0_3 a0_4 a0_5 a0_6 a0_7 a0_8 = some (r1, r2)) ∧ Aside0 (kq ≤ kj7) ∧ Aside0 (wc.heap[gb150]? = some (.cells #[.int .i64 a0_0, .int .i64 a0_1, .string a0_2, .int .i64 a0_3, .string a0_4, .string a0_5, .string a0_6, .string a0_7, .string a0_8] 27 (0, 0))) ∧ Aside0 (Below w.heap.size w wc))
              case first =>
                have H := HC18.out
                clear HC18
                by_cases c19 : a0_3 = 2
                · rw [if_pos c19] at H
                  have c19b0 : (a0_3 == 2) = true := beq_iff_eq.mpr c19
                  have c19b1 : (a0_3 != 2) = false := bne_eq_false_iff_eq.mpr c19
                  clear c19
                  (first | rw [c19b0] | (simp only [i64_w, i32_w]; rw [c19b0]) | skip)
                  have H' := Aside0.mk H
                  clear H
                  obtain ⟨hcz20_0, hcz20_1, hcz20_2, hcz20_3, hcz20_4, hcz20_5, hcz20_6, hcz20_7, hcz20_8, hfz20_0, hfz20_1, hfz20_2, hfz20_3, hfz20_4, hfz20_5, hfz20_6, hfz20_7, hfz20_8⟩ := blk_all9 BK150.out
                  go_wp2
                  go_meet
                  case rel => exact ⟨_, (true), (by first | rfl | (simp; done) | (simp [*]; done)), H', ⟨by have := HJ7.out; first | omega | exact Nat.le_refl _⟩, ⟨by (with_reducible repeat (first | refine blk_drewN ?_ _ | refine blk_drew ?_ | refine blk_alloc ?_ _)); exact BK150.out⟩, ⟨by repeat (first | (with_reducible first | exact HB.out | apply below_alloc | apply pw_below_drewN | apply below_drew1 | refine below_set ?_ GE150.out) | exact HB.out)⟩⟩
                · rw [if_neg c19] at H
                  have c19b0 : (a0_3 == 2) = false := beq_eq_false_iff_ne.mpr c19
                  have c19b1 : (a0_3 != 2) = true := bne_iff_ne.mpr c19
                  (first | rw [c19b0] | (simp only [i64_w, i32_w]; rw [c19b0]) | skip)
                  have H' := Aside0.mk H
                  clear H
                  obtain ⟨hcz21_0, hcz21_1, hcz21_2, hcz21_3, hcz21_4, hcz21_5, hcz21_6, hcz21_7, hcz21_8, hfz21_0, hfz21_1, hfz21_2, hfz21_3, hfz21_4, hfz21_5, hfz21_6, hfz21_7, hfz21_8⟩ := blk_all9 BK150.out
                  go_wp2
                  go_meet
                  case rel => exact ⟨_, ((a0_3 == 4)), (by first | rfl | (simp; done) | (simp [*]; done)), H', ⟨by have := HJ7.out; first | omega | exact Nat.le_refl _⟩, ⟨by (with_reducible repeat (first | refine blk_drewN ?_ _ | refine blk_drew ?_ | refine blk_alloc ?_ _)); exact BK150.out⟩, ⟨by repeat (first | (with_reducible first | exact HB.out | apply below_alloc | apply pw_below_drewN | apply below_drew1 | refine below_set ?_ GE150.out) | exact HB.out)⟩⟩
              case rest =>
                clear HC18
                try clear c1
                try clear c2
                try clear p2
                try clear c3
                try clear c5
                try clear c5b0
                try clear c5b1
                try clear c5b2
                try clear c6
                try clear c6b0
                try clear c6b1
                try clear c6b2
                try clear c7
                try clear c7b0
                try clear c7b1
                try clear c7b2
                try clear c10
                try clear c12
                try clear c15
                try clear c15b0
                try clear c15b1
                try clear c16
                try clear c16b0
                try clear c16b1
                try clear c16b2
                try clear c19
                try clear c19b0
                try clear c19b1
                try clear hcz10_0
                try clear hcz10_1
                try clear hcz10_2
                try clear hcz10_3
                try clear hcz10_4
                try clear hcz10_5
                try clear hcz10_6
                try clear hcz10_7
                try clear hcz10_8
                try clear hcz12_0
                try clear hcz12_1
                try clear hcz12_2
                try clear hcz12_3
                try clear hcz12_4
                try clear hcz12_5
                try clear hcz12_6
                try clear hcz12_7
                try clear hcz12_8
                try clear hcz14_0
                try clear hcz14_1
                try clear hcz14_2
                try clear hcz14_3
                try clear hcz14_4
                try clear hcz14_5
                try clear hcz14_6
                try clear hcz14_7
                try clear hcz14_8
                try clear hcz17_0
                try clear hcz17_1
                try clear hcz17_2
                try clear hcz17_3
                try clear hcz17_4
                try clear hcz17_5
                try clear hcz17_6
                try clear hcz17_7
                try clear hcz17_8
                try clear hcz20_0
                try clear hcz20_1
                try clear hcz20_2
                try clear hcz20_3
                try clear hcz20_4
                try clear hcz20_5
                try clear hcz20_6
                try clear hcz20_7
                try clear hcz20_8
                try clear hcz21_0
                try clear hcz21_1
                try clear hcz21_2
                try clear hcz21_3
                try clear hcz21_4
                try clear hcz21_5
                try clear hcz21_6
                try clear hcz21_7
                try clear hcz21_8
                try clear hfz10_0
                try clear hfz10_1
                try clear hfz10_2
                try clear hfz10_3
                try clear hfz10_4
                try clear hfz10_5
                try clear hfz10_6
                try clear hfz10_7
                try clear hfz10_8
                try clear hfz12_0
                try clear hfz12_1
                try clear hfz12_2
                try clear hfz12_3
                try clear hfz12_4
                try clear hfz12_5
                try clear hfz12_6
                try clear hfz12_7
                try clear hfz12_8
                try clear hfz14_0
                try clear hfz14_1
                try clear hfz14_2
                try clear hfz14_3
                try clear hfz14_4
                try clear hfz14_5
                try clear hfz14_6
                try clear hfz14_7
                try clear hfz14_8
                try clear hfz17_0
                try clear hfz17_1
                try clear hfz17_2
                try clear hfz17_3
                try clear hfz17_4
                try clear hfz17_5
                try clear hfz17_6
                try clear hfz17_7
                try clear hfz17_8
                try clear hfz20_0
                try clear hfz20_1
                try clear hfz20_2
                try clear hfz20_3
                try clear hfz20_4
                try clear hfz20_5
                try clear hfz20_6
                try clear hfz20_7
                try clear hfz20_8
                try clear hfz21_0
                try clear hfz21_1
                try clear hfz21_2
                try clear hfz21_3
                try clear hfz21_4
                try clear hfz21_5
                try clear hfz21_6
                try clear hfz21_7
                try clear hfz21_8
                try clear p2
                obtain ⟨kq, x35_17, rfl, HA, HJ17, BK150, HB⟩ := hcut
                cases kq with
                | zero => exact absurd HA.out (by simp [liveryref05_Text.j1])
                | succ kj17 =>
                  have H := HA.out
                  clear HA
                  simp only [liveryref05_Text.j1] at H
                  have HC22 := Aside0.mk H
                  clear H
                  go_upto_if 35 with (fail)
                  go_cut [6] (fun v6 wc => ∃ (kq : Nat) (x6_21 : ByteArray), v6 = .string x6_21 ∧ Aside0 (liveryref05_Text.j2 kq t152 x6_21 a0_0 a0_1 a0_2 a0_3 a0_4 a0_5 a0_6 a0_7 a0_8 = some (r1, r2)) ∧ Aside0 (kq ≤ kj17) ∧ Aside0 (wc.heap[gb150]? = some (.cells #[.int .i64 a0_0, .int .i64 a0_1, .string a0_2, .int .i64 a0_3, .string a0_4, .string a0_5, .string a0_6, .string a0_7, .string a0_8] 27 (0, 0))) ∧ Aside0 (Below w.heap.size w wc))
                  case first =>
                    have H := HC22.out
                    clear HC22
                    by_cases c23 : x35_17 = true
                    · subst c23
                      have H1 : ((liveryref04_Text.f a0_5 a0_6).bind fun t153 => (if x6_7.size + t153.size ≤ 9223372036854775807 then (liveryref05_Text.j2 kj17 t152 (x6_7 ++ t153) a0_0 a0_1 a0_2 a0_3 a0_4 a0_5 a0_6 a0_7 a0_8) else (none))) = some (r1, r2) := by rw [if_pos rfl] at H; exact H
                      clear H
                      have H := H1
                      clear H1
                      replace H := Option.bind_eq_some_iff.mp H
                      obtain ⟨t153, A240, H⟩ := H
                      replace H : (if x6_7.size + t153.size ≤ 9223372036854775807 then (liveryref05_Text.j2 kj17 t152 (x6_7 ++ t153) a0_0 a0_1 a0_2 a0_3 a0_4 a0_5 a0_6 a0_7 a0_8) else (none)) = some (r1, r2) := H
                      have A24 := Aside0.mk A240
                      clear A240
                      by_cases c25 : x6_7.size + t153.size ≤ 9223372036854775807
                      · rw [if_pos c25] at H
                        have c25b0 := eq_true c25
                        have c25b1 : decide (x6_7.size + t153.size ≤ 9223372036854775807) = true := decide_eq_true c25
                        try have c25b2 : (9223372036854775807 < x6_7.size + t153.size) = False := eq_false (Nat.not_lt.2 c25)
                        have H' := Aside0.mk H
                        clear H
                        obtain ⟨hcz26_0, hcz26_1, hcz26_2, hcz26_3, hcz26_4, hcz26_5, hcz26_6, hcz26_7, hcz26_8, hfz26_0, hfz26_1, hfz26_2, hfz26_3, hfz26_4, hfz26_5, hfz26_6, hfz26_7, hfz26_8⟩ := blk_all9 BK150.out
                        go_wp2_with (first | ((with_reducible refine gate_callee (f := 30) rfl ?_); refine goesL_ (some 39) rfl rfl Tryd.func30 (by kernel_rfl) rfl #[.agg #[.string a0_5, .string a0_6]] rfl (by (try simp only [List.map_toArray, List.map_cons, List.map_nil]); first | done | rfl | (simp only [List.length_drop, List.length_take]; rfl)) ?_; (with_reducible refine (liveryref04_Text.calls a0_5 a0_6 t153 _ A24.out).mono ?_); rintro e w27 ⟨rfl, hb⟩; refine ⟨_, rfl, ?_⟩; have n0_ := Aside0.mk (blk_below (g := gb150) (o := .cells #[.int .i64 a0_0, .int .i64 a0_1, .string a0_2, .int .i64 a0_3, .string a0_4, .string a0_5, .string a0_6, .string a0_7, .string a0_8] 27 (0, 0)) (by (with_reducible repeat (first | refine blk_drewN ?_ _ | refine blk_drew ?_ | refine blk_alloc ?_ _)); exact BK150.out) hb); have n1_ := Aside0.mk (below_step (by repeat (first | (with_reducible first | exact HB.out | apply below_alloc | apply pw_below_drewN | apply below_drew1 | refine below_set ?_ GE150.out) | exact HB.out)) hb); clear BK150; clear HB; have BK150 := n0_; have HB := n1_; clear n0_ n1_; (try clear hb); (try clear hb2); (try clear hk); (try clear hi)))
                        go_meet
                        case rel => exact ⟨_, (x6_7 ++ t153), (by first | rfl | (simp; done) | (simp [*]; done)), H', ⟨by have := HJ7.out; have := HJ17.out; first | omega | exact Nat.le_refl _⟩, ⟨by (with_reducible repeat (first | refine blk_drewN ?_ _ | refine blk_drew ?_ | refine blk_alloc ?_ _)); exact BK150.out⟩, ⟨by repeat (first | (with_reducible first | exact HB.out | apply below_alloc | apply pw_below_drewN | apply below_drew1 | refine below_set ?_ GE150.out) | exact HB.out)⟩⟩
                      · rw [if_neg c25] at H
                        exact absurd H (by simp)
                    · replace c23 := Bool.eq_false_iff.mpr c23
                      subst c23
                      have H1 : (liveryref05_Text.j2 kj17 t152 x6_7 a0_0 a0_1 a0_2 a0_3 a0_4 a0_5 a0_6 a0_7 a0_8) = some (r1, r2) := by rw [if_neg (show ¬ (false = true) by decide)] at H; exact H
                      clear H
                      have H := H1
                      clear H1
                      have H' := Aside0.mk H
                      clear H
                      go_wp2
                      go_meet
                      case rel => exact ⟨_, (x6_7), (by first | rfl | (simp; done) | (simp [*]; done)), H', ⟨by have := HJ7.out; have := HJ17.out; first | omega | exact Nat.le_refl _⟩, ⟨by (with_reducible repeat (first | refine blk_drewN ?_ _ | refine blk_drew ?_ | refine blk_alloc ?_ _)); exact BK150.out⟩, ⟨by repeat (first | (with_reducible first | exact HB.out | apply below_alloc | apply pw_below_drewN | apply below_drew1 | refine below_set ?_ GE150.out) | exact HB.out)⟩⟩
                  case rest =>
                    clear HC22
                    try clear c1
                    try clear c2
                    try clear p2
                    try clear c3
                    try clear c5
                    try clear c5b0
                    try clear c5b1
                    try clear c5b2
                    try clear c6
                    try clear c6b0
                    try clear c6b1
                    try clear c6b2
                    try clear c7
                    try clear c7b0
                    try clear c7b1
                    try clear c7b2
                    try clear c10
                    try clear c12
                    try clear c15
                    try clear c15b0
                    try clear c15b1
                    try clear c16
                    try clear c16b0
                    try clear c16b1
                    try clear c16b2
                    try clear c19
                    try clear c19b0
                    try clear c19b1
                    try clear c23
                    try clear c25
                    try clear c25b0
                    try clear c25b1
                    try clear c25b2
                    try clear hcz10_0
                    try clear hcz10_1
                    try clear hcz10_2
                    try clear hcz10_3
                    try clear hcz10_4
                    try clear hcz10_5
                    try clear hcz10_6
                    try clear hcz10_7
                    try clear hcz10_8
                    try clear hcz12_0
                    try clear hcz12_1
                    try clear hcz12_2
                    try clear hcz12_3
                    try clear hcz12_4
                    try clear hcz12_5
                    try clear hcz12_6
                    try clear hcz12_7
                    try clear hcz12_8
                    try clear hcz14_0
                    try clear hcz14_1
                    try clear hcz14_2
                    try clear hcz14_3
                    try clear hcz14_4
                    try clear hcz14_5
                    try clear hcz14_6
                    try clear hcz14_7
                    try clear hcz14_8
                    try clear hcz17_0
                    try clear hcz17_1
                    try clear hcz17_2
                    try clear hcz17_3
                    try clear hcz17_4
                    try clear hcz17_5
                    try clear hcz17_6
                    try clear hcz17_7
                    try clear hcz17_8
                    try clear hcz20_0
                    try clear hcz20_1
                    try clear hcz20_2
                    try clear hcz20_3
                    try clear hcz20_4
                    try clear hcz20_5
                    try clear hcz20_6
                    try clear hcz20_7
                    try clear hcz20_8
                    try clear hcz21_0
                    try clear hcz21_1
                    try clear hcz21_2
                    try clear hcz21_3
                    try clear hcz21_4
                    try clear hcz21_5
                    try clear hcz21_6
                    try clear hcz21_7
                    try clear hcz21_8
                    try clear hcz26_0
                    try clear hcz26_1
                    try clear hcz26_2
                    try clear hcz26_3
                    try clear hcz26_4
                    try clear hcz26_5
                    try clear hcz26_6
                    try clear hcz26_7
                    try clear hcz26_8
                    try clear hfz10_0
                    try clear hfz10_1
                    try clear hfz10_2
                    try clear hfz10_3
                    try clear hfz10_4
                    try clear hfz10_5
                    try clear hfz10_6
                    try clear hfz10_7
                    try clear hfz10_8
                    try clear hfz12_0
                    try clear hfz12_1
                    try clear hfz12_2
                    try clear hfz12_3
                    try clear hfz12_4
                    try clear hfz12_5
                    try clear hfz12_6
                    try clear hfz12_7
                    try clear hfz12_8
                    try clear hfz14_0
                    try clear hfz14_1
                    try clear hfz14_2
                    try clear hfz14_3
                    try clear hfz14_4
                    try clear hfz14_5
                    try clear hfz14_6
                    try clear hfz14_7
                    try clear hfz14_8
                    try clear hfz17_0
                    try clear hfz17_1
                    try clear hfz17_2
                    try clear hfz17_3
                    try clear hfz17_4
                    try clear hfz17_5
                    try clear hfz17_6
                    try clear hfz17_7
                    try clear hfz17_8
                    try clear hfz20_0
                    try clear hfz20_1
                    try clear hfz20_2
                    try clear hfz20_3
                    try clear hfz20_4
                    try clear hfz20_5
                    try clear hfz20_6
                    try clear hfz20_7
                    try clear hfz20_8
                    try clear hfz21_0
                    try clear hfz21_1
                    try clear hfz21_2
                    try clear hfz21_3
                    try clear hfz21_4
                    try clear hfz21_5
                    try clear hfz21_6
                    try clear hfz21_7
                    try clear hfz21_8
                    try clear hfz26_0
                    try clear hfz26_1
                    try clear hfz26_2
                    try clear hfz26_3
                    try clear hfz26_4
                    try clear hfz26_5
                    try clear hfz26_6
                    try clear hfz26_7
                    try clear hfz26_8
                    try clear p2
                    obtain ⟨kq, x6_21, rfl, HA, HJ21, BK150, HB⟩ := hcut
                    cases kq with
                    | zero => exact absurd HA.out (by simp [liveryref05_Text.j2])
                    | succ kj21 =>
                      have H := HA.out
                      clear HA
                      simp only [liveryref05_Text.j2] at H
                      by_cases c28 : a0_3 = 3
                      · rw [if_pos c28] at H
                        have c28b0 : (a0_3 == 3) = true := beq_iff_eq.mpr c28
                        have c28b1 : (a0_3 != 3) = false := bne_eq_false_iff_eq.mpr c28
                        clear c28
                        by_cases c29 : x6_21.size + t152.size ≤ 9223372036854775807
                        · rw [if_pos c29] at H
                          have c29b0 := eq_true c29
                          have c29b1 : decide (x6_21.size + t152.size ≤ 9223372036854775807) = true := decide_eq_true c29
                          try have c29b2 : (9223372036854775807 < x6_21.size + t152.size) = False := eq_false (Nat.not_lt.2 c29)
                          by_cases c30 : (x6_21 ++ t152).size + 1 ≤ 9223372036854775807
                          · rw [if_pos c30] at H
                            have c30b0 := eq_true c30
                            have c30b1 : decide ((x6_21 ++ t152).size + 1 ≤ 9223372036854775807) = true := decide_eq_true c30
                            try have c30b2 : (9223372036854775807 < (x6_21 ++ t152).size + 1) = False := eq_false (Nat.not_lt.2 c30)
                            try (have c30b3 := c30; simp only [ByteArray.size_append, Nat.add_zero] at c30b3; have c30b4 := eq_false (Nat.not_lt.2 c30b3))
                            by_cases c31 : ((x6_21 ++ t152) ++ (⟨#[46]⟩ : ByteArray)).size + a0_6.size ≤ 9223372036854775807
                            · rw [if_pos c31] at H
                              have c31b0 := eq_true c31
                              have c31b1 : decide (((x6_21 ++ t152) ++ (⟨#[46]⟩ : ByteArray)).size + a0_6.size ≤ 9223372036854775807) = true := decide_eq_true c31
                              try have c31b2 : (9223372036854775807 < ((x6_21 ++ t152) ++ (⟨#[46]⟩ : ByteArray)).size + a0_6.size) = False := eq_false (Nat.not_lt.2 c31)
                              try (have c31b3 := c31; simp only [ByteArray.size_append, show (⟨#[46]⟩ : ByteArray).size = 1 from rfl] at c31b3; have c31b4 := eq_false (Nat.not_lt.2 c31b3))
                              by_cases c32 : (((x6_21 ++ t152) ++ (⟨#[46]⟩ : ByteArray)) ++ a0_6).size + 1 ≤ 9223372036854775807
                              · rw [if_pos c32] at H
                                have c32b0 := eq_true c32
                                have c32b1 : decide ((((x6_21 ++ t152) ++ (⟨#[46]⟩ : ByteArray)) ++ a0_6).size + 1 ≤ 9223372036854775807) = true := decide_eq_true c32
                                try have c32b2 : (9223372036854775807 < (((x6_21 ++ t152) ++ (⟨#[46]⟩ : ByteArray)) ++ a0_6).size + 1) = False := eq_false (Nat.not_lt.2 c32)
                                try (have c32b3 := c32; simp only [ByteArray.size_append, show (⟨#[46]⟩ : ByteArray).size = 1 from rfl] at c32b3; have c32b4 := eq_false (Nat.not_lt.2 c32b3))
                                by_cases c33 : ((((x6_21 ++ t152) ++ (⟨#[46]⟩ : ByteArray)) ++ a0_6) ++ (⟨#[46]⟩ : ByteArray)).size + a0_8.size ≤ 9223372036854775807
                                · rw [if_pos c33] at H
                                  have c33b0 := eq_true c33
                                  have c33b1 : decide (((((x6_21 ++ t152) ++ (⟨#[46]⟩ : ByteArray)) ++ a0_6) ++ (⟨#[46]⟩ : ByteArray)).size + a0_8.size ≤ 9223372036854775807) = true := decide_eq_true c33
                                  try have c33b2 : (9223372036854775807 < ((((x6_21 ++ t152) ++ (⟨#[46]⟩ : ByteArray)) ++ a0_6) ++ (⟨#[46]⟩ : ByteArray)).size + a0_8.size) = False := eq_false (Nat.not_lt.2 c33)
                                  try (have c33b3 := c33; simp only [ByteArray.size_append, show (⟨#[46]⟩ : ByteArray).size = 1 from rfl] at c33b3; have c33b4 := eq_false (Nat.not_lt.2 c33b3))
                                  by_cases c34 : a0_3 = 4
                                  · rw [if_pos c34] at H
                                    have c34b0 : (a0_3 == 4) = true := beq_iff_eq.mpr c34
                                    have c34b1 : (a0_3 != 4) = false := bne_eq_false_iff_eq.mpr c34
                                    clear c34
                                    by_cases c35 : (((((x6_21 ++ t152) ++ (⟨#[46]⟩ : ByteArray)) ++ a0_6) ++ (⟨#[46]⟩ : ByteArray)) ++ a0_8).size + 3 ≤ 9223372036854775807
                                    · rw [if_pos c35] at H
                                      have c35b0 := eq_true c35
                                      have c35b1 : decide ((((((x6_21 ++ t152) ++ (⟨#[46]⟩ : ByteArray)) ++ a0_6) ++ (⟨#[46]⟩ : ByteArray)) ++ a0_8).size + 3 ≤ 9223372036854775807) = true := decide_eq_true c35
                                      try have c35b2 : (9223372036854775807 < (((((x6_21 ++ t152) ++ (⟨#[46]⟩ : ByteArray)) ++ a0_6) ++ (⟨#[46]⟩ : ByteArray)) ++ a0_8).size + 3) = False := eq_false (Nat.not_lt.2 c35)
                                      try (have c35b3 := c35; simp only [ByteArray.size_append, show (⟨#[46]⟩ : ByteArray).size = 1 from rfl] at c35b3; have c35b4 := eq_false (Nat.not_lt.2 c35b3))
                                      replace H := Option.bind_eq_some_iff.mp H
                                      obtain ⟨t154, A360, H⟩ := H
                                      replace H : (if ((((((x6_21 ++ t152) ++ (⟨#[46]⟩ : ByteArray)) ++ a0_6) ++ (⟨#[46]⟩ : ByteArray)) ++ a0_8) ++ (⟨#[32, 38, 32]⟩ : ByteArray)).size + t154.size ≤ 9223372036854775807 then (some (((((((x6_21 ++ t152) ++ (⟨#[46]⟩ : ByteArray)) ++ a0_6) ++ (⟨#[46]⟩ : ByteArray)) ++ a0_8) ++ (⟨#[32, 38, 32]⟩ : ByteArray)) ++ t154, 0)) else (none)) = some (r1, r2) := H
                                      have A36 := Aside0.mk A360
                                      clear A360
                                      by_cases c37 : ((((((x6_21 ++ t152) ++ (⟨#[46]⟩ : ByteArray)) ++ a0_6) ++ (⟨#[46]⟩ : ByteArray)) ++ a0_8) ++ (⟨#[32, 38, 32]⟩ : ByteArray)).size + t154.size ≤ 9223372036854775807
                                      · rw [if_pos c37] at H
                                        have c37b0 := eq_true c37
                                        have c37b1 : decide (((((((x6_21 ++ t152) ++ (⟨#[46]⟩ : ByteArray)) ++ a0_6) ++ (⟨#[46]⟩ : ByteArray)) ++ a0_8) ++ (⟨#[32, 38, 32]⟩ : ByteArray)).size + t154.size ≤ 9223372036854775807) = true := decide_eq_true c37
                                        try have c37b2 : (9223372036854775807 < ((((((x6_21 ++ t152) ++ (⟨#[46]⟩ : ByteArray)) ++ a0_6) ++ (⟨#[46]⟩ : ByteArray)) ++ a0_8) ++ (⟨#[32, 38, 32]⟩ : ByteArray)).size + t154.size) = False := eq_false (Nat.not_lt.2 c37)
                                        try (have c37b3 := c37; simp only [ByteArray.size_append, show (⟨#[32, 38, 32]⟩ : ByteArray).size = 3 from rfl, show (⟨#[46]⟩ : ByteArray).size = 1 from rfl] at c37b3; have c37b4 := eq_false (Nat.not_lt.2 c37b3))
                                        simp only [Option.some.injEq, Prod.mk.injEq] at H
                                        obtain ⟨rfl, rfl⟩ := H
                                        obtain ⟨hcz38_0, hcz38_1, hcz38_2, hcz38_3, hcz38_4, hcz38_5, hcz38_6, hcz38_7, hcz38_8, hfz38_0, hfz38_1, hfz38_2, hfz38_3, hfz38_4, hfz38_5, hfz38_6, hfz38_7, hfz38_8⟩ := blk_all9 BK150.out
                                        go_wp2_with (first | ((with_reducible refine gate_callee (f := 30) rfl ?_); refine goesL_ (some 64) rfl rfl Tryd.func30 (by kernel_rfl) rfl #[.agg #[.string a0_7, .string a0_8]] rfl (by (try simp only [List.map_toArray, List.map_cons, List.map_nil]); first | done | rfl | (simp only [List.length_drop, List.length_take]; rfl)) ?_; (with_reducible refine (liveryref04_Text.calls a0_7 a0_8 t154 _ A36.out).mono ?_); rintro e w39 ⟨rfl, hb⟩; refine ⟨_, rfl, ?_⟩; have n0_ := Aside0.mk (blk_below (g := gb150) (o := .cells #[.int .i64 a0_0, .int .i64 a0_1, .string a0_2, .int .i64 a0_3, .string a0_4, .string a0_5, .string a0_6, .string a0_7, .string a0_8] 27 (0, 0)) (by (with_reducible repeat (first | refine blk_drewN ?_ _ | refine blk_drew ?_ | refine blk_alloc ?_ _)); exact BK150.out) hb); have n1_ := Aside0.mk (below_step (by repeat (first | (with_reducible first | exact HB.out | apply below_alloc | apply pw_below_drewN | apply below_drew1 | refine below_set ?_ GE150.out) | exact HB.out)) hb); clear BK150; clear HB; have BK150 := n0_; have HB := n1_; clear n0_ n1_; (try clear hb); (try clear hb2); (try clear hk); (try clear hi)))
                                        go_ret2
                                        exact ⟨by first | rfl | (simp [errW_none, errW_some] <;> rfl) | (simp [*, errW_none, errW_some] <;> rfl), by repeat (first | (with_reducible first | exact HB.out | apply below_alloc | apply pw_below_drewN | apply below_drew1 | refine below_set ?_ GE150.out) | exact HB.out)⟩
                                      · rw [if_neg c37] at H
                                        exact absurd H (by simp)
                                    · rw [if_neg c35] at H
                                      exact absurd H (by simp)
                                  · rw [if_neg c34] at H
                                    have c34b0 : (a0_3 == 4) = false := beq_eq_false_iff_ne.mpr c34
                                    have c34b1 : (a0_3 != 4) = true := bne_iff_ne.mpr c34
                                    simp only [Option.some.injEq, Prod.mk.injEq] at H
                                    obtain ⟨rfl, rfl⟩ := H
                                    obtain ⟨hcz40_0, hcz40_1, hcz40_2, hcz40_3, hcz40_4, hcz40_5, hcz40_6, hcz40_7, hcz40_8, hfz40_0, hfz40_1, hfz40_2, hfz40_3, hfz40_4, hfz40_5, hfz40_6, hfz40_7, hfz40_8⟩ := blk_all9 BK150.out
                                    go_wp2
                                    go_ret2
                                    exact ⟨by first | rfl | (simp [errW_none, errW_some] <;> rfl) | (simp [*, errW_none, errW_some] <;> rfl), by repeat (first | (with_reducible first | exact HB.out | apply below_alloc | apply pw_below_drewN | apply below_drew1 | refine below_set ?_ GE150.out) | exact HB.out)⟩
                                · rw [if_neg c33] at H
                                  exact absurd H (by simp)
                              · rw [if_neg c32] at H
                                exact absurd H (by simp)
                            · rw [if_neg c31] at H
                              exact absurd H (by simp)
                          · rw [if_neg c30] at H
                            exact absurd H (by simp)
                        · rw [if_neg c29] at H
                          exact absurd H (by simp)
                      · rw [if_neg c28] at H
                        have c28b0 : (a0_3 == 3) = false := beq_eq_false_iff_ne.mpr c28
                        have c28b1 : (a0_3 != 3) = true := bne_iff_ne.mpr c28
                        by_cases c41 : a0_3 = 4
                        · rw [if_pos c41] at H
                          have c41b0 : (a0_3 == 4) = true := beq_iff_eq.mpr c41
                          have c41b1 : (a0_3 != 4) = false := bne_eq_false_iff_eq.mpr c41
                          clear c41
                          by_cases c42 : x6_21.size + 3 ≤ 9223372036854775807
                          · rw [if_pos c42] at H
                            have c42b0 := eq_true c42
                            have c42b1 : decide (x6_21.size + 3 ≤ 9223372036854775807) = true := decide_eq_true c42
                            try have c42b2 : (9223372036854775807 < x6_21.size + 3) = False := eq_false (Nat.not_lt.2 c42)
                            replace H := Option.bind_eq_some_iff.mp H
                            obtain ⟨t155, A430, H⟩ := H
                            replace H : (if (x6_21 ++ (⟨#[32, 38, 32]⟩ : ByteArray)).size + t155.size ≤ 9223372036854775807 then (some ((x6_21 ++ (⟨#[32, 38, 32]⟩ : ByteArray)) ++ t155, 0)) else (none)) = some (r1, r2) := H
                            have A43 := Aside0.mk A430
                            clear A430
                            by_cases c44 : (x6_21 ++ (⟨#[32, 38, 32]⟩ : ByteArray)).size + t155.size ≤ 9223372036854775807
                            · rw [if_pos c44] at H
                              have c44b0 := eq_true c44
                              have c44b1 : decide ((x6_21 ++ (⟨#[32, 38, 32]⟩ : ByteArray)).size + t155.size ≤ 9223372036854775807) = true := decide_eq_true c44
                              try have c44b2 : (9223372036854775807 < (x6_21 ++ (⟨#[32, 38, 32]⟩ : ByteArray)).size + t155.size) = False := eq_false (Nat.not_lt.2 c44)
                              try (have c44b3 := c44; simp only [ByteArray.size_append, show (⟨#[32, 38, 32]⟩ : ByteArray).size = 3 from rfl] at c44b3; have c44b4 := eq_false (Nat.not_lt.2 c44b3))
                              simp only [Option.some.injEq, Prod.mk.injEq] at H
                              obtain ⟨rfl, rfl⟩ := H
                              obtain ⟨hcz45_0, hcz45_1, hcz45_2, hcz45_3, hcz45_4, hcz45_5, hcz45_6, hcz45_7, hcz45_8, hfz45_0, hfz45_1, hfz45_2, hfz45_3, hfz45_4, hfz45_5, hfz45_6, hfz45_7, hfz45_8⟩ := blk_all9 BK150.out
                              go_wp2_with (first | ((with_reducible refine gate_callee (f := 30) rfl ?_); refine goesL_ (some 64) rfl rfl Tryd.func30 (by kernel_rfl) rfl #[.agg #[.string a0_7, .string a0_8]] rfl (by (try simp only [List.map_toArray, List.map_cons, List.map_nil]); first | done | rfl | (simp only [List.length_drop, List.length_take]; rfl)) ?_; (with_reducible refine (liveryref04_Text.calls a0_7 a0_8 t155 _ A43.out).mono ?_); rintro e w46 ⟨rfl, hb⟩; refine ⟨_, rfl, ?_⟩; have n0_ := Aside0.mk (blk_below (g := gb150) (o := .cells #[.int .i64 a0_0, .int .i64 a0_1, .string a0_2, .int .i64 a0_3, .string a0_4, .string a0_5, .string a0_6, .string a0_7, .string a0_8] 27 (0, 0)) (by (with_reducible repeat (first | refine blk_drewN ?_ _ | refine blk_drew ?_ | refine blk_alloc ?_ _)); exact BK150.out) hb); have n1_ := Aside0.mk (below_step (by repeat (first | (with_reducible first | exact HB.out | apply below_alloc | apply pw_below_drewN | apply below_drew1 | refine below_set ?_ GE150.out) | exact HB.out)) hb); clear BK150; clear HB; have BK150 := n0_; have HB := n1_; clear n0_ n1_; (try clear hb); (try clear hb2); (try clear hk); (try clear hi)))
                              go_ret2
                              exact ⟨by first | rfl | (simp [errW_none, errW_some] <;> rfl) | (simp [*, errW_none, errW_some] <;> rfl), by repeat (first | (with_reducible first | exact HB.out | apply below_alloc | apply pw_below_drewN | apply below_drew1 | refine below_set ?_ GE150.out) | exact HB.out)⟩
                            · rw [if_neg c44] at H
                              exact absurd H (by simp)
                          · rw [if_neg c42] at H
                            exact absurd H (by simp)
                        · rw [if_neg c41] at H
                          have c41b0 : (a0_3 == 4) = false := beq_eq_false_iff_ne.mpr c41
                          have c41b1 : (a0_3 != 4) = true := bne_iff_ne.mpr c41
                          simp only [Option.some.injEq, Prod.mk.injEq] at H
                          obtain ⟨rfl, rfl⟩ := H
                          obtain ⟨hcz47_0, hcz47_1, hcz47_2, hcz47_3, hcz47_4, hcz47_5, hcz47_6, hcz47_7, hcz47_8, hfz47_0, hfz47_1, hfz47_2, hfz47_3, hfz47_4, hfz47_5, hfz47_6, hfz47_7, hfz47_8⟩ := blk_all9 BK150.out
                          go_wp2
                          go_ret2
                          exact ⟨by first | rfl | (simp [errW_none, errW_some] <;> rfl) | (simp [*, errW_none, errW_some] <;> rfl), by repeat (first | (with_reducible first | exact HB.out | apply below_alloc | apply pw_below_drewN | apply below_drew1 | refine below_set ?_ GE150.out) | exact HB.out)⟩
        · rw [if_neg c7] at H
          exact absurd H (by simp)
      · rw [if_neg c6] at H
        exact absurd H (by simp)
    · rw [if_neg c5] at H
      exact absurd H (by simp)
  · replace c3 := Bool.eq_false_iff.mpr c3
    subst c3
    have H1 : (some ((⟨#[]⟩ : ByteArray), 11)) = some (r1, r2) := by rw [if_neg (show ¬ (false = true) by decide)] at H; exact H
    clear H
    have H := H1
    clear H1
    simp only [Option.some.injEq, Prod.mk.injEq] at H
    obtain ⟨rfl, rfl⟩ := H
    go_enter Tryd.func10, Tryd.ntmps10
    go_wp2_with (first | ((with_reducible refine gate_dst (N := 1) rfl ?_); refine box_event ?hg (N := 1) ?hd (cs := #[.int .i64 a0_0, .int .i64 a0_1, .string a0_2, .int .i64 a0_3, .string a0_4, .string a0_5, .string a0_6, .string a0_7, .string a0_8]) (t := 27) ?hr ?_; (case hd => rfl); (case hg => rfl); (case hr => first | (go_simp; done) | (go_simp; rfl)); intro gb150 hg w48 hbox hb; have n0_ := Aside0.mk (below_step (by repeat (first | (with_reducible first | exact HB.out | apply below_alloc | apply pw_below_drewN | apply below_drew1) | exact HB.out)) hb); have n1_ := Aside0.mk (hbox); have n2_ := Aside0.mk ((by rw [hg]; exact (below_size (by repeat (first | (with_reducible first | exact HB.out | apply below_alloc | apply pw_below_drewN | apply below_drew1) | exact HB.out))) : w.heap.size ≤ gb150)); have n3_ := n2_; clear HB; have HB := n0_; have BK150 := n1_; have GW150 := n2_; have GE150 := n3_; clear n0_ n1_ n2_ n3_; clear hb hbox hg; obtain ⟨hcz49_0, hcz49_1, hcz49_2, hcz49_3, hcz49_4, hcz49_5, hcz49_6, hcz49_7, hcz49_8, hfz49_0, hfz49_1, hfz49_2, hfz49_3, hfz49_4, hfz49_5, hfz49_6, hfz49_7, hfz49_8⟩ := blk_all9 BK150.out) | ((with_reducible refine gate_callee (f := 12) rfl ?_); refine goesL_ (some 8) rfl rfl Tryd.func12 (by kernel_rfl) rfl #[.agg #[.int .i64 a0_0, .int .i64 a0_1, .string a0_2, .int .i64 a0_3, .string a0_4, .string a0_5, .string a0_6, .string a0_7, .string a0_8]] rfl (by (try simp only [List.map_toArray, List.map_cons, List.map_nil]); first | done | rfl | (simp only [List.length_drop, List.length_take]; rfl)) ?_; (with_reducible refine (liveryref05_May.calls k a0_0 a0_1 a0_2 a0_3 a0_4 a0_5 a0_6 a0_7 a0_8 false _ A2.out).mono ?_); rintro e w50 ⟨rfl, hb⟩; refine ⟨_, rfl, ?_⟩; have n0_ := Aside0.mk (blk_below (g := gb150) (o := .cells #[.int .i64 a0_0, .int .i64 a0_1, .string a0_2, .int .i64 a0_3, .string a0_4, .string a0_5, .string a0_6, .string a0_7, .string a0_8] 27 (0, 0)) (by (with_reducible repeat (first | refine blk_drewN ?_ _ | refine blk_drew ?_ | refine blk_alloc ?_ _)); exact BK150.out) hb); have n1_ := Aside0.mk (below_step (by repeat (first | (with_reducible first | exact HB.out | apply below_alloc | apply pw_below_drewN | apply below_drew1 | refine below_set ?_ GE150.out) | exact HB.out)) hb); clear BK150; clear HB; have BK150 := n0_; have HB := n1_; clear n0_ n1_; (try clear hb); (try clear hb2); (try clear hk); (try clear hi)))
    go_ret2
    exact ⟨by first | rfl | (simp [errW_none, errW_some] <;> rfl) | (simp [*, errW_none, errW_some] <;> rfl), by repeat (first | (with_reducible first | exact HB.out | apply below_alloc | apply pw_below_drewN | apply below_drew1 | refine below_set ?_ GE150.out) | exact HB.out)⟩

end Go.Proofs.YtpnmmkoiemeodaaDoor.P
