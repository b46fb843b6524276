/- Written by a program of this session's, for this claim: the functions that the law reaches, their contracts, the law's row. Not trusted: it is checked as any text. -/
import Derived.Test.YtmlopbhlmgfknaaDoorP0
import Derived.Test.YtmlopbhlmgfknaaDoorP14
import Derived.Test.YtmlopbhlmgfknaaDoorP15
import Derived.Test.YtmlopbhlmgfknaaDoorP21
import Derived.Test.YtmlopbhlmgfknaaDoorHArgs
import Derived.Test.YtmlopbhlmgfknaaDoorHSorted
namespace Go.Proofs.YtmlopbhlmgfknaaDoor.P
open Go.RowKit Go.Proofs.YtmlopbhlmgfknaaDoorW.PrintWords Go.Proofs.YtmlopbhlmgfknaaDoorW.PrintLast Go.Proofs.YtmlopbhlmgfknaaDoorW.PrintMore
attribute [local go_sem] max2_int min2_int max_two min_two max_three min_three max_four min_four   -- for this text's walks alone
set_option linter.unusedVariables false
set_option linter.unusedSimpArgs false

/-! ### liverylaw05_CredSorts: function 3 -/
mutual
def liverylaw05_CredSorts.j0 : Nat → List (S30) → Option (Bool)
  | 0, _ => none
  | k + 1, x0 => if ([] : List (S30)).length + x0.length < 1172812402961 then ((cred_Sorted.f x0).bind fun t239 => ((liveryref05_Sorted.f k x0).bind fun t242 => ((liveryref05_Same.f k t239 t242).bind fun t245 => (liverylaw05_CredSorts.l0 k x0 (([] : List (S30)) ++ x0) t239 t245 0)))) else (none)
def liverylaw05_CredSorts.l0 : Nat → List (S30) → List (S30) → List (S30) → Bool → Int → Option (Bool)
  | 0, _, _, _, _, _ => none
  | k + 1, x0, x3, x4, x5, x6 => if x6 < (x4.length : Int) then (if 0 ≤ x6 then (liverylaw05_CredSorts.l0 k x0 x3 (x4.set (x6 : Int).toNat (⟨(⟨0, 0⟩ : S26), (⟨#[]⟩ : ByteArray), 0, (⟨#[]⟩ : ByteArray), (⟨(⟨#[]⟩ : ByteArray), (⟨#[]⟩ : ByteArray)⟩ : S28), (⟨(⟨#[]⟩ : ByteArray), (⟨#[]⟩ : ByteArray)⟩ : S28)⟩ : S30)) x5 (wrap64 (x6 + 1))) else (none)) else ((liveryref05_Same.f k x3 x0).bind fun t247 => (if x5 = true then (if t247 = true then ((liverylaw05_lives.f k).bind fun t248 => (some t248)) else (some false)) else (some false)))
end
def liverylaw05_CredSorts.f (k : Nat) (l0 : List (S30)) : Option (Bool) := if (l0.length : Int) > 40 then (if 40 ≤ (l0.length : Int) then (liverylaw05_CredSorts.j0 k (l0.take 40)) else (none)) else (liverylaw05_CredSorts.j0 k l0)
set_option maxHeartbeats 8000000 in
set_option maxRecDepth 100000 in
theorem liverylaw05_CredSorts.calls (k : Nat) (P0_ : Nat → Prop) (A0 : Option Addr) (c0 : Nat) (l0 : List (S30)) (r : Bool) (w : World) (hs0 : Kd.V k30 30 w w.heap.size (fun k_ => P0_ k_) (.slice A0 l0.length c0) l0) (h : liverylaw05_CredSorts.f k l0 = some r) :
    Calls Tryd.prog 3 #[.slice A0 l0.length c0] w fun e w' => e = .returned (.bool r) ∧ Below w.heap.size w w' := by
  have hu30 := Tryd.underlying30
  have HO0 := Aside0.mk (show Kd.V k30 30 w w.heap.size (fun k_ => (P0_ k_ ∨ w.heap.size ≤ k_)) (.slice A0 l0.length c0) l0 from Kd.V_mono hs0 (fun k_ hk => .inl hk))
  have HB := Aside0.mk (Below.refl w.heap.size w)
  have H : (if (l0.length : Int) > 40 then (if 40 ≤ (l0.length : Int) then (liverylaw05_CredSorts.j0 k (l0.take 40)) else (none)) else (liverylaw05_CredSorts.j0 k l0)) = some r := h
  clear h
  have HC2 := Aside0.mk H
  clear H
  go_enter Tryd.func3, Tryd.ntmps3
  go_upto_if 10 with (fail)
  go_cut [0] (fun v0 wc => ∃ (kq : Nat) (x0_1 : List (S30)), Aside0 (liverylaw05_CredSorts.j0 kq x0_1 = some r) ∧ Aside0 (kq ≤ k) ∧ Aside0 (Kd.V k30 30 wc w.heap.size (fun k_ => (P0_ k_ ∨ w.heap.size ≤ k_)) v0 x0_1) ∧ Aside0 (Below w.heap.size w wc))
  case first =>
    have H := HC2.out
    clear HC2
    by_cases c3 : (l0.length : Int) > 40
    · rw [if_pos c3] at H
      have c3b0 : decide (40 < (l0.length : Int)) = true := decide_eq_true c3
      have c3b1 : decide (40 < l0.length) = true := decide_eq_true (by omega)
      clear c3
      (first | rw [c3b0] | (simp only [i64_w, i32_w]; rw [c3b0]) | skip)
      by_cases c4 : 40 ≤ (l0.length : Int)
      · rw [if_pos c4] at H
        have c4b0 := eq_true c4
        have c4b1 : decide (40 ≤ (l0.length : Int)) = true := decide_eq_true c4
        clear c4
        obtain ⟨y231, hy231⟩ : ∃ y_ : List (S30), y_ = (l0.take 40) := ⟨_, rfl⟩
        replace H : (liverylaw05_CredSorts.j0 k y231) = some r := by first | (rw [hy231]; with_reducible exact H) | (have H2_ := (Option.bind_some _ _).symm.trans H; rw [hy231]; with_reducible exact H2_) | (have H2_ := (Option.bind_some _ _).symm.trans H; with_reducible exact H2_) | with_reducible exact H | (rw [hy231]; exact H) | exact H
        have Ny231 := Aside0.mk hy231
        clear hy231
        have H' := Aside0.mk H
        clear H
        have q5 : (40 : Int) ≤ ((l0.length : Int) : Int) := of_decide_eq_true (by first | (with_reducible assumption) | assumption)
        obtain ⟨i05, hi05, _, hsz5, _⟩ := info_parts info30
        have hroom5 : l0.length ≤ c0 := (Kd.V_reads' HO0.out).2.1
        have hC5 : Kd.F k30 _ _ A0 l0.length l0 := (Kd.V_at (base := w.heap.size) HO0.out).2.2
        have hcut5 := cut_to (P := Tryd.prog) 22 30 .i64 Tryd.underlying22 hi05 A0 l0.length c0 40 (by omega) q5 hroom5
        have hr5 := Kd.F_take (m := 40) hC5 (by omega)
        have hy5 : y231.length = (40 : Int).toNat := (by rw [Ny231.out, List.length_take]; omega)
        rw [← Ny231.out] at hr5
        rw [← hy5] at hcut5
        have HO235 := Aside0.mk (show Kd.V k30 30 _ w.heap.size _ (.slice A0 y231.length c0) y231 from Kd.V_mk (by omega) hr5)
        have HC235 := Aside0.mk (show y231.length ≤ c0 from by omega)
        clear hr5 hC5 hroom5 hi05 hsz5
        have KY5 := Aside0.mk hy5
        clear hy5
        replace q5 := eq_true q5
        go_wp2
        go_meet
        case rel => exact ⟨_, (y231), H', ⟨by first | omega | exact Nat.le_refl _⟩, ⟨by (with_reducible repeat (first | apply Kd.V_alloc | apply Kd.V_drewN | apply Kd.V_drew)); exact HO235.out⟩, ⟨by repeat (first | (with_reducible first | exact HB.out | apply below_alloc | apply pw_below_drewN | apply below_drew1) | exact HB.out)⟩⟩
      · rw [if_neg c4] at H
        exact absurd H (by simp)
    · rw [if_neg c3] at H
      have c3b0 : decide (40 < (l0.length : Int)) = false := decide_eq_false c3
      have c3b1 : decide (40 < l0.length) = false := decide_eq_false (by omega)
      clear c3
      (first | rw [c3b0] | (simp only [i64_w, i32_w]; rw [c3b0]) | skip)
      have H' := Aside0.mk H
      clear H
      go_wp2
      go_meet
      case rel => exact ⟨_, (l0), H', ⟨by first | omega | exact Nat.le_refl _⟩, ⟨by (with_reducible repeat (first | apply Kd.V_alloc | apply Kd.V_drewN | apply Kd.V_drew)); exact HO0.out⟩, ⟨by repeat (first | (with_reducible first | exact HB.out | apply below_alloc | apply pw_below_drewN | apply below_drew1) | exact HB.out)⟩⟩
  case rest =>
    clear HC2
    try clear p2
    try clear c3
    try clear c3b0
    try clear c3b1
    try clear c4
    try clear c4b0
    try clear c4b1
    try clear q5
    try clear q5
    obtain ⟨kq, x0_1, HA, HJ1, HO_0, HB⟩ := hcut
    cases kq with
    | zero => exact absurd HA.out (by simp [liverylaw05_CredSorts.j0])
    | succ kj1 =>
      have H := HA.out
      clear HA
      simp only [liverylaw05_CredSorts.j0] at H
      by_cases c6 : ([] : List (S30)).length + x0_1.length < 1172812402961
      · rw [if_pos c6] at H
        have LMc6 := Aside0.mk c6
        clear c6
        obtain ⟨y236, hy236⟩ : ∃ y_ : List (S30), y_ = (([] : List (S30)) ++ x0_1) := ⟨_, rfl⟩
        replace H : ((cred_Sorted.f x0_1).bind fun t239 => ((liveryref05_Sorted.f kj1 x0_1).bind fun t242 => ((liveryref05_Same.f kj1 t239 t242).bind fun t245 => (liverylaw05_CredSorts.l0 kj1 x0_1 y236 t239 t245 0)))) = some r := by first | (rw [hy236]; with_reducible exact H) | (have H2_ := (Option.bind_some _ _).symm.trans H; rw [hy236]; with_reducible exact H2_) | (have H2_ := (Option.bind_some _ _).symm.trans H; with_reducible exact H2_) | with_reducible exact H | (rw [hy236]; exact H) | exact H
        have Ny236 := Aside0.mk hy236
        clear hy236
        replace H := Option.bind_eq_some_iff.mp H
        obtain ⟨t239, A70, H⟩ := H
        replace H : ((liveryref05_Sorted.f kj1 x0_1).bind fun t242 => ((liveryref05_Same.f kj1 t239 t242).bind fun t245 => (liverylaw05_CredSorts.l0 kj1 x0_1 y236 t239 t245 0))) = some r := H
        have A7 := Aside0.mk A70
        clear A70
        replace H := Option.bind_eq_some_iff.mp H
        obtain ⟨t242, A80, H⟩ := H
        replace H : ((liveryref05_Same.f kj1 t239 t242).bind fun t245 => (liverylaw05_CredSorts.l0 kj1 x0_1 y236 t239 t245 0)) = some r := H
        have A8 := Aside0.mk A80
        clear A80
        replace H := Option.bind_eq_some_iff.mp H
        obtain ⟨t245, A90, H⟩ := H
        replace H : (liverylaw05_CredSorts.l0 kj1 x0_1 y236 t239 t245 0) = some r := H
        have A9 := Aside0.mk A90
        clear A90
        have H' := Aside0.mk H
        clear H
        obtain ⟨Ao11, co11, eo11⟩ := Kd.V_slice HO_0.out
        subst eo11
        go_wp2_with (first | ((with_reducible refine gate_builtin (b := .append) (xs := #[.tmp 13, .tmp 14]) rfl ?_); at_builtin; refine Kd.R_append_rows k30 (w0 := w) w.heap.size rfl (.tmp 13) (.tmp 14) 22 30 (.agg #[(.int .i64 0), (.int .i64 0), (.string ⟨#[]⟩), (.int .i64 0), (.string ⟨#[]⟩), (.string ⟨#[]⟩), (.string ⟨#[]⟩), (.string ⟨#[]⟩), (.string ⟨#[]⟩)]) 120 rfl Tryd.underlying22 info30 rfl (by decide) (by omega) (.slice none 0 0) ([] : List (S30)) x0_1 _ _ _ (fun k_ => (w.heap.size ≤ k_)) (fun _ => False) rfl rfl ?aO ?aR (fun _ _ h => h) (fun _ h => h.elim) ?aF ?aB ?aS ?aL ?_; (case aR => repeat (first | exact (Kd.V_reads' HO_0.out).2.2 | (with_reducible refine Kd.C_alloc ?_ _) | (with_reducible refine Kd.C_drewN ?_ _) | (with_reducible refine Kd.C_drew ?_))); (case aB => exact (by repeat (first | (with_reducible first | exact HB.out | apply below_alloc | apply pw_below_drewN | apply below_drew1) | exact HB.out))); (case aF => exact (fun k_ hk => (Nat.le_trans (below_size (by repeat (first | (with_reducible first | exact HB.out | apply below_alloc | apply pw_below_drewN | apply below_drew1) | exact HB.out))) hk))); (case aO => exact ((Kd.R_nil _ _ _ _ (fun k_ => (w.heap.size ≤ k_))))); (case aS => exact (below_size (by repeat (first | (with_reducible first | exact HB.out | apply below_alloc | apply pw_below_drewN | apply below_drew1) | exact HB.out)))); (case aL => have := LMc6.out; omega); intro v237 w10 ho hb hg hat; rw [← Ny236.out] at ho; have n0_ := aM (Kd.V_afterv (Kd.V_apart_nil (by (with_reducible repeat (first | apply Kd.V_alloc | apply Kd.V_drewN | apply Kd.V_drew)); exact HO_0.out)) hg hat); have n1_ := aM (hb); have n2_ := aM (ho); clear HO_0 HB; have HO_0 := n0_; have HB := n1_; have HO238 := n2_; clear n0_ n1_ n2_; clear ho hb hg hat) | ((with_reducible refine gate_callee (f := 5) rfl ?_); refine goesL_ (some 17) rfl rfl Tryd.func5 (by kernel_rfl) rfl #[.slice Ao11 x0_1.length co11] rfl (by (try simp only [mA, mB, mC]); first | done | rfl | (simp only [List.length_drop, List.length_take]; rfl)) ?_; (with_reducible refine (cred_Sorted.calls _ _ x0_1 t239 _ ?side1 ?side2 A7.out).mono ?_); (case side1 => repeat (first | exact (Kd.V_reads' HO_0.out).2.2 | (with_reducible refine Kd.C_alloc ?_ _) | (with_reducible refine Kd.C_drewN ?_ _) | (with_reducible refine Kd.C_drew ?_))); (case side2 => exact (Kd.V_reads' HO_0.out).2.1); rintro e w12 ⟨v240, rfl, ho0, hb⟩; refine ⟨_, rfl, ?_⟩; have n0_ := aM (Kd.V_elder' (by (with_reducible repeat (first | apply Kd.V_alloc | apply Kd.V_drewN | apply Kd.V_drew)); exact HO_0.out) (Kd.R_base ho0) hb); have n1_ := aM (Kd.R_elder' (by (with_reducible repeat (first | apply Kd.R_alloc | apply Kd.R_drewN | apply Kd.R_drew)); exact HO238.out) (Kd.R_base ho0) hb); have n2_ := aM (Kd.R_lower (Kd.R_new' (Kd.R_newM (M := fun k_ => (w.heap.size ≤ k_)) ho0 (below_size (by repeat (first | (with_reducible first | exact HB.out | apply below_alloc | apply pw_below_drewN | apply below_drew1) | exact HB.out))) (fun k_ h_ => h_)) (Kd.R_lt (by (with_reducible repeat (first | apply Kd.R_alloc | apply Kd.R_drewN | apply Kd.R_drew)); exact HO238.out))) (below_size (by repeat (first | (with_reducible first | exact HB.out | apply below_alloc | apply pw_below_drewN | apply below_drew1) | exact HB.out)))); have n3_ := aM (below_step (by repeat (first | (with_reducible first | exact HB.out | apply below_alloc | apply pw_below_drewN | apply below_drew1) | exact HB.out)) hb); clear HO_0 HO238 HB; have HO_0 := n0_; have HO238 := n1_; have HO241 := n2_; have HB := n3_; clear n0_ n1_ n2_ n3_; (try clear hb); (try clear hb2); (try clear hk); (try clear hi); (try clear ho0)) | ((with_reducible refine gate_callee (f := 7) rfl ?_); refine goesL_ (some 20) rfl rfl Tryd.func7 (by kernel_rfl) rfl #[.slice Ao11 x0_1.length co11] rfl (by (try simp only [mA, mB, mC]); first | done | rfl | (simp only [List.length_drop, List.length_take]; rfl)) ?_; (with_reducible refine (liveryref05_Sorted.calls kj1 (fun k_ => (((P0_ k_ ∨ w.heap.size ≤ k_) ∧ some k_ ≠ (v237 : Value).ownBlock) ∧ some k_ ≠ (v240 : Value).ownBlock)) _ _ x0_1 t242 _ ?side1 A8.out).mono ?_); (case side1 => exact HO_0.out); rintro e w13 ⟨v243, rfl, ho0, hb⟩; refine ⟨_, rfl, ?_⟩; have n0_ := aM (Kd.V_elder' (by (with_reducible repeat (first | apply Kd.V_alloc | apply Kd.V_drewN | apply Kd.V_drew)); exact HO_0.out) (Kd.R_base ho0) hb); have n1_ := aM (Kd.R_elder' (by (with_reducible repeat (first | apply Kd.R_alloc | apply Kd.R_drewN | apply Kd.R_drew)); exact HO238.out) (Kd.R_base ho0) hb); have n2_ := aM (Kd.R_elder' (by (with_reducible repeat (first | apply Kd.R_alloc | apply Kd.R_drewN | apply Kd.R_drew)); exact HO241.out) (Kd.R_base ho0) hb); have n3_ := aM (Kd.R_lower (Kd.R_new' (Kd.R_new' (Kd.R_newM (M := fun k_ => (w.heap.size ≤ k_)) (Kd.R_mono (ok' := fun k_ => True) ho0 (fun _ hk_ => trivial)) (below_size (by repeat (first | (with_reducible first | exact HB.out | apply below_alloc | apply pw_below_drewN | apply below_drew1) | exact HB.out))) (fun k_ h_ => h_)) (Kd.R_lt (by (with_reducible repeat (first | apply Kd.R_alloc | apply Kd.R_drewN | apply Kd.R_drew)); exact HO238.out))) (Kd.R_lt (by (with_reducible repeat (first | apply Kd.R_alloc | apply Kd.R_drewN | apply Kd.R_drew)); exact HO241.out))) (below_size (by repeat (first | (with_reducible first | exact HB.out | apply below_alloc | apply pw_below_drewN | apply below_drew1) | exact HB.out)))); have n4_ := aM (below_step (by repeat (first | (with_reducible first | exact HB.out | apply below_alloc | apply pw_below_drewN | apply below_drew1) | exact HB.out)) hb); clear HO_0 HO238 HO241 HB; have HO_0 := n0_; have HO238 := n1_; have HO241 := n2_; have HO244 := n3_; have HB := n4_; clear n0_ n1_ n2_ n3_ n4_; (try clear hb); (try clear hb2); (try clear hk); (try clear hi); (try clear ho0); obtain ⟨Ao14, co14, eo14⟩ := Kd.R_slice HO241.out; subst eo14; obtain ⟨Ao15, co15, eo15⟩ := Kd.R_slice HO244.out; subst eo15) | ((with_reducible refine gate_callee (f := 6) rfl ?_); refine goesL_ (some 21) rfl rfl Tryd.func6 (by kernel_rfl) rfl #[.slice Ao14 t239.length co14, .slice Ao15 t242.length co15] rfl (by (try simp only [mA, mB, mC]); first | done | rfl | (simp only [List.length_drop, List.length_take]; rfl)) ?_; (with_reducible refine (liveryref05_Same.calls kj1 _ _ t239 _ _ t242 t245 _ ?side1 ?side2 ?side3 ?side4 A9.out).mono ?_); (case side1 => repeat (first | exact (Kd.R_reads' HO241.out).2.2 | (with_reducible refine Kd.C_alloc ?_ _) | (with_reducible refine Kd.C_drewN ?_ _) | (with_reducible refine Kd.C_drew ?_))); (case side2 => exact (Kd.R_reads' HO241.out).2.1); (case side3 => repeat (first | exact (Kd.R_reads' HO244.out).2.2 | (with_reducible refine Kd.C_alloc ?_ _) | (with_reducible refine Kd.C_drewN ?_ _) | (with_reducible refine Kd.C_drew ?_))); (case side4 => exact (Kd.R_reads' HO244.out).2.1); rintro e w' ⟨rfl, ⟨nd, rfl⟩⟩; refine ⟨_, rfl, ?_⟩))
        go_loopg [6] kj1 (fun kq v6 w' => ∃ (x4_2 : List (S30)) (x6_2 : Int), v6 = .int .i64 x6_2 ∧ Aside0 (liverylaw05_CredSorts.l0 kq x0_1 y236 x4_2 t245 x6_2 = some r) ∧ Aside0 (kq ≤ kj1) ∧ Aside0 (Kd.V k30 30 w' w.heap.size (fun k_ => (P0_ k_ ∨ w.heap.size ≤ k_) ∧ some k_ ≠ (v237 : Value).ownBlock ∧ some k_ ≠ ((.slice Ao14 t239.length co14) : Value).ownBlock) (.slice Ao11 x0_1.length co11) x0_1) ∧ Aside0 (Kd.R k30 30 w' w.heap.size (fun k_ => (w.heap.size ≤ k_) ∧ some k_ ≠ ((.slice Ao14 t239.length co14) : Value).ownBlock) v237 y236) ∧ Aside0 (Kd.R k30 30 w' w.heap.size (fun k_ => (w.heap.size ≤ k_) ∧ some k_ ≠ (v237 : Value).ownBlock) (.slice Ao14 t239.length co14) x4_2) ∧ Aside0 (Below w.heap.size w w'))
        case atStart => exact ⟨(t239), (0), (by first | rfl | (simp; done) | (simp [*]; done)), H', ⟨Nat.le_refl _⟩, ⟨by (with_reducible repeat (first | apply Kd.V_alloc | apply Kd.V_drewN | apply Kd.V_drew)); exact Kd.V_mono HO_0.out (fun _ hk => ⟨hk.1.1.1, ⟨hk.1.1.2, hk.1.2⟩⟩)⟩, ⟨by (with_reducible repeat (first | apply Kd.R_alloc | apply Kd.R_drewN | apply Kd.R_drew)); exact Kd.R_mono HO238.out (fun _ hk => ⟨hk.1.1, hk.1.2⟩)⟩, ⟨by (with_reducible repeat (first | apply Kd.R_alloc | apply Kd.R_drewN | apply Kd.R_drew)); exact Kd.R_mono HO241.out (fun _ hk => ⟨hk.1.1.1, hk.1.2⟩)⟩, ⟨by repeat (first | (with_reducible first | exact HB.out | apply below_alloc | apply pw_below_drewN | apply below_drew1) | exact HB.out)⟩⟩
        case round =>
          clear H'
          try clear p2
          try clear c3
          try clear c3b0
          try clear c3b1
          try clear c4
          try clear c4b0
          try clear c4b1
          try clear c5
          try clear q5
          try clear c6
          try clear c7
          try clear p2
          try clear q5
          obtain ⟨x4_2, x6_2, rfl, HA, HK2, HO_0, HO_3, HO_4, HB⟩ := hrel
          have hl4_2 := (Kd.R_reads' HO_4.out).1
          rw [hl4_2] at HO_4
          (try simp only [hl4_2])
          (try simp only [hl4_2] at HO_0)
          (try simp only [hl4_2] at HO_3)
          cases gk with
          | zero => exact absurd HA.out (by simp [liverylaw05_CredSorts.l0])
          | succ k2 =>
            have H := HA.out
            clear HA
            simp only [liverylaw05_CredSorts.l0] at H
            by_cases c16 : x6_2 < (x4_2.length : Int)
            · rw [if_pos c16] at H
              have c16b0 : decide (x6_2 < (x4_2.length : Int)) = true := decide_eq_true c16
              clear c16
              by_cases c17 : 0 ≤ x6_2
              · rw [if_pos c17] at H
                have c17b0 : decide (0 ≤ x6_2) = true := decide_eq_true c17
                clear c17
                obtain ⟨y246, hy246⟩ : ∃ y_ : List (S30), y_ = (x4_2.set (x6_2 : Int).toNat (⟨(⟨0, 0⟩ : S26), (⟨#[]⟩ : ByteArray), 0, (⟨#[]⟩ : ByteArray), (⟨(⟨#[]⟩ : ByteArray), (⟨#[]⟩ : ByteArray)⟩ : S28), (⟨(⟨#[]⟩ : ByteArray), (⟨#[]⟩ : ByteArray)⟩ : S28)⟩ : S30)) := ⟨_, rfl⟩
                replace H : (liverylaw05_CredSorts.l0 k2 x0_1 y236 y246 t245 (wrap64 (x6_2 + 1))) = some r := by first | (rw [hy246]; with_reducible exact H) | (have H2_ := (Option.bind_some _ _).symm.trans H; rw [hy246]; with_reducible exact H2_) | (have H2_ := (Option.bind_some _ _).symm.trans H; with_reducible exact H2_) | with_reducible exact H | (rw [hy246]; exact H) | exact H
                have Ny246 := Aside0.mk hy246
                clear hy246
                have H' := Aside0.mk H
                clear H
                have p18 : 0 ≤ (x6_2 : Int) := of_decide_eq_true (by first | (with_reducible assumption) | assumption)
                have q18 : (x6_2 : Int) < ((x4_2.length : Int) : Int) := of_decide_eq_true (by first | (with_reducible assumption) | assumption)
                obtain ⟨go18, co18, eo18, gb18, gl18, cl18, HG18⟩ := Kd.R_form HO_4.out (by omega)
                (first | cases eo18 | (injection eo18 with ea_ en_ ec_; (first | subst ea_ | (injection ea_ with ea_; subst ea_)); subst ec_; clear en_))
                have GB18 := Aside0.mk gb18
                have GG18 := Aside0.mk HG18
                clear gb18 gl18 HG18
                obtain ⟨ce18, hcl18, hM18, hcc18, hfr18⟩ := Kd.R_elem HO_4.out z30 (x6_2 : Int) p18 q18
                obtain rfl := k30_openM hM18
                have hx18_0 : wr.cell? ⟨go18, (x6_2 : Int).toNat * 9, none⟩ = some (.int .i64 ((rd_T30 x4_2 x6_2).f0.f0)) := hcc18 0 _ rfl
                have hx18_1 : wr.cell? ⟨go18, (x6_2 : Int).toNat * 9 + 1, none⟩ = some (.int .i64 ((rd_T30 x4_2 x6_2).f0.f1)) := hcc18 1 _ rfl
                have hx18_2 : wr.cell? ⟨go18, (x6_2 : Int).toNat * 9 + 2, none⟩ = some (.string ((rd_T30 x4_2 x6_2).f1)) := hcc18 2 _ rfl
                have hx18_3 : wr.cell? ⟨go18, (x6_2 : Int).toNat * 9 + 3, none⟩ = some (.int .i64 ((rd_T30 x4_2 x6_2).f2)) := hcc18 3 _ rfl
                have hx18_4 : wr.cell? ⟨go18, (x6_2 : Int).toNat * 9 + 4, none⟩ = some (.string ((rd_T30 x4_2 x6_2).f3)) := hcc18 4 _ rfl
                have hx18_5 : wr.cell? ⟨go18, (x6_2 : Int).toNat * 9 + 5, none⟩ = some (.string ((rd_T30 x4_2 x6_2).f4.f0)) := hcc18 5 _ rfl
                have hx18_6 : wr.cell? ⟨go18, (x6_2 : Int).toNat * 9 + 6, none⟩ = some (.string ((rd_T30 x4_2 x6_2).f4.f1)) := hcc18 6 _ rfl
                have hx18_7 : wr.cell? ⟨go18, (x6_2 : Int).toNat * 9 + 7, none⟩ = some (.string ((rd_T30 x4_2 x6_2).f5.f0)) := hcc18 7 _ rfl
                have hx18_8 : wr.cell? ⟨go18, (x6_2 : Int).toNat * 9 + 8, none⟩ = some (.string ((rd_T30 x4_2 x6_2).f5.f1)) := hcc18 8 _ rfl
                have hf18_0 : wr.frozen? ⟨go18, (x6_2 : Int).toNat * 9, none⟩ = false := hfr18 0
                have hf18_1 : wr.frozen? ⟨go18, (x6_2 : Int).toNat * 9 + 1, none⟩ = false := hfr18 1
                have hf18_2 : wr.frozen? ⟨go18, (x6_2 : Int).toNat * 9 + 2, none⟩ = false := hfr18 2
                have hf18_3 : wr.frozen? ⟨go18, (x6_2 : Int).toNat * 9 + 3, none⟩ = false := hfr18 3
                have hf18_4 : wr.frozen? ⟨go18, (x6_2 : Int).toNat * 9 + 4, none⟩ = false := hfr18 4
                have hf18_5 : wr.frozen? ⟨go18, (x6_2 : Int).toNat * 9 + 5, none⟩ = false := hfr18 5
                have hf18_6 : wr.frozen? ⟨go18, (x6_2 : Int).toNat * 9 + 6, none⟩ = false := hfr18 6
                have hf18_7 : wr.frozen? ⟨go18, (x6_2 : Int).toNat * 9 + 7, none⟩ = false := hfr18 7
                have hf18_8 : wr.frozen? ⟨go18, (x6_2 : Int).toNat * 9 + 8, none⟩ = false := hfr18 8
                clear hcl18 hcc18 hfr18 hM18
                replace p18 := eq_true p18
                replace q18 := eq_true q18
                have HX19 := Aside0.mk (show Kd.R k30 30 wr w.heap.size (fun k_ => (w.heap.size ≤ k_) ∧ some k_ ≠ (v237 : Value).ownBlock) (.slice (some ⟨go18, 0, none⟩) x4_2.length co14) x4_2 from (by (with_reducible repeat (first | apply Kd.R_alloc | apply Kd.R_drewN | apply Kd.R_drew)); exact HO_4.out))
                obtain ⟨ce19, hcl19, hM19, hcc19, hfr19⟩ := Kd.R_elem HX19.out z30 (x6_2 : Int) (of_decide_eq_true (by first | (with_reducible assumption) | assumption)) (by have h_ : (x6_2 : Int) < ((x4_2.length : Int) : Int) := of_decide_eq_true (by first | (with_reducible assumption) | assumption); first | exact h_ | (have e_ := (Kd.R_reads' HO_4.out).1; omega) | simpa using h_)
                obtain rfl := k30_openM hM19
                have HP19 := Kd.R_seg HX19.out (x6_2 : Int) (of_decide_eq_true (by first | (with_reducible assumption) | assumption)) (by have h_ : (x6_2 : Int) < ((x4_2.length : Int) : Int) := of_decide_eq_true (by first | (with_reducible assumption) | assumption); first | exact h_ | (have e_ := (Kd.R_reads' HO_4.out).1; omega) | simpa using h_) (seg := [.int .i64 0, .int .i64 0, .string ⟨#[]⟩, .int .i64 0, .string ⟨#[]⟩, .string ⟨#[]⟩, .string ⟨#[]⟩, .string ⟨#[]⟩, .string ⟨#[]⟩]) (j := 0) hcl19 hcc19 (show 9 ≤ 9 from by decide) (x' := (⟨(⟨0, 0⟩ : S26), (⟨#[]⟩ : ByteArray), 0, (⟨#[]⟩ : ByteArray), (⟨(⟨#[]⟩ : ByteArray), (⟨#[]⟩ : ByteArray)⟩ : S28), (⟨(⟨#[]⟩ : ByteArray), (⟨#[]⟩ : ByteArray)⟩ : S28)⟩ : S30)) (k30_mkM _ _ _ (⟨(⟨0, 0⟩ : S26), (⟨#[]⟩ : ByteArray), 0, (⟨#[]⟩ : ByteArray), (⟨(⟨#[]⟩ : ByteArray), (⟨#[]⟩ : ByteArray)⟩ : S28), (⟨(⟨#[]⟩ : ByteArray), (⟨#[]⟩ : ByteArray)⟩ : S28)⟩ : S30) ) (fun _ hk => hk)
                have hx19_0 := hcc19 0 _ rfl
                (try simp only [show (k30).sz = 9 from rfl, Nat.mul_one, Nat.add_zero] at hx19_0)
                have hf19_0 := hfr19 0
                (try simp only [show (k30).sz = 9 from rfl, Nat.mul_one, Nat.add_zero] at hf19_0)
                have hx19_1 := hcc19 1 _ rfl
                (try simp only [show (k30).sz = 9 from rfl, Nat.mul_one, Nat.add_zero] at hx19_1)
                have hf19_1 := hfr19 1
                (try simp only [show (k30).sz = 9 from rfl, Nat.mul_one, Nat.add_zero] at hf19_1)
                have hx19_2 := hcc19 2 _ rfl
                (try simp only [show (k30).sz = 9 from rfl, Nat.mul_one, Nat.add_zero] at hx19_2)
                have hf19_2 := hfr19 2
                (try simp only [show (k30).sz = 9 from rfl, Nat.mul_one, Nat.add_zero] at hf19_2)
                have hx19_3 := hcc19 3 _ rfl
                (try simp only [show (k30).sz = 9 from rfl, Nat.mul_one, Nat.add_zero] at hx19_3)
                have hf19_3 := hfr19 3
                (try simp only [show (k30).sz = 9 from rfl, Nat.mul_one, Nat.add_zero] at hf19_3)
                have hx19_4 := hcc19 4 _ rfl
                (try simp only [show (k30).sz = 9 from rfl, Nat.mul_one, Nat.add_zero] at hx19_4)
                have hf19_4 := hfr19 4
                (try simp only [show (k30).sz = 9 from rfl, Nat.mul_one, Nat.add_zero] at hf19_4)
                have hx19_5 := hcc19 5 _ rfl
                (try simp only [show (k30).sz = 9 from rfl, Nat.mul_one, Nat.add_zero] at hx19_5)
                have hf19_5 := hfr19 5
                (try simp only [show (k30).sz = 9 from rfl, Nat.mul_one, Nat.add_zero] at hf19_5)
                have hx19_6 := hcc19 6 _ rfl
                (try simp only [show (k30).sz = 9 from rfl, Nat.mul_one, Nat.add_zero] at hx19_6)
                have hf19_6 := hfr19 6
                (try simp only [show (k30).sz = 9 from rfl, Nat.mul_one, Nat.add_zero] at hf19_6)
                have hx19_7 := hcc19 7 _ rfl
                (try simp only [show (k30).sz = 9 from rfl, Nat.mul_one, Nat.add_zero] at hx19_7)
                have hf19_7 := hfr19 7
                (try simp only [show (k30).sz = 9 from rfl, Nat.mul_one, Nat.add_zero] at hf19_7)
                have hx19_8 := hcc19 8 _ rfl
                (try simp only [show (k30).sz = 9 from rfl, Nat.mul_one, Nat.add_zero] at hx19_8)
                have hf19_8 := hfr19 8
                (try simp only [show (k30).sz = 9 from rfl, Nat.mul_one, Nat.add_zero] at hf19_8)
                clear hcl19 hcc19 hfr19 hM19
                go_wp2_with (first | ((with_reducible refine gate_store (t := 30) (p := 31) rfl ?_); refine store_event (t := 30) (p := 31) (v := ?vo_w20) (w1 := (((((((((wr.setCell ⟨go18, (x6_2 : Int).toNat * 9, none⟩ (.int .i64 0)).setCell ⟨go18, (x6_2 : Int).toNat * 9 + 1, none⟩ (.int .i64 0)).setCell ⟨go18, (x6_2 : Int).toNat * 9 + 2, none⟩ (.string ⟨#[]⟩)).setCell ⟨go18, (x6_2 : Int).toNat * 9 + 3, none⟩ (.int .i64 0)).setCell ⟨go18, (x6_2 : Int).toNat * 9 + 4, none⟩ (.string ⟨#[]⟩)).setCell ⟨go18, (x6_2 : Int).toNat * 9 + 5, none⟩ (.string ⟨#[]⟩)).setCell ⟨go18, (x6_2 : Int).toNat * 9 + 6, none⟩ (.string ⟨#[]⟩)).setCell ⟨go18, (x6_2 : Int).toNat * 9 + 7, none⟩ (.string ⟨#[]⟩)).setCell ⟨go18, (x6_2 : Int).toNat * 9 + 8, none⟩ (.string ⟨#[]⟩))) ?hg ?ho ?hn ?hr ?_; (case ho => rfl); (case hg => rfl); (case hn => rfl); (case hr => first | (go_simp; done) | (go_simp; rfl)); intro w20 hw; have hg : wr.grownBy w20 (some go18) := (by rw [hw]; exact HP19.2); have hp_ : Kd.R k30 30 w20 w.heap.size (fun k_ => (w.heap.size ≤ k_) ∧ some k_ ≠ (v237 : Value).ownBlock) (.slice (some ⟨go18, 0, none⟩) x4_2.length co14) y246 := (by rw [hw, Ny246.out]; exact HP19.1); clear HP19; have n0_ := aM (Kd.V_afterv (v := (.slice (some ⟨go18, 0, none⟩) x4_2.length co14)) (v1 := (.slice (some ⟨go18, 0, none⟩) x4_2.length co14)) (ok := (fun k_ => (P0_ k_ ∨ w.heap.size ≤ k_) ∧ some k_ ≠ (v237 : Value).ownBlock)) (by (with_reducible repeat (first | apply Kd.V_alloc | apply Kd.V_drewN | apply Kd.V_drew)); exact Kd.V_mono HO_0.out (fun _ hk => ⟨⟨hk.1, hk.2.1⟩, hk.2.2⟩)) hg (.inl rfl)); have n1_ := aM (Kd.R_after (v := (.slice (some ⟨go18, 0, none⟩) x4_2.length co14)) (v1 := (.slice (some ⟨go18, 0, none⟩) x4_2.length co14)) (ok := (fun k_ => (w.heap.size ≤ k_))) (by (with_reducible repeat (first | apply Kd.R_alloc | apply Kd.R_drewN | apply Kd.R_drew)); exact HO_3.out) hg (.inl rfl)); have n2_ := aM (hp_); have n3_ := aM ((by rw [hw]; exact below_set (below_set (below_set (below_set (below_set (below_set (below_set (below_set (below_set (HB.out) GB18.out) GB18.out) GB18.out) GB18.out) GB18.out) GB18.out) GB18.out) GB18.out) GB18.out : Below w.heap.size w w20)); clear HO_0 HO_3 HO_4 HB; have HO_0 := n0_; have HO_3 := n1_; have HO_4 := n2_; have HB := n3_; clear n0_ n1_ n2_ n3_; clear hg hw hp_))
                (try simp only [← hl4_2])
                go_roundg k2
                case measure => have := HJ1.out; have := HK2.out; omega
                case rel => exact ⟨(y246), (wrap64 (x6_2 + 1)), (by first | rfl | (simp; done) | (simp [*]; done)), H', ⟨by have := HJ1.out; have := HK2.out; omega⟩, ⟨by (try simp only [hl4_2]); (with_reducible repeat (first | apply Kd.V_alloc | apply Kd.V_drewN | apply Kd.V_drew)); exact Kd.V_mono HO_0.out (fun _ hk => ⟨hk.1.1, ⟨hk.1.2, hk.2⟩⟩)⟩, ⟨by (try simp only [hl4_2]); (with_reducible repeat (first | apply Kd.R_alloc | apply Kd.R_drewN | apply Kd.R_drew)); exact HO_3.out⟩, ⟨by (try simp only [hl4_2]); (with_reducible repeat (first | apply Kd.R_alloc | apply Kd.R_drewN | apply Kd.R_drew)); exact HO_4.out⟩, ⟨by repeat (first | (with_reducible first | exact HB.out | apply below_alloc | apply pw_below_drewN | apply below_drew1) | exact HB.out)⟩⟩
              · rw [if_neg c17] at H
                exact absurd H (by simp)
            · rw [if_neg c16] at H
              have c16b0 : decide (x6_2 < (x4_2.length : Int)) = false := decide_eq_false c16
              clear c16
              replace H := Option.bind_eq_some_iff.mp H
              obtain ⟨t247, A210, H⟩ := H
              replace H : (if t245 = true then (if t247 = true then ((liverylaw05_lives.f k2).bind fun t248 => (some t248)) else (some false)) else (some false)) = some r := H
              have A21 := Aside0.mk A210
              clear A210
              by_cases c22 : t245 = true
              · subst c22
                have H1 : (if t247 = true then ((liverylaw05_lives.f k2).bind fun t248 => (some t248)) else (some false)) = some r := by rw [if_pos rfl] at H; exact H
                clear H
                have H := H1
                clear H1
                by_cases c23 : t247 = true
                · subst c23
                  have H1 : ((liverylaw05_lives.f k2).bind fun t248 => (some t248)) = some r := by rw [if_pos rfl] at H; exact H
                  clear H
                  have H := H1
                  clear H1
                  replace H := Option.bind_eq_some_iff.mp H
                  obtain ⟨t248, A240, H⟩ := H
                  replace H : (some t248) = some r := H
                  have A24 := Aside0.mk A240
                  clear A240
                  obtain rfl := Option.some.inj H
                  obtain ⟨Ao25, co25, eo25⟩ := Kd.R_slice HO_3.out
                  subst eo25
                  go_wp2_with (first | ((with_reducible refine gate_callee (f := 6) rfl ?_); refine goesL_ (some 34) rfl rfl Tryd.func6 (by kernel_rfl) rfl #[.slice Ao25 y236.length co25, .slice Ao11 x0_1.length co11] rfl (by (try simp only [mA, mB, mC]); first | done | rfl | (simp only [List.length_drop, List.length_take]; rfl)) ?_; (with_reducible refine (liveryref05_Same.calls k2 _ _ y236 _ _ x0_1 true _ ?side1 ?side2 ?side3 ?side4 A21.out).mono ?_); (case side1 => repeat (first | exact (Kd.R_reads' HO_3.out).2.2 | (with_reducible refine Kd.C_alloc ?_ _) | (with_reducible refine Kd.C_drewN ?_ _) | (with_reducible refine Kd.C_drew ?_))); (case side2 => exact (Kd.R_reads' HO_3.out).2.1); (case side3 => repeat (first | exact (Kd.V_reads' HO_0.out).2.2 | (with_reducible refine Kd.C_alloc ?_ _) | (with_reducible refine Kd.C_drewN ?_ _) | (with_reducible refine Kd.C_drew ?_))); (case side4 => exact (Kd.V_reads' HO_0.out).2.1); rintro e w' ⟨rfl, ⟨nd, rfl⟩⟩; refine ⟨_, rfl, ?_⟩) | (go_at_call 8; (with_reducible refine (liverylaw05_lives.calls k2  t248 _ A24.out).mono ?_); rintro e w26 ⟨rfl, hb⟩; have n0_ := aM (Kd.V_below (by (with_reducible repeat (first | apply Kd.V_alloc | apply Kd.V_drewN | apply Kd.V_drew)); exact HO_0.out) hb); have n1_ := aM (Kd.R_below (by (with_reducible repeat (first | apply Kd.R_alloc | apply Kd.R_drewN | apply Kd.R_drew)); exact HO_3.out) hb); have n2_ := aM (Kd.R_below (by (with_reducible repeat (first | apply Kd.R_alloc | apply Kd.R_drewN | apply Kd.R_drew)); exact HO_4.out) hb); have n3_ := aM (below_step (by repeat (first | (with_reducible first | exact HB.out | apply below_alloc | apply pw_below_drewN | apply below_drew1) | exact HB.out)) hb); clear HO_0 HO_3 HO_4 HB; have HO_0 := n0_; have HO_3 := n1_; have HO_4 := n2_; have HB := n3_; clear n0_ n1_ n2_ n3_; (try clear hb); (try clear hb2); (try clear hk); (try clear hi)))
                  go_ret
                  exact ⟨by first | rfl | (simp [errW_none, errW_some] <;> rfl) | (simp [*, errW_none, errW_some] <;> rfl), by repeat (first | (with_reducible first | exact HB.out | apply below_alloc | apply pw_below_drewN | apply below_drew1) | exact HB.out)⟩
                · replace c23 := Bool.eq_false_iff.mpr c23
                  subst c23
                  have H1 : (some false) = some r := by rw [if_neg (show ¬ (false = true) by decide)] at H; exact H
                  clear H
                  have H := H1
                  clear H1
                  obtain rfl := Option.some.inj H
                  obtain ⟨Ao27, co27, eo27⟩ := Kd.R_slice HO_3.out
                  subst eo27
                  go_wp2_with (first | ((with_reducible refine gate_callee (f := 6) rfl ?_); refine goesL_ (some 34) rfl rfl Tryd.func6 (by kernel_rfl) rfl #[.slice Ao27 y236.length co27, .slice Ao11 x0_1.length co11] rfl (by (try simp only [mA, mB, mC]); first | done | rfl | (simp only [List.length_drop, List.length_take]; rfl)) ?_; (with_reducible refine (liveryref05_Same.calls k2 _ _ y236 _ _ x0_1 false _ ?side1 ?side2 ?side3 ?side4 A21.out).mono ?_); (case side1 => repeat (first | exact (Kd.R_reads' HO_3.out).2.2 | (with_reducible refine Kd.C_alloc ?_ _) | (with_reducible refine Kd.C_drewN ?_ _) | (with_reducible refine Kd.C_drew ?_))); (case side2 => exact (Kd.R_reads' HO_3.out).2.1); (case side3 => repeat (first | exact (Kd.V_reads' HO_0.out).2.2 | (with_reducible refine Kd.C_alloc ?_ _) | (with_reducible refine Kd.C_drewN ?_ _) | (with_reducible refine Kd.C_drew ?_))); (case side4 => exact (Kd.V_reads' HO_0.out).2.1); rintro e w' ⟨rfl, ⟨nd, rfl⟩⟩; refine ⟨_, rfl, ?_⟩))
                  go_ret
                  exact ⟨by first | rfl | (simp [errW_none, errW_some] <;> rfl) | (simp [*, errW_none, errW_some] <;> rfl), by repeat (first | (with_reducible first | exact HB.out | apply below_alloc | apply pw_below_drewN | apply below_drew1) | exact HB.out)⟩
              · replace c22 := Bool.eq_false_iff.mpr c22
                subst c22
                have H1 : (some false) = some r := by rw [if_neg (show ¬ (false = true) by decide)] at H; exact H
                clear H
                have H := H1
                clear H1
                obtain rfl := Option.some.inj H
                obtain ⟨Ao28, co28, eo28⟩ := Kd.R_slice HO_3.out
                subst eo28
                go_wp2_with (first | ((with_reducible refine gate_callee (f := 6) rfl ?_); refine goesL_ (some 34) rfl rfl Tryd.func6 (by kernel_rfl) rfl #[.slice Ao28 y236.length co28, .slice Ao11 x0_1.length co11] rfl (by (try simp only [mA, mB, mC]); first | done | rfl | (simp only [List.length_drop, List.length_take]; rfl)) ?_; (with_reducible refine (liveryref05_Same.calls k2 _ _ y236 _ _ x0_1 t247 _ ?side1 ?side2 ?side3 ?side4 A21.out).mono ?_); (case side1 => repeat (first | exact (Kd.R_reads' HO_3.out).2.2 | (with_reducible refine Kd.C_alloc ?_ _) | (with_reducible refine Kd.C_drewN ?_ _) | (with_reducible refine Kd.C_drew ?_))); (case side2 => exact (Kd.R_reads' HO_3.out).2.1); (case side3 => repeat (first | exact (Kd.V_reads' HO_0.out).2.2 | (with_reducible refine Kd.C_alloc ?_ _) | (with_reducible refine Kd.C_drewN ?_ _) | (with_reducible refine Kd.C_drew ?_))); (case side4 => exact (Kd.V_reads' HO_0.out).2.1); rintro e w' ⟨rfl, ⟨nd, rfl⟩⟩; refine ⟨_, rfl, ?_⟩))
                go_ret
                exact ⟨by first | rfl | (simp [errW_none, errW_some] <;> rfl) | (simp [*, errW_none, errW_some] <;> rfl), by repeat (first | (with_reducible first | exact HB.out | apply below_alloc | apply pw_below_drewN | apply below_drew1) | exact HB.out)⟩
      · rw [if_neg c6] at H
        exact absurd H (by simp)

/-- THE ONE PURE STATEMENT of liverylaw05_CredSorts. -/
def liverylaw05_CredSorts.Pure : Prop := ∀ (l0 : List (S30)), (l0.length ≤ maxLen ∧ l0.length * 120 ≤ 140737488351232 ∧ ∀ y0 ∈ l0, q30 y0) → ∃ k, liverylaw05_CredSorts.f k l0 = some true
theorem liverylaw05_CredSorts.walk (P : liverylaw05_CredSorts.Pure) (A0 : Option Addr) (c0 : Nat) (l0 : List (S30)) (w : World) (w0 : (l0.length ≤ maxLen ∧ l0.length * 120 ≤ 140737488351232 ∧ ∀ y0 ∈ l0, q30 y0)) (hr0 : Kd.C k30 w A0 l0.length l0) (hc0 : l0.length ≤ c0) :
    Calls Tryd.prog 3 #[.slice A0 l0.length c0] w fun e w' => e = .returned (.bool true) ∧ Below w.heap.size w w' := by
  obtain ⟨k, h⟩ := P l0 w0
  have hs0 := Kd.V_mk (e := 30) (base := w.heap.size) hc0 (show Kd.F k30 w (fun _ => True) A0 l0.length l0 from fun W_ hW_ => Kd.Heap.C k30_heap (fun k_ hk_ => hW_ k_ trivial hk_) hr0)
  refine (liverylaw05_CredSorts.calls k (fun _ => True) _ _ l0 true w hs0 h).mono ?_
  rintro e w' ⟨rfl, hd⟩
  exact ⟨rfl, hd⟩

end Go.Proofs.YtmlopbhlmgfknaaDoor.P
