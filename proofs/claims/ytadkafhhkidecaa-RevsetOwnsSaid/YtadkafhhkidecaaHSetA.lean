/- Contracts, typed by hand and by a program: the program's set: Add. -/
import Derived.Test.YtadkafhhkidecaaHSetP
import Derived.Test.YtadkafhhkidecaaWLast
set_option linter.unusedVariables false
set_option linter.unusedSimpArgs false
namespace Go.Proofs.Ytadkafhhkidecaa.P
open Go.RowKit Go.Proofs.YtadkafhhkidecaaW.PrintWords Go.Proofs.YtadkafhhkidecaaW.PrintLast Go.Proofs.YtadkafhhkidecaaW.PrintMore
set_option maxHeartbeats 1000000 in
theorem revset_Set_Add.arg (g : Nat) (d s : Int) (W : World) (hd : ¬ (1 ≤ d ∧ d ≤ 16 ∧ 1 ≤ s ∧ s ≤ 4000)) :
    Calls Try.prog 21 #[.pointer (some ⟨g, 0, none⟩), .agg #[.int .i64 d, .int .i64 s]] W fun e W' => e = .returned (.int .i64 1) ∧ Below W.heap.size W W' := by
  obtain ⟨b, hb⟩ : ∃ b, decide (1 ≤ d ∧ d ≤ 16) = b := ⟨_, rfl⟩
  have HI := Aside0.mk (show revset_is.f d = some b by rw [is_eq, hb])
  cases b with
  | false =>
    clear hd hb
    go_enter Try.func21, Try.ntmps21
    go_wp2_with fail
    refine (revset_is.calls d false _ HI.out).mono ?_
    rintro e w' ⟨rfl, ⟨n, rfl⟩⟩
    go_wp2_with fail
    go_ret
    exact ⟨rfl, pw_below_drewN (below_alloc (Below.refl _ _) _) _⟩
  | true =>
    have h1 := of_decide_eq_true hb
    clear hb
    by_cases h2 : s < 1
    · have h2b : decide (s < 1) = true := decide_eq_true h2
      clear hd h1
      go_enter Try.func21, Try.ntmps21
      go_wp2_with fail
      refine (revset_is.calls d true _ HI.out).mono ?_
      rintro e w' ⟨rfl, ⟨n, rfl⟩⟩
      go_wp2_with fail
      go_ret
      exact ⟨rfl, pw_below_drewN (below_alloc (Below.refl _ _) _) _⟩
    · have h2b : decide (s < 1) = false := decide_eq_false h2
      have h3b : decide (4000 < s) = true := decide_eq_true (by omega)
      clear hd h1 h2
      go_enter Try.func21, Try.ntmps21
      go_wp2_with fail
      refine (revset_is.calls d true _ HI.out).mono ?_
      rintro e w' ⟨rfl, ⟨n, rfl⟩⟩
      go_wp2_with fail
      go_ret
      exact ⟨rfl, pw_below_drewN (below_alloc (Below.refl _ _) _) _⟩
/-- The post of Add. -/
def AddPost (g : Nat) (L : List (List Int)) (d s : Int) (ok : Nat → Prop) (W : World) (e : Ending) (W' : World) : Prop :=
  e = .returned (.int .i64 (addN L d s)) ∧ Keeps W W' ok ∧ (PSet g (addL L d s)).P (fun k => ok k ∨ W.heap.size ≤ k) W'
theorem addPost_same {g : Nat} {L : List (List Int)} {d s : Int} {ok : Nat → Prop} {W W' : World} {n : Int} (hn : addN L d s = n) (h0 : n ≠ 0) (hP : (PSet g L).P ok W) (hB : Below W.heap.size W W') : AddPost g L d s ok W (.returned (.int .i64 n)) W' := by
  refine ⟨by rw [hn], Keeps.of_below hB _, ?_⟩
  rw [addL, if_neg (by rw [hn]; exact h0)]
  exact (PSet g L).mono (fun _ hk => .inl hk) ((PSet g L).on hP hB)
set_option maxHeartbeats 4000000 in
set_option maxRecDepth 100000 in
theorem revset_Set_Add.yes (g : Nat) (L : List (List Int)) (hL : Good L) (m : Nat) (s : Int) (W : World) (ok : Nat → Prop) (hP : (PSet g L).P ok W) (h1 : 1 ≤ m) (h2 : m ≤ 16) (h3 : 1 ≤ s) (h4 : s ≤ 4000) :
    Calls Try.prog 21 #[.pointer (some ⟨g, 0, none⟩), .agg #[.int .i64 (m : Int), .int .i64 s]] W (AddPost g L m s ok W) := by
  have HI := Aside0.mk (show revset_is.f m = some true by rw [is_eq, decide_eq_true (by omega)])
  have HPP := Aside0.mk hP
  have HGL := Aside0.mk hL
  have HM := Aside0.mk (And.intro h1 h2)
  have HN := Aside0.mk (And.intro h3 h4)
  have h3b : decide (s < 1) = false := decide_eq_false (by omega)
  have h4b : decide (4000 < s) = false := decide_eq_false (by omega)
  clear hP hL h1 h2 h3 h4
  go_enter Try.func21, Try.ntmps21
  go_wp2_with fail
  refine (revset_is.calls m true _ HI.out).mono ?_
  rintro e w' ⟨rfl, ⟨n, rfl⟩⟩
  go_wp2_with fail
  obtain ⟨w1, e1⟩ : ∃ w1, w1 = (W.alloc (.cells #[.int .i64 (m : Int), .int .i64 s] 29)).drewN n := ⟨_, rfl⟩
  rw [← e1]
  have HB1 := Aside0.mk (show Below W.heap.size W w1 by rw [e1]; exact pw_below_drewN (below_alloc (Below.refl _ _) _) _)
  have HX := Aside0.mk (show w1.heap[W.heap.size]? = some (.cells #[.int .i64 (m : Int), .int .i64 s] 29 (0, 0)) by rw [e1]; exact heap_alloc_new W _)
  clear e1
  refine (revset_Set_Has.all g L HGL.out m s w1 ok ((PSet g L).on HPP.out HB1.out)).mono ?_
  rintro e w2 ⟨rfl, hB2⟩
  have HB2 := Aside0.mk (below_step HB1.out hB2)
  have HX2 := Aside0.mk ((hB2.block _ (blk_lt HX.out)).trans HX.out)
  clear hB2 HB1 HX
  by_cases hh : s ∈ rowS L m
  · have hhas : hasS L m s = true := decide_eq_true ⟨by have := HM.out; omega, by have := HM.out; omega, hh⟩
    rw [hhas]
    have HAD := Aside0.mk (show addN L m s = 14 by rw [addN, if_neg (by have := HM.out; have := HN.out; omega), if_pos hh])
    clear hh hhas
    go_wp2_with fail
    go_ret
    exact addPost_same HAD.out (by decide) HPP.out HB2.out
  have hhas : hasS L m s = false := decide_eq_false (fun hh2 => hh hh2.2.2)
  rw [hhas]
  have HH := Aside0.mk hh
  clear hh hhas
  go_wp2_with fail
  have HP2 := Aside0.mk ((PSet g L).on ((PSet g L).bound HPP.out) HB2.out)
  obtain ⟨A, c, hc, hcap, hC⟩ := rows_C HP2.out (pset_at HGL.out HM.out.1 HM.out.2)
  obtain ⟨l, hl⟩ : ∃ l, rowS L (m : Int) = l := ⟨_, rfl⟩
  rw [hl] at hc hcap hC
  have HL_ := Aside0.mk hl
  have hx0 : w2.cell? ⟨W.heap.size, 0, none⟩ = some (.int .i64 (m : Int)) := by rw [blk_cell HX2.out]; rfl
  clear hl hcap hC
  have hm1 := HM.out.1
  have hm2 := HM.out.2
  have hm17 : (m : Int) < 17 := by omega
  by_cases h32 : 32 ≤ l.length
  · have h32b : decide ((32 : Int) ≤ (l.length : Int)) = true := decide_eq_true (by omega)
    have h32c : decide (32 ≤ l.length) = true := decide_eq_true h32
    have HAD := Aside0.mk (show addN L m s = 12 by rw [addN, if_neg (by have := HM.out; have := HN.out; omega), if_neg HH.out, HL_.out, if_pos h32])
    clear h32
    go_quiet (fail)
    go_wp2_with fail
    go_ret
    exact addPost_same HAD.out (by decide) HPP.out (pw_below_drewN HB2.out _)
  have h32b : decide ((32 : Int) ≤ (l.length : Int)) = false := decide_eq_false (by omega)
  have h32c : decide (32 ≤ l.length) = false := decide_eq_false h32
  have HLN := Aside0.mk (show l.length < 32 by omega)
  have HAD := Aside0.mk (show addN L m s = 0 by rw [addN, if_neg (by have := HM.out; have := HN.out; omega), if_neg HH.out, HL_.out, if_neg h32])
  clear h32
  go_quiet (fail)
  go_wp2_with fail
  clear hc hx0
  obtain ⟨w3, e3⟩ : ∃ w3, w3 = (w2.drewN nq).drew := ⟨_, rfl⟩
  have HB3 := Aside0.mk (show Below W.heap.size W w3 by rw [e3]; exact below_drew (pw_below_drewN HB2.out _))
  have HP3 := Aside0.mk ((PSet g L).on ((PSet g L).bound HPP.out) HB3.out)
  have HX3 := Aside0.mk (show w3.heap[W.heap.size]? = some (.cells #[.int .i64 (m : Int), .int .i64 s] 29 (0, 0)) by rw [e3]; exact HX2.out)
  obtain ⟨gb, eg⟩ : ∃ gb, gb = W.heap.size := ⟨_, rfl⟩
  rw [← eg] at HX3 ⊢
  have HEG := Aside0.mk eg
  clear eg
  have HB0 := Aside0.mk (show w3.cell? ⟨gb, 0, none⟩ = some (.int .i64 (m : Int)) by rw [blk_cell HX3.out]; rfl)
  have HB1 := Aside0.mk (show w3.cell? ⟨gb, 1, none⟩ = some (.int .i64 s) by rw [blk_cell HX3.out]; rfl)
  obtain ⟨A2, c2, oki, hc2, hcap2, hC2, hR2, hok2, hback⟩ := rows_open HP3.out (pset_at HGL.out HM.out.1 HM.out.2)
  rw [HL_.out] at hc2 hcap2 hC2 hR2
  have HFZ := Aside0.mk (rows_frozen HP3.out m)
  have HBG := Aside0.mk hc2
  have HR := Aside0.mk hR2
  have HOK := Aside0.mk hok2
  have HBK := Aside0.mk @hback
  have HGB := Aside0.mk (show ¬ oki gb from fun hk => by have := (hok2 gb hk).1.2; have := HEG.out; omega)
  clear hc2 hcap2 hC2 hR2 hok2 hback HB2 HX2 HP2 HX3
  obtain ⟨A, rfl⟩ : ∃ A, A = A2 := ⟨_, rfl⟩
  obtain ⟨c, rfl⟩ : ∃ c, c = c2 := ⟨_, rfl⟩
  refine start_ (n := 18) (S := fun w' => w'.cell? ⟨gb, 0, none⟩ = some (.int .i64 (m : Int)) ∧ w'.cell? ⟨gb, 1, none⟩ = some (.int .i64 s) ∧ w'.cell? ⟨g, m, none⟩ = some (.slice A l.length c)) (ds := [17]) #[false, false, false, false, false, false, false, false, false, false, false, false, false, false, false, false, false, false] (by kernel_rfl) rfl rfl ⟨(e3 ▸ HB0.out), (e3 ▸ HB1.out), (e3 ▸ HBG.out)⟩ (fun hHeld => ?_)
  rw [← e3] at hHeld ⊢
  clear e3
  refine pure_ (i := 0) (N := some 34) (v := ?_) (a' := ?_) #[true, false, false, false, false, false, false, false, false, false, false, false, false, false, false, false, false, false] rfl rfl (by kernel_rfl) (fun _ _ _ h => h) (Or.inl ⟨by rfl, ?_⟩) ?_ ?_
  rotate_left
  · intro w'
    go_simp
    with_reducible rfl
  rotate_left
  · simp only [Act.put, List.setIfInBounds_toArray, List.set_cons_zero, List.set_cons_succ, i64_w, i32_w]
    rfl
  refine pure_ (i := 1) (N := some 35) (v := ?_) (a' := ?_) #[true, true, false, false, false, false, false, false, false, false, false, false, false, false, false, false, false, false] rfl rfl (by kernel_rfl) (fun _ _ _ h => h) (Or.inl ⟨by rfl, ?_⟩) ?_ ?_
  rotate_left
  · intro w'
    go_simp
    with_reducible rfl
  rotate_left
  · simp only [Act.put, List.setIfInBounds_toArray, List.set_cons_zero, List.set_cons_succ, i64_w, i32_w]
    rfl
  refine pure_ (i := 3) (N := some 37) (v := ?_) (a' := ?_) #[true, true, false, true, false, false, false, false, false, false, false, false, false, false, false, false, false, false] rfl rfl (by kernel_rfl) (fun _ _ _ h => h) (Or.inl ⟨by rfl, ?_⟩) ?_ ?_
  rotate_left
  · intro w'
    go_simp
    with_reducible rfl
  rotate_left
  · simp only [Act.put, List.setIfInBounds_toArray, List.set_cons_zero, List.set_cons_succ, i64_w, i32_w]
    rfl
  refine pure_ (i := 4) (N := some 38) (v := ?_) (a' := ?_) #[true, true, false, true, true, false, false, false, false, false, false, false, false, false, false, false, false, false] rfl rfl (by kernel_rfl) (fun _ _ _ h => h) (Or.inl ⟨by rfl, ?_⟩) ?_ ?_
  rotate_left
  · intro w'
    go_simp
    with_reducible rfl
  rotate_left
  · simp only [Act.put, List.setIfInBounds_toArray, List.set_cons_zero, List.set_cons_succ, i64_w, i32_w]
    rfl
  refine pure_ (i := 6) (N := some 40) (v := ?_) (a' := ?_) #[true, true, false, true, true, false, true, false, false, false, false, false, false, false, false, false, false, false] rfl rfl (by kernel_rfl) (fun _ _ _ h => h) (Or.inl ⟨by rfl, ?_⟩) ?_ ?_
  rotate_left
  · intro w'
    go_simp
    with_reducible rfl
  rotate_left
  · simp only [Act.put, List.setIfInBounds_toArray, List.set_cons_zero, List.set_cons_succ, i64_w, i32_w]
    rfl
  refine pure_ (i := 7) (N := some 41) (v := ?_) (a' := ?_) #[true, true, false, true, true, false, true, true, false, false, false, false, false, false, false, false, false, false] rfl rfl (by kernel_rfl) (fun _ _ _ h => h) (Or.inl ⟨by rfl, ?_⟩) ?_ ?_
  rotate_left
  · intro w'
    go_simp
    with_reducible rfl
  rotate_left
  · simp only [Act.put, List.setIfInBounds_toArray, List.set_cons_zero, List.set_cons_succ, i64_w, i32_w]
    rfl
  refine pure_ (i := 10) (N := some 44) (v := ?_) (a' := ?_) #[true, true, false, true, true, false, true, true, false, false, true, false, false, false, false, false, false, false] rfl rfl (by kernel_rfl) (fun _ _ _ h => h) (Or.inl ⟨by rfl, ?_⟩) ?_ ?_
  rotate_left
  · intro w'
    go_simp
    with_reducible rfl
  rotate_left
  · simp only [Act.put, List.setIfInBounds_toArray, List.set_cons_zero, List.set_cons_succ, i64_w, i32_w]
    rfl
  refine pure_ (i := 14) (N := some 48) (v := ?_) (a' := ?_) #[true, true, false, true, true, false, true, true, false, false, true, false, false, false, true, false, false, false] rfl rfl (by kernel_rfl) (fun _ _ _ h => h) (Or.inl ⟨by rfl, ?_⟩) ?_ ?_
  rotate_left
  · intro w'
    go_simp
    with_reducible rfl
  rotate_left
  · simp only [Act.put, List.setIfInBounds_toArray, List.set_cons_zero, List.set_cons_succ, i64_w, i32_w]
    rfl
  refine pure_ (i := 15) (N := some 49) (v := ?_) (a' := ?_) #[true, true, false, true, true, false, true, true, false, false, true, false, false, false, true, true, false, false] rfl rfl (by kernel_rfl) (fun _ _ _ h => h) (Or.inl ⟨by rfl, ?_⟩) ?_ ?_
  rotate_left
  · intro w'
    go_simp
    with_reducible rfl
  rotate_left
  · simp only [Act.put, List.setIfInBounds_toArray, List.set_cons_zero, List.set_cons_succ, i64_w, i32_w]
    rfl
  refine take_ (i := 2) (N := some 36) (v := ?_) (a' := ?_) #[true, true, true, true, true, false, true, true, false, false, true, false, false, false, true, true, false, false] rfl rfl (by kernel_rfl) (fun _ _ _ h => h) (Or.inl ⟨by rfl, ?_⟩) hHeld ?_ ?_
  rotate_left
  · rintro w' ⟨s0, s1, s2⟩
    go_simp
    with_reducible rfl
  rotate_left
  · simp only [Act.put, List.setIfInBounds_toArray, List.set_cons_zero, List.set_cons_succ, i64_w, i32_w]
    rfl
  refine take_ (i := 5) (N := some 39) (v := ?_) (a' := ?_) #[true, true, true, true, true, true, true, true, false, false, true, false, false, false, true, true, false, false] rfl rfl (by kernel_rfl) (fun _ _ _ h => h) (Or.inl ⟨by rfl, ?_⟩) hHeld ?_ ?_
  rotate_left
  · rintro w' ⟨s0, s1, s2⟩
    go_simp
    with_reducible rfl
  rotate_left
  · simp only [Act.put, List.setIfInBounds_toArray, List.set_cons_zero, List.set_cons_succ, i64_w, i32_w]
    rfl
  refine pure_ (i := 8) (N := some 42) (v := ?_) (a' := ?_) #[true, true, true, true, true, true, true, true, true, false, true, false, false, false, true, true, false, false] rfl rfl (by kernel_rfl) (fun _ _ _ h => h) (Or.inl ⟨by rfl, ?_⟩) ?_ ?_
  rotate_left
  · intro w'
    go_simp
    with_reducible rfl
  rotate_left
  · simp only [Act.put, List.setIfInBounds_toArray, List.set_cons_zero, List.set_cons_succ, i64_w, i32_w]
    rfl
  refine take_ (i := 9) (N := some 43) (v := ?_) (a' := ?_) #[true, true, true, true, true, true, true, true, true, true, true, false, false, false, true, true, false, false] rfl rfl (by kernel_rfl) (fun _ _ _ h => h) (Or.inl ⟨by rfl, ?_⟩) hHeld ?_ ?_
  rotate_left
  · rintro w' ⟨s0, s1, s2⟩
    go_simp
    with_reducible rfl
  rotate_left
  · simp only [Act.put, List.setIfInBounds_toArray, List.set_cons_zero, List.set_cons_succ, i64_w, i32_w]
    rfl
  refine take_ (i := 11) (N := some 45) (v := ?_) (a' := ?_) #[true, true, true, true, true, true, true, true, true, true, true, true, false, false, true, true, false, false] rfl rfl (by kernel_rfl) (fun _ _ _ h => h) (Or.inl ⟨by rfl, ?_⟩) hHeld ?_ ?_
  rotate_left
  · rintro w' ⟨s0, s1, s2⟩
    go_simp
    with_reducible rfl
  rotate_left
  · simp only [Act.put, List.setIfInBounds_toArray, List.set_cons_zero, List.set_cons_succ, i64_w, i32_w]
    rfl
  refine one_ (i := 12) (N := some 46) #[true, true, true, true, true, true, true, true, true, true, true, true, true, false, true, true, false, false] rfl rfl (by kernel_rfl) (by decide) (fun K hK => ?_)
  refine value_ (w1 := ?_) (v := ?_) (by rfl) rfl ?_ ?_
  rotate_left 2
  · go_simp
    constructor
    · rfl
    · rfl
  refine hK.out _ _ ⟨(pw_cell_below (below_alloc (Below.refl _ _) _) HB0.out), (pw_cell_below (below_alloc (Below.refl _ _) _) HB1.out), (pw_cell_below (below_alloc (Below.refl _ _) _) HBG.out)⟩ (fun hHeld => ?_)
  clear hK K
  refine norm_ (a' := ?_) ?_ ?_
  rotate_left
  · show Act.put _ (some 46) _ = _
    simp only [Act.put, List.setIfInBounds_toArray, List.set_cons_zero, List.set_cons_succ, i64_w, i32_w]
    rfl
  refine one_ (i := 13) (N := some 47) #[true, true, true, true, true, true, true, true, true, true, true, true, true, true, true, true, false, false] rfl rfl (by kernel_rfl) (by decide) (fun K hK => ?_)
  refine Kd.R_append_step (Kd.int .i64) (w0 := w3) 0 (by rfl) (.tmp 43) (.tmp 46) 30 3 (.int .i64 0) 8 rfl Try.underlying30 hinfo3 rfl (by decide) (by decide) (.slice A l.length c) l s [.int .i64 s] (fun k => oki k ∨ w3.heap.size ≤ k) (fun _ => False) rfl rfl rfl (fun _ hk => hk.elim) (fun _ hk => .inr hk) (Kd.R_mono HR.out (fun _ hk => .inl hk)) (Below.refl _ _) (Nat.zero_le _) (by have := HLN.out; omega) ?_
  intro v1 w1 hR _ hg _
  obtain ⟨A1, c1, ev1⟩ := Kd.R_slice hR
  subst ev1
  have HR1 := Aside0.mk hR
  have HG := Aside0.mk hg
  have hbg1 := hg.cell HBG.out (fun he => (HOK.out g (HR.out.1 g he.symm)).2 rfl)
  have hfz : w1.frozen? ⟨g, m, none⟩ = false := (World.frozen?_of_block (hg.block g (World.block_lt_of_cell? w3 _ HBG.out) (fun he => (HOK.out g (HR.out.1 g he.symm)).2 rfl))).trans HFZ.out
  clear hR hg
  refine hK.out _ _ ⟨(HG.out.cell HB0.out (fun he => HGB.out (HR.out.1 gb he.symm))), (HG.out.cell HB1.out (fun he => HGB.out (HR.out.1 gb he.symm))), hbg1⟩ (fun hHeld => ?_)
  clear hK K
  refine norm_ (a' := ?_) ?_ ?_
  rotate_left
  · show Act.put _ (some 47) _ = _
    simp only [Act.put, List.setIfInBounds_toArray, List.set_cons_zero, List.set_cons_succ, i64_w, i32_w]
    rfl
  refine pure_ (i := 16) (N := some 50) (v := ?_) (a' := ?_) #[true, true, true, true, true, true, true, true, true, true, true, true, true, true, true, true, true, false] rfl rfl (by kernel_rfl) (fun _ _ _ h => h) (Or.inl ⟨by rfl, ?_⟩) ?_ ?_
  rotate_left
  · intro w'
    go_simp
    with_reducible rfl
  rotate_left
  · simp only [Act.put, List.setIfInBounds_toArray, List.set_cons_zero, List.set_cons_succ, i64_w, i32_w]
    rfl
  refine last_ (i := 17) (N := none) #[true, true, true, true, true, true, true, true, true, true, true, true, true, true, true, true, true, true] rfl rfl (by kernel_rfl) (by decide) (fun K hK => ?_)
  refine skip_ (w1 := ?_) (by rfl) rfl ?_ ?_
  rotate_left
  · go_simp
    rfl
  refine hK.out _ _ ?_
  clear hK K
  refine done_ (by kernel_rfl) ?_
  go_wp2_with fail
  go_ret
  have hfin := HBK.out (W1 := w1) (okn := fun k => oki k ∨ w3.heap.size ≤ k) ((Keeps.of_grown HG.out).mono (fun k _ hk => HR.out.1 k hk.symm)) HR1.out (fun _ hk => hk)
  rw [show (l ++ [s]).length = l.length + 1 by simp] at hfin
  refine ⟨by rw [HAD.out]; rfl, (Keeps.of_below HB3.out ok).then_ hfin.2 (fun k hk => .inl hk.1), ?_⟩
  rw [addL, if_pos HAD.out, HL_.out]
  obtain ⟨n, rfl⟩ : ∃ n, m = n + 1 := ⟨m - 1, by have := HM.out; omega⟩
  rw [show ((n + 1 : Nat) : Int).toNat - 1 = n by omega]
  exact (PSet g _).mono (fun k hk => hk.elim (fun h => .inl h.1) (fun h => .inr (Nat.le_trans HB3.out.size h))) hfin.1
theorem revset_Set_Add.all (g : Nat) (L : List (List Int)) (hL : Good L) (d s : Int) (W : World) (ok : Nat → Prop) (hP : (PSet g L).P ok W) :
    Calls Try.prog 21 #[.pointer (some ⟨g, 0, none⟩), .agg #[.int .i64 d, .int .i64 s]] W (AddPost g L d s ok W) := by
  by_cases h : 1 ≤ d ∧ d ≤ 16 ∧ 1 ≤ s ∧ s ≤ 4000
  · obtain ⟨m, rfl, hm⟩ := int_nat d h.1
    exact revset_Set_Add.yes g L hL m s W ok hP hm (by omega) h.2.2.1 h.2.2.2
  · refine (revset_Set_Add.arg g d s W h).mono ?_
    rintro e w' ⟨rfl, hB⟩
    exact addPost_same (by rw [addN, if_pos h]) (by decide) hP hB
end Go.Proofs.Ytadkafhhkidecaa.P
