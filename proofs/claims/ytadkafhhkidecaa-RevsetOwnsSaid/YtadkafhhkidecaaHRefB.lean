/- Contracts, typed by hand and by a program: the document's set: New, Add. -/
import Derived.Test.YtadkafhhkidecaaHRefA
set_option linter.unusedVariables false
set_option linter.unusedSimpArgs false
namespace Go.Proofs.Ytadkafhhkidecaa.P
open Go.RowKit Go.Proofs.YtadkafhhkidecaaW.PrintWords Go.Proofs.YtadkafhhkidecaaW.PrintLast Go.Proofs.YtadkafhhkidecaaW.PrintMore
/-- The set's one field is put. -/
theorem rset_field {g : Nat} {L1 : List (List Int)} {ok : Nat → Prop} {W1 : World} {v1 v : Value} (hg : W1.heap[g]? = some (.cells #[v] 57 (0, 0))) (hok : ok g) (hR : (Kd.slice 3 (Kd.int .i64)).R 30 W1 0 (fun k => ok k ∧ k ≠ g) v1 L1) :
    (RSet g L1).P ok (W1.setCell ⟨g, 0, none⟩ v1) :=
  ⟨v1, hok, blk_put hg 0 v1 rfl, Kd.R_far hR (fun k hk => hk.2) v1⟩
set_option maxHeartbeats 2000000 in
theorem ref_New.calls (W : World) :
    Calls Try.prog 9 #[] W fun e W' => ∃ g, e = .returned (.pointer (some ⟨g, 0, none⟩)) ∧ (RSet g (List.replicate 16 [])).P (fun k => W.heap.size ≤ k) W' ∧ Below W.heap.size W W' := by
  obtain ⟨g, eg⟩ : ∃ g, g = W.heap.size := ⟨_, rfl⟩
  have HEG := Aside0.mk eg
  clear eg
  go_enter Try.func9, Try.ntmps9
  go_wp2_with fail
  rw [← HEG.out]
  go_loopw [2] (fun s2 wr => ∃ i : Nat, i ≤ 16 ∧ s2 = .int .i64 (i : Int) ∧ Aside0 ((RSet g (List.replicate i [])).P (fun k => W.heap.size ≤ k) wr) ∧ Aside0 (Below W.heap.size W wr)) (fun s2 _ => (16 - (intOf s2).toNat))
  case atStart => exact ⟨0, by omega, rfl, ⟨⟨.slice none 0 0, by rw [HEG.out]; exact Nat.le_refl _, by rw [HEG.out]; exact heap_alloc_new W _, Kd.R_nil _ _ _ _ _⟩⟩, ⟨below_alloc (Below.refl _ _) _⟩⟩
  case round =>
    obtain ⟨i, hi, rfl, HP, HB⟩ := hrel
    by_cases hlt : i < 16
    · obtain ⟨v, hg1, hg2, hR⟩ := HP.out
      obtain ⟨A, c, ev⟩ := Kd.R_slice hR
      rw [List.length_replicate] at ev
      subst ev
      have hc0 : wr.cell? ⟨g, 0, none⟩ = some (.slice A i c) := by rw [blk_cell hg2]; rfl
      have HR := Aside0.mk hR
      have HG := Aside0.mk hg2
      have HGL := Aside0.mk (blk_lt hg2)
      clear hg1 hg2 hR HP
      go_wp2_with (at_builtin; refine Kd.R_append (Kd.slice 3 (Kd.int .i64)) (w0 := wr) 0 rfl (.tmp 13) (.tmp 14) 31 30 (.slice none 0 0) 24 rfl Try.underlying31 hinfo30B rfl Nat.one_pos (by decide) (.slice A i c) (List.replicate i []) [] [.slice none 0 0] (fun k => W.heap.size ≤ k ∧ k ≠ g) (fun _ => False) rfl rfl ⟨_, rfl, Kd.R_nil _ _ _ _ _⟩ (fun _ hk => hk.elim) (fun k hk => ⟨Nat.le_trans HB.out.size hk, fun he => by have := HGL.out; omega⟩) HR.out (Below.refl _ _) (Nat.zero_le _) ?cL ?_)
      case cL => (try simp only [List.length_replicate]); omega
      intro v1 w1 hR1 _ hgr _
      have hg1 : w1.heap[g]? = some (.cells #[.slice A i c] 57 (0, 0)) := (hgr.block g HGL.out (fun he => (HR.out.1 g he.symm).2 rfl)).trans HG.out
      have hc1 : w1.cell? ⟨g, 0, none⟩ = some (.slice A i c) := by rw [blk_cell hg1]; rfl
      have hf1 : w1.frozen? ⟨g, 0, none⟩ = false := blk_frozen hg1 0
      rw [show (List.replicate i ([] : List Int) ++ [[]]) = List.replicate (i + 1) [] from List.replicate_succ'.symm] at hR1
      obtain ⟨A1, c1, ev⟩ := Kd.R_slice hR1
      rw [List.length_replicate] at ev
      subst ev
      have HB1 := Aside0.mk (pw_below_grown HB.out _ HB.out.size hgr (fun k hk => (HR.out.1 k hk).1))
      have HF := Aside0.mk (rset_field hg1 (show W.heap.size ≤ g by rw [HEG.out]; exact Nat.le_refl _) hR1)
      have HBN := Aside0.mk (HB1.out.setCell (p := ⟨g, 0, none⟩) (by rw [HEG.out]; exact Nat.le_refl _) (.slice A1 (i + 1) c1))
      clear hR1 hgr hg1 HB1 HR HG HB hc0
      go_wp2_with fail
      go_roundw
      case rel => exact ⟨i + 1, by omega, by simp, HF, HBN⟩
      case measure => simp [intOf]; omega
    · have e : i = 16 := by omega
      subst e
      clear hi hlt
      go_wp2_with fail
      go_ret
      exact ⟨_, rfl, HP.out, HB.out⟩
theorem refAddArg.aux {d s : Int} (h : ¬ (1 ≤ d ∧ d ≤ 16 ∧ 1 ≤ s ∧ s ≤ 4000)) : d < 1 ∨ (¬ d < 1 ∧ 16 < d) ∨ (¬ d < 1 ∧ ¬ 16 < d ∧ s < 1) ∨ (¬ d < 1 ∧ ¬ 16 < d ∧ ¬ s < 1 ∧ 4000 < s) := by omega
set_option maxHeartbeats 1000000 in
theorem ref_Add.arg (g : Nat) (d s : Int) (W : World) (hd : ¬ (1 ≤ d ∧ d ≤ 16 ∧ 1 ≤ s ∧ s ≤ 4000)) :
    Calls Try.prog 29 #[.pointer (some ⟨g, 0, none⟩), .agg #[.int .i64 d, .int .i64 s]] W fun e W' => e = .returned (.int .i64 1) ∧ Below W.heap.size W W' := by
  rcases refAddArg.aux hd with h1 | ⟨h1, h2⟩ | ⟨h1, h2, h3⟩ | ⟨h1, h2, h3, h4⟩
  · have b1 : decide (d < 1) = true := decide_eq_true h1
    clear hd h1
    go_enter Try.func29, Try.ntmps29
    go_wp2_with fail
    go_ret
    exact ⟨rfl, below_alloc (Below.refl _ _) _⟩
  · have b1 : decide (d < 1) = false := decide_eq_false h1
    have b2 : decide (16 < d) = true := decide_eq_true h2
    clear hd h1 h2
    go_enter Try.func29, Try.ntmps29
    go_wp2_with fail
    go_ret
    exact ⟨rfl, below_alloc (Below.refl _ _) _⟩
  · have b1 : decide (d < 1) = false := decide_eq_false h1
    have b2 : decide (16 < d) = false := decide_eq_false h2
    have b3 : decide (s < 1) = true := decide_eq_true h3
    clear hd h1 h2 h3
    go_enter Try.func29, Try.ntmps29
    go_wp2_with fail
    go_ret
    exact ⟨rfl, below_alloc (Below.refl _ _) _⟩
  · have b1 : decide (d < 1) = false := decide_eq_false h1
    have b2 : decide (16 < d) = false := decide_eq_false h2
    have b3 : decide (s < 1) = false := decide_eq_false h3
    have b4 : decide (4000 < s) = true := decide_eq_true h4
    clear hd h1 h2 h3 h4
    go_enter Try.func29, Try.ntmps29
    go_wp2_with fail
    go_ret
    exact ⟨rfl, below_alloc (Below.refl _ _) _⟩
/-- The post of Add. -/
def RefAddPost (g : Nat) (L : List (List Int)) (d s : Int) (ok : Nat → Prop) (W : World) (e : Ending) (W' : World) : Prop :=
  e = .returned (.int .i64 (addN L d s)) ∧ Turned ok W W' (RSet g (addL L d s))
theorem refAdd_same {g : Nat} {L : List (List Int)} {d s : Int} {ok : Nat → Prop} {W W' : World} {n : Int} (hn : addN L d s = n) (h0 : n ≠ 0) (hP : (RSet g L).P ok W) (hB : Below W.heap.size W W') : RefAddPost g L d s ok W (.returned (.int .i64 n)) W' := by
  refine ⟨by rw [hn], Keeps.of_below hB _, ?_⟩
  rw [addL, if_neg (by rw [hn]; exact h0)]
  exact (RSet g L).mono (fun _ hk => .inl hk) ((RSet g L).on hP hB)
set_option maxHeartbeats 4000000 in
set_option maxRecDepth 100000 in
theorem ref_Add.yes (g : Nat) (L : List (List Int)) (hL : Good L) (d : Int) (n : Nat) (s : Int) (W : World) (ok : Nat → Prop) (hP : (RSet g L).P ok W) (hn : n < 16) (hd : d = (n : Int) + 1) (h3 : 1 ≤ s) (h4 : s ≤ 4000) :
    Calls Try.prog 29 #[.pointer (some ⟨g, 0, none⟩), .agg #[.int .i64 d, .int .i64 s]] W (RefAddPost g L d s ok W) := by
  have HPP := Aside0.mk hP
  have HL := Aside0.mk hL
  have HN := Aside0.mk hn
  have HD := Aside0.mk hd
  have HS := Aside0.mk (And.intro h3 h4)
  have b1 : decide (d < 1) = false := decide_eq_false (by omega)
  have b2 : decide (16 < d) = false := decide_eq_false (by omega)
  have b3 : decide (s < 1) = false := decide_eq_false (by omega)
  have b4 : decide (4000 < s) = false := decide_eq_false (by omega)
  clear hP hL hn hd h3 h4
  go_enter Try.func29, Try.ntmps29
  go_wp2_with fail
  obtain ⟨gb, eg⟩ : ∃ gb, gb = W.heap.size := ⟨_, rfl⟩
  rw [← eg]
  obtain ⟨w1, e1⟩ : ∃ w1, w1 = W.alloc (.cells #[.int .i64 d, .int .i64 s] 29) := ⟨_, rfl⟩
  rw [← e1]
  have HB1 := Aside0.mk (show Below W.heap.size W w1 by rw [e1]; exact below_alloc (Below.refl _ _) _)
  have HX := Aside0.mk (show w1.heap[gb]? = some (.cells #[.int .i64 d, .int .i64 s] 29 (0, 0)) by rw [e1, eg]; exact heap_alloc_new W _)
  have HEG := Aside0.mk eg
  clear e1 eg
  refine (ref_Has.all g L HL.out d s w1 ok ((RSet g L).on HPP.out HB1.out)).mono ?_
  rintro e w2 ⟨rfl, hB2⟩
  have HB2 := Aside0.mk (below_step HB1.out hB2)
  have HX2 := Aside0.mk ((hB2.block _ (blk_lt HX.out)).trans HX.out)
  clear hB2 HB1 HX
  by_cases hh : s ∈ rowS L d
  · have hhas : hasS L d s = true := decide_eq_true ⟨by have := HD.out; omega, by have := HD.out; have := HN.out; omega, hh⟩
    rw [hhas]
    have HAD := Aside0.mk (show addN L d s = 14 by rw [addN, if_neg (by have := HD.out; have := HN.out; have := HS.out; omega), if_pos hh])
    clear hh hhas
    go_wp2_with fail
    go_ret
    exact refAdd_same HAD.out (by decide) HPP.out HB2.out
  have hhas : hasS L d s = false := decide_eq_false (fun hh2 => hh hh2.2.2)
  rw [hhas]
  have HH := Aside0.mk hh
  clear hh hhas
  go_wp2_with fail
  obtain ⟨B, c, hcg, hbg, hc16, hog, hBg, hR⟩ := rset_open ((RSet g L).on ((RSet g L).bound HPP.out) HB2.out) HL.out
  obtain ⟨A, c', hcB, hcap, hC⟩ := rset_row hR HL.out n HN.out
  have hlt := blk_lt hbg
  have hltB := Kd.R_lt hR B rfl
  have hlen := HL.out.len n
  have hrow : rowS L d = L.getD n [] := by rw [HD.out, rowS_nat]
  obtain ⟨l, hl⟩ : ∃ l, L.getD n [] = l := ⟨_, rfl⟩
  rw [hl] at hcB hcap hC hlen hrow
  have HRW := Aside0.mk hrow
  have HC := Aside0.mk hC
  have HCP := Aside0.mk hcap
  have HR := Aside0.mk hR
  have HBG := Aside0.mk hbg
  have HOG := Aside0.mk hog
  have HBN := Aside0.mk hBg
  have hx0 : w2.cell? ⟨gb, 0, none⟩ = some (.int .i64 d) := by rw [blk_cell HX2.out]; rfl
  have hx1 : w2.cell? ⟨gb, 1, none⟩ = some (.int .i64 s) := by rw [blk_cell HX2.out]; rfl
  have hw : IntKind.i64.wrap (d - 1) = (n : Int) := by rw [HD.out]; exact (IntWalk.i64_in _ (by have := HN.out; omega)).trans (by omega)
  have h0 : (0 : Int) ≤ (n : Int) := by omega
  have h16 : (n : Int) < 16 := by have := HN.out; omega
  clear hl hcap hC hrow hR hbg hog hBg
  by_cases h32 : l.length = 32
  · have h32b : decide ((l.length : Int) = 32) = true := decide_eq_true (by omega)
    have h32c : ((l.length : Int) == 32) = true := by simp; omega
    have h32d : (l.length == 32) = true := by simp; omega
    have HAD := Aside0.mk (show addN L d s = 12 by rw [addN, if_neg (by have := HD.out; have := HN.out; have := HS.out; omega), if_neg HH.out, HRW.out, if_pos (by omega)])
    clear h32 hlen
    go_quiet (fail)
    go_wp2_with fail
    go_ret
    exact refAdd_same HAD.out (by decide) HPP.out (pw_below_drewN HB2.out _)
  have h32b : decide ((l.length : Int) = 32) = false := decide_eq_false (by omega)
  have h32c : ((l.length : Int) == 32) = false := by simp; omega
  have h32d : (l.length == 32) = false := by simp; omega
  have HAD := Aside0.mk (show addN L d s = 0 by rw [addN, if_neg (by have := HD.out; have := HN.out; have := HS.out; omega), if_neg HH.out, HRW.out, if_neg (by omega)])
  have HLN := Aside0.mk (show l.length < 32 by omega)
  clear h32 hlen
  go_quiet (fail)
  clear hcB hw
  obtain ⟨w3, e3⟩ : ∃ w3, w3 = w2.drewN nq := ⟨_, rfl⟩
  have HB3 := Aside0.mk (show Below w2.heap.size w2 w3 by rw [e3]; exact pw_below_drewN (Below.refl _ _) _)
  rw [← e3]
  replace hx1 := pw_cell_below HB3.out hx1
  clear e3 hcg hx0
  go_wp2_with (at_builtin; refine app_int (k := .i64) rfl (.tmp 40) (.tmp 41) 30 3 8 rfl Try.underlying30 hinfo3 (by decide) (.slice none 0 0) [] l A l.length c' (fun k => w3.heap.size ≤ k) rfl rfl (Kd.R_nil _ _ _ _ _) (Kd.C_below HC.out HB3.out) (by have := HLN.out; simp only [List.length_nil]; omega) ?_)
  intro v4 w4 hR4 hg4
  have HB4 := Aside0.mk (pw_below_grown (Below.refl w3.heap.size w3) _ (Nat.le_refl _) hg4 (fun k hk => by cases hk))
  have HR4 := Aside0.mk (Kd.R_mono hR4 (ok' := fun k => w3.heap.size ≤ k) (fun k hk => by omega))
  clear hR4 hg4
  replace hx1 := pw_cell_below HB4.out hx1
  go_wp2_with (at_builtin; refine app_int (k := .i64) rfl (.tmp 43) (.tmp 46) 30 3 8 rfl Try.underlying30 hinfo3 (by decide) v4 l [s] (some ⟨w4.heap.size, 0, none⟩) 1 1 (fun k => w3.heap.size ≤ k) rfl rfl ?cO ?cR ?cL ?_)
  case cO => exact Kd.R_alloc HR4.out _
  case cR => exact lit_C (k := .i64) w4 3 [s] _ rfl (by simp)
  case cL => have := HLN.out; omega
  intro v5 w5 hR5 hg5
  have HB5 := Aside0.mk (pw_below_grown (below_alloc HB4.out (.cells #[.int .i64 s] 3)) _ (by have := HB4.out.size; simp; omega) hg5 (fun k hk => HR4.out.1 k hk))
  obtain ⟨A5, c5, ev⟩ := Kd.R_slice hR5
  subst ev
  have HR5 := Aside0.mk (Kd.R_mono hR5 (ok' := fun k => w3.heap.size ≤ k) (fun k hk => by have := HB4.out.size; omega))
  clear hR5 hg5 HR4 HB4 hx1
  go_wp2_with fail
  have HBX := Aside0.mk (below_drew (below_step HB3.out HB5.out))
  obtain ⟨w6, e6⟩ : ∃ w6, w6 = w5.drew := ⟨_, rfl⟩
  rw [← e6] at HBX
  have HBG6 := Aside0.mk ((HBX.out.block g (blk_lt HBG.out)).trans HBG.out)
  have HX6 := Aside0.mk ((HBX.out.block gb (blk_lt HX2.out)).trans HX2.out)
  have HR6 := Aside0.mk (Kd.R_below HR.out HBX.out)
  have HR7 := Aside0.mk (show (Kd.int .i64).R 3 w6 0 (fun k => w3.heap.size ≤ k) (.slice A5 (l ++ [s]).length c5) (l ++ [s]) by rw [e6]; exact Kd.R_drew HR5.out)
  have HG0 := Aside0.mk (show w5.drew.cell? ⟨g, 0, none⟩ = some (.slice (some ⟨B, 0, none⟩) 16 c) by rw [← e6, blk_cell HBG6.out]; rfl)
  have HB0 := Aside0.mk (show w5.drew.cell? ⟨gb, 0, none⟩ = some (.int .i64 d) by rw [← e6, blk_cell HX6.out]; rfl)
  obtain ⟨⟨u, hu⟩, hf⟩ := rows_cell HR6.out n HN.out
  have hw : IntKind.i64.wrap (d - 1) = (n : Int) := by rw [HD.out]; exact (IntWalk.i64_in _ (by have := HN.out; omega)).trans (by omega)
  rw [show (l ++ [s]).length = l.length + 1 by simp] at HR7 ⊢
  refine start_ (n := 10) (S := fun w' => w'.cell? ⟨g, 0, none⟩ = some (.slice (some ⟨B, 0, none⟩) 16 c) ∧ w'.cell? ⟨gb, 0, none⟩ = some (.int .i64 d)) (ds := [9]) #[false, false, false, false, false, false, false, false, false, false] (by kernel_rfl) rfl rfl ⟨HG0.out, HB0.out⟩ (fun hHeld => ?_)
  rw [← e6] at hHeld ⊢
  clear e6
  refine pure_ (i := 0) (N := some 48) (v := ?_) (a' := ?_) #[true, false, false, false, false, false, false, false, false, false] rfl rfl (by kernel_rfl) (fun _ _ _ h => h) (Or.inl ⟨by rfl, ?_⟩) ?_ ?_
  rotate_left
  · intro w'
    go_simp
    with_reducible rfl
  rotate_left
  · simp only [Act.put, List.setIfInBounds_toArray, List.set_cons_zero, List.set_cons_succ, i64_w, i32_w]
    rfl
  refine pure_ (i := 1) (N := some 49) (v := ?_) (a' := ?_) #[true, true, false, false, false, false, false, false, false, false] rfl rfl (by kernel_rfl) (fun _ _ _ h => h) (Or.inl ⟨by rfl, ?_⟩) ?_ ?_
  rotate_left
  · intro w'
    go_simp
    with_reducible rfl
  rotate_left
  · simp only [Act.put, List.setIfInBounds_toArray, List.set_cons_zero, List.set_cons_succ, i64_w, i32_w]
    rfl
  refine pure_ (i := 2) (N := some 50) (v := ?_) (a' := ?_) #[true, true, true, false, false, false, false, false, false, false] rfl rfl (by kernel_rfl) (fun _ _ _ h => h) (Or.inl ⟨by rfl, ?_⟩) ?_ ?_
  rotate_left
  · intro w'
    go_simp
    with_reducible rfl
  rotate_left
  · simp only [Act.put, List.setIfInBounds_toArray, List.set_cons_zero, List.set_cons_succ, i64_w, i32_w]
    rfl
  refine pure_ (i := 4) (N := some 52) (v := ?_) (a' := ?_) #[true, true, true, false, true, false, false, false, false, false] rfl rfl (by kernel_rfl) (fun _ _ _ h => h) (Or.inl ⟨by rfl, ?_⟩) ?_ ?_
  rotate_left
  · intro w'
    go_simp
    with_reducible rfl
  rotate_left
  · simp only [Act.put, List.setIfInBounds_toArray, List.set_cons_zero, List.set_cons_succ, i64_w, i32_w]
    rfl
  refine pure_ (i := 7) (N := some 55) (v := ?_) (a' := ?_) #[true, true, true, false, true, false, false, true, false, false] rfl rfl (by kernel_rfl) (fun _ _ _ h => h) (Or.inl ⟨by rfl, ?_⟩) ?_ ?_
  rotate_left
  · intro w'
    go_simp
    with_reducible rfl
  rotate_left
  · simp only [Act.put, List.setIfInBounds_toArray, List.set_cons_zero, List.set_cons_succ, i64_w, i32_w]
    rfl
  refine take_ (i := 3) (N := some 51) (v := ?_) (a' := ?_) #[true, true, true, true, true, false, false, true, false, false] rfl rfl (by kernel_rfl) (fun _ _ _ h => h) (Or.inl ⟨by rfl, ?_⟩) hHeld ?_ ?_
  rotate_left
  · rintro w' ⟨s0, s1⟩
    go_simp
    with_reducible rfl
  rotate_left
  · simp only [Act.put, List.setIfInBounds_toArray, List.set_cons_zero, List.set_cons_succ, i64_w, i32_w]
    rfl
  refine take_ (i := 5) (N := some 53) (v := ?_) (a' := ?_) #[true, true, true, true, true, true, false, true, false, false] rfl rfl (by kernel_rfl) (fun _ _ _ h => h) (Or.inl ⟨by rfl, ?_⟩) hHeld ?_ ?_
  rotate_left
  · rintro w' ⟨s0, s1⟩
    go_simp
    with_reducible rfl
  rotate_left
  · simp only [Act.put, List.setIfInBounds_toArray, List.set_cons_zero, List.set_cons_succ, i64_w, i32_w]
    rfl
  refine pure_ (i := 6) (N := some 54) (v := ?_) (a' := ?_) #[true, true, true, true, true, true, true, true, false, false] rfl rfl (by kernel_rfl) (fun _ _ _ h => h) (Or.inl ⟨by rfl, ?_⟩) ?_ ?_
  rotate_left
  · intro w'
    go_simp
    with_reducible rfl
  rotate_left
  · simp only [Act.put, List.setIfInBounds_toArray, List.set_cons_zero, List.set_cons_succ, i64_w, i32_w]
    rfl
  refine pure_ (i := 8) (N := some 56) (v := ?_) (a' := ?_) #[true, true, true, true, true, true, true, true, true, false] rfl rfl (by kernel_rfl) (fun _ _ _ h => h) (Or.inl ⟨by rfl, ?_⟩) ?_ ?_
  rotate_left
  · intro w'
    go_simp
    with_reducible rfl
  rotate_left
  · simp only [Act.put, List.setIfInBounds_toArray, List.set_cons_zero, List.set_cons_succ, i64_w, i32_w]
    rfl
  refine last_ (i := 9) (N := none) #[true, true, true, true, true, true, true, true, true, true] rfl rfl (by kernel_rfl) (by decide) (fun K hK => ?_)
  refine skip_ (w1 := ?_) (by rfl) rfl ?_ ?_
  rotate_left
  · go_simp
    rfl
  refine hK.out _ _ ?_
  clear hK K
  refine done_ (by kernel_rfl) ?_
  go_wp2_with fail
  go_ret
  have hBok := HR.out.1 B rfl
  have hBlt := Kd.R_lt HR.out B rfl
  have hSZ2 := HB2.out.size
  have hSZ3 := HB3.out.size
  have hp := rows_put (Kd.R_mono HR6.out (ok' := fun k => (ok k ∨ W.heap.size ≤ k) ∧ k ≠ g) (fun k hk => ⟨.inl hk.1.1, hk.2⟩)) n HN.out (okp := fun k => w3.heap.size ≤ k) HR7.out (fun k hk => ⟨⟨.inr (by omega), fun he => by have := HOG.out.2; omega⟩, fun he => by omega⟩)
  refine ⟨by rw [HAD.out]; rfl, ?_, ?_⟩
  · exact (Keeps.of_below (below_step HB2.out HBX.out) ok).set (.inl hBok.1.1) _
  · rw [addL, if_pos HAD.out, HRW.out, show d.toNat - 1 = n by have := HD.out; omega]
    refine ⟨_, .inl HOG.out.1, blk_far HBG6.out (p := ⟨B, n, none⟩) (fun he => HBN.out he.symm) _, ?_⟩
    exact hp.1
theorem ref_Add.all (g : Nat) (L : List (List Int)) (hL : Good L) (d s : Int) (W : World) (ok : Nat → Prop) (hP : (RSet g L).P ok W) :
    Calls Try.prog 29 #[.pointer (some ⟨g, 0, none⟩), .agg #[.int .i64 d, .int .i64 s]] W (RefAddPost g L d s ok W) := by
  by_cases h : 1 ≤ d ∧ d ≤ 16 ∧ 1 ≤ s ∧ s ≤ 4000
  · obtain ⟨n, rfl⟩ := int_nat1 d h.1
    exact ref_Add.yes g L hL _ n s W ok hP (by omega) rfl h.2.2.1 h.2.2.2
  · refine (ref_Add.arg g d s W h).mono ?_
    rintro e w' ⟨rfl, hB⟩
    exact refAdd_same (by rw [addN, if_pos h]) (by decide) hP hB
end Go.Proofs.Ytadkafhhkidecaa.P
