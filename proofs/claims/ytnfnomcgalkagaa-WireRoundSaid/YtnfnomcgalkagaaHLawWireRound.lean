/- What is put is read again, whatever stands behind; a part of it is too short: for any number, text, bytes behind and cut. -/
import Derived.Test.YtnfnomcgalkagaaHFew
import Derived.Test.YtnfnomcgalkagaaWRead
import Derived.Test.YtnfnomcgalkagaaHWLives
import Derived.Test.YtnfnomcgalkagaaHNew
import Derived.Test.YtnfnomcgalkagaaHMethods
import Derived.Test.YtnfnomcgalkagaaP15
import Derived.OpenShut
import Derived.Outline
namespace Go.Proofs.Ytnfnomcgalkagaa.P
open Go.RowKit Go.Proofs.YtnfnomcgalkagaaW.PrintWords Go.Proofs.YtnfnomcgalkagaaW.PrintLast Go.Proofs.YtnfnomcgalkagaaW.PrintMore
set_option linter.unusedVariables false
set_option linter.unusedSimpArgs false

set_option maxHeartbeats 1000000 in
set_option maxRecDepth 100000 in
theorem liverylaw03_WireRound.walk (a0 : Int) (a1 : Option Addr) (len1 cap1 : Nat) (z1 : List Int) (a2 : Option Addr) (len2 cap2 : Nat) (z2 : List Int) (a3 : Int) (w : World) (w0 : (Lit.int .i64 a0).wf = true) (w1 : (a1 = none ∧ len1 = 0 ∧ cap1 = 0 ∧ z1 = []) ∨ ∃ x, a1 = some x ∧ len1 ≤ cap1 ∧ cap1 ≤ maxLen ∧ z1.length = cap1 ∧ (∀ i, i < z1.length → w.cell? (x.add i) = some (.int .u8 (z1.getD i 0))) ∧ ∀ n ∈ z1, (Lit.int .u8 n).wf = true) (y1 : len1 * 1 ≤ 140737488351232) (w2 : (a2 = none ∧ len2 = 0 ∧ cap2 = 0 ∧ z2 = []) ∨ ∃ x, a2 = some x ∧ len2 ≤ cap2 ∧ cap2 ≤ maxLen ∧ z2.length = cap2 ∧ (∀ i, i < z2.length → w.cell? (x.add i) = some (.int .u8 (z2.getD i 0))) ∧ ∀ n ∈ z2, (Lit.int .u8 n).wf = true) (y2 : len2 * 1 ≤ 140737488351232) (w3 : (Lit.int .i64 a3).wf = true) :
    Calls Try.prog 10 #[.int .i64 a0, .slice a1 len1 cap1, .slice a2 len2 cap2, .int .i64 a3] w fun e w' => e = .returned (.bool true) ∧ Below w.heap.size w w' := by
  have bw0 := Aside0.mk (Go.bounds_i64 w0)
  clear w0
  obtain ⟨l1, rfl, hr1, hm1, hw1, hc1⟩ := ReadsInt.ofRowC w1
  have L1 := Aside0.mk (Kd.C_of_reads (d := (0 : Int)) (h1 := fun _ => rfl) hr1)
  have L1c := Aside0.mk hc1
  clear hr1 hc1 hm1 w1
  obtain ⟨l2, rfl, hr2, hm2, hw2, hc2⟩ := ReadsInt.ofRowC w2
  have L2 := Aside0.mk (Kd.C_of_reads (d := (0 : Int)) (h1 := fun _ => rfl) hr2)
  have L2c := Aside0.mk hc2
  clear hr2 hc2 hm2 w2
  have bw3 := Aside0.mk (Go.bounds_i64 w3)
  clear w3
  have h1 := bw0.out
  have h3 := bw3.out
  obtain ⟨n, en⟩ : ∃ n : Int, n = if a0 < 0 then -(a0 + 1) else a0 := ⟨_, rfl⟩
  have n0 : 0 ≤ n := by rw [en]; split <;> omega
  have n1 : n ≤ 9223372036854775807 := by rw [en]; split <;> omega
  obtain ⟨m, em⟩ : ∃ n : Int, n = if a3 < 0 then -(a3 + 1) else a3 := ⟨_, rfl⟩
  have m0 : 0 ≤ m := by rw [em]; split <;> omega
  have m1 : m ≤ 9223372036854775807 := by rw [em]; split <;> omega
  obtain ⟨t, et⟩ : ∃ v, v = l1.take 300 := ⟨_, rfl⟩
  have ht : t.length ≤ 300 := by rw [et, List.length_take]; omega
  have ft := Aside0.mk (show liverylaw03_few.f l1 300 = some t by rw [et]; exact few3_eq l1 300)
  obtain ⟨z, ez⟩ : ∃ v, v = l2.take 50 := ⟨_, rfl⟩
  have hz : z.length ≤ 50 := by rw [ez, List.length_take]; omega
  have fz := Aside0.mk (show liverylaw03_few.f l2 50 = some z by rw [ez]; exact few3_eq l2 50)
  have hzb : okB z = true := okB_of fun x hx => Go.bounds_u8 (hw2 x (List.mem_of_mem_take (ez ▸ hx)))
  obtain ⟨s, es⟩ : ∃ s, s = strOfNums t := ⟨_, rfl⟩
  have hs : s.size ≤ 300 := by rw [es, strOfNums_size]; exact ht
  have b1 := numB_length n n1
  have b2 := numB_length (s.size : Int) (by omega)
  have p1 := prog_Number [] n (by decide) n1
  rw [List.nil_append] at p1
  have p2 := prog_Text (numB n) s (by omega)
  obtain ⟨r1, r2⟩ := read_back n s z n0 n1 hs (by omega) hzb
  have hB : 2 ≤ (numB n ++ textB s).length ∧ (numB n ++ textB s).length ≤ 1000 := by simp only [List.length_append, textB, bytesOf_length, numB, List.length_cons] at *; omega
  obtain ⟨q, eq⟩ : ∃ q : Nat, q = (m % ((numB n ++ textB s).length : Int)).toNat := ⟨_, rfl⟩
  have hq : q < (numB n ++ textB s).length := by rw [eq]; have := Int.emod_lt_of_pos m (show (0 : Int) < ((numB n ++ textB s).length : Int) by omega); have := Int.emod_nonneg m (show ((numB n ++ textB s).length : Int) ≠ 0 by omega); omega
  have e64 : m % ((numB n ++ textB s).length : Int) = (q : Int) := by rw [eq]; have := Int.emod_nonneg m (show ((numB n ++ textB s).length : Int) ≠ 0 by omega); omega
  obtain ⟨x1, x2, x3, x4, x5, c1, c2⟩ := read_cut n s q n0 n1 hs hq
  obtain ⟨N, eN⟩ : ∃ N, N = numB n := ⟨_, rfl⟩
  obtain ⟨B, eB⟩ : ∃ B, B = numB n ++ textB s := ⟨_, rfl⟩
  rw [← eB] at p2 r1 r2 hB hq e64 c1 c2
  rw [← eN] at p1 p2 r1 r2
  have hNl : (numB n).length ≤ 9 := b1
  rw [← eN] at hNl
  have hqt : (B.take q).length = q := by rw [List.length_take]; omega
  have hrem : Int.tmod m (B.length : Int) = (q : Int) := by rw [Int.tmod_eq_emod_of_nonneg m0]; exact e64
  obtain ⟨S, eS⟩ : ∃ S, S = B.take q := ⟨_, rfl⟩
  rw [← eS] at c1 c2 hqt
  rw [← hqt] at hrem hq eS e64
  have p1_ := Aside0.mk p1
  have p2_ := Aside0.mk p2
  have r1_ := Aside0.mk r1
  have r2_ := Aside0.mk r2
  have c1_ := Aside0.mk c1
  have c2_ := Aside0.mk c2
  have e64_ := Aside0.mk e64
  have hrem_ := Aside0.mk hrem
  have hB_ := Aside0.mk hB
  have hq_ := Aside0.mk hq
  have hz_ := Aside0.mk hz
  have en_ := Aside0.mk en
  have em_ := Aside0.mk em
  have es_ := Aside0.mk es
  have eS_ := Aside0.mk eS
  clear p1 p2 r1 r2 c1 c2 e64 hrem hB hq hqt hz en em es eS eN eB eq hNl b1 b2 hs hzb ez et ht n0 n1 m0 m1 h1 h3 hw1 hw2 y1 y2
  by_cases c0 : a0 < 0
  · by_cases c3 : a3 < 0
    · skip
      have en : n = -(a0 + 1) := by rw [en_.out]; simp [c0]
      have em : m = -(a3 + 1) := by rw [em_.out]; simp [c3]
      clear en_ em_
      have en0 : wrap64 (a0 + 1) = a0 + 1 := w64 (by have := bw0.out; omega) (by have := bw0.out; omega)
      have en1 : wrap64 (-(a0 + 1)) = n := by rw [en]; exact w64 (by have := bw0.out; omega) (by have := bw0.out; omega)
      clear en
      have em0 : wrap64 (a3 + 1) = a3 + 1 := w64 (by have := bw3.out; omega) (by have := bw3.out; omega)
      have em1 : wrap64 (-(a3 + 1)) = m := by rw [em]; exact w64 (by have := bw3.out; omega) (by have := bw3.out; omega)
      clear em
      have c0b : decide (a0 < 0) = true := decide_eq_true c0
      have c3b : decide (a3 < 0) = true := decide_eq_true c3
      clear c0 c3 bw0 bw3
      go_enter Try.func10, Try.ntmps10
      have HB := Aside0.mk (Below.refl w.heap.size w)
      go_wp2_with fail
      refine (few3_C a1 cap1 l1 (300) t w (L1.out) L1c.out ft.out).mono ?_
      rintro e w1 ⟨v1, rfl, hv1, hb1⟩
      have HD : Aside0 (Below w.heap.size w w1) := ⟨below_step (Below.refl _ _) hb1⟩
      clear hb1
      have L1_ := Aside0.mk (Kd.C_below L1.out HD.out)
      clear L1
      have L1 := L1_
      clear L1_
      have L2_ := Aside0.mk (Kd.C_below L2.out HD.out)
      clear L2
      have L2 := L2_
      clear L2_
      have HB_ := Aside0.mk (below_step HB.out HD.out)
      clear HB HD
      have HB := HB_
      clear HB_
      obtain ⟨A1, c1, ev1⟩ := Kd.V_slice hv1
      subst ev1
      have TVc := Aside0.mk (Kd.V_reads' hv1).2.1
      have TV := Aside0.mk (Kd.V_reads' hv1).2.2
      clear hv1
      go_wp2_with fail
      clear L1 L1c
      try rw [en0, en1]
      have HD : Aside0 (Below w1.heap.size w1 w1.drew) := ⟨below_drew1 (Below.refl _ _)⟩
      have L2_ := Aside0.mk (Kd.C_below L2.out HD.out)
      clear L2
      have L2 := L2_
      clear L2_
      have TV_ := Aside0.mk (Kd.C_below TV.out HD.out)
      clear TV
      have TV := TV_
      clear TV_
      have HB_ := Aside0.mk (below_step HB.out HD.out)
      clear HB HD
      have HB := HB_
      clear HB_
      refine start_ (n := 6) (S := fun w' => (convert 32 9 (.slice A1 t.length c1)).run Try.prog w' = .ok (.string s) w') (ds := []) #[false, false, false, false, false, false] (by kernel_rfl) rfl rfl ((by have h_ := Kd.C_string (P := Try.prog) (c := c1) Try.underlying32 Try.underlying5 Try.underlying9 TV.out; rw [← es_.out] at h_; exact h_)) (fun hHeld => ?_)
      generalize w1.drew = wd2 at *
      refine pure_ (i := 0) (N := some 27) (v := ?_) (a' := ?_) #[true, false, false, false, false, false] rfl rfl (by kernel_rfl) (fun _ _ _ h => h) (Or.inl ⟨by rfl, ?_⟩) ?_ ?_
      rotate_left
      · intro w'
        go_simp
        with_reducible rfl
      rotate_left
      · simp only [Act.put, List.setIfInBounds_toArray, List.set_cons_zero, List.set_cons_succ, i64_w, i32_w]
        rfl
      refine pure_ (i := 2) (N := some 29) (v := ?_) (a' := ?_) #[true, false, true, false, false, false] rfl rfl (by kernel_rfl) (fun _ _ _ h => h) (Or.inl ⟨by rfl, ?_⟩) ?_ ?_
      rotate_left
      · intro w'
        go_simp
        with_reducible rfl
      rotate_left
      · simp only [Act.put, List.setIfInBounds_toArray, List.set_cons_zero, List.set_cons_succ, i64_w, i32_w]
        rfl
      refine take_ (i := 3) (N := some 30) (v := ?_) (a' := ?_) #[true, false, true, true, false, false] rfl rfl (by kernel_rfl) (fun _ _ _ h => h) (Or.inl ⟨by rfl, ?_⟩) hHeld ?_ ?_
      rotate_left
      · intro w' s0
        go_simp
        with_reducible rfl
      rotate_left
      · simp only [Act.put, List.setIfInBounds_toArray, List.set_cons_zero, List.set_cons_succ, i64_w, i32_w]
        rfl
      refine one_ (i := 1) (N := some 28) #[true, true, true, true, false, false] rfl rfl (by kernel_rfl) (by decide) (fun K hK => ?_)
      refine goes_ Try.func34 (by kernel_rfl) rfl #[.slice none 0 0, .int .i64 (n)] (by rfl) rfl rfl (by simp only [List.map_toArray, List.map_cons, List.map_nil]; rfl) ?_
      refine (wire_Number.calls none 0 ([] : List Int) (n) N wd2 (Kd.C_nil _ _) (by decide) p1_.out).mono ?_
      rintro e w3 ⟨v3, rfl, hv3, hb3⟩
      have HD : Aside0 (Below wd2.heap.size wd2 w3) := ⟨below_step (Below.refl _ _) hb3⟩
      clear hb3
      have L2_ := Aside0.mk (Kd.C_below L2.out HD.out)
      clear L2
      have L2 := L2_
      clear L2_
      have TV_ := Aside0.mk (Kd.C_below TV.out HD.out)
      clear TV
      have TV := TV_
      clear TV_
      have HB_ := Aside0.mk (below_step HB.out HD.out)
      clear HB HD
      have HB := HB_
      clear HB_
      obtain ⟨A3, c3, ev3⟩ := Kd.R_slice hv3
      subst ev3
      have NBc := Aside0.mk (Kd.R_reads' hv3).2.1
      have NB := Aside0.mk (Kd.R_reads' hv3).2.2
      clear hv3
      refine ⟨_, rfl, ?_⟩
      refine hK.out _ _ ((by have h_ := Kd.C_string (P := Try.prog) (c := c1) Try.underlying32 Try.underlying5 Try.underlying9 TV.out; rw [← es_.out] at h_; exact h_)) (fun hHeld => ?_)
      clear hK K
      refine norm_ (a' := ?_) ?_ ?_
      rotate_left
      · show Act.put _ (some 28) _ = _
        simp only [Act.put, List.setIfInBounds_toArray, List.set_cons_zero, List.set_cons_succ, i64_w, i32_w]
        rfl
      refine one_ (i := 4) (N := some 31) #[true, true, true, true, true, false] rfl rfl (by kernel_rfl) (by decide) (fun K hK => ?_)
      refine goes_ Try.func36 (by kernel_rfl) rfl #[.slice A3 N.length c3, .string s] (by rfl) rfl rfl (by simp only [List.map_toArray, List.map_cons, List.map_nil]; rfl) ?_
      with_reducible refine (wire_Text.calls A3 c3 N (s) B w3 (NB.out) NBc.out p2_.out).mono ?_
      rintro e w4 ⟨v4, rfl, hv4, hb4⟩
      have HD : Aside0 (Below w3.heap.size w3 w4) := ⟨below_step (Below.refl _ _) hb4⟩
      clear hb4
      have L2_ := Aside0.mk (Kd.C_below L2.out HD.out)
      clear L2
      have L2 := L2_
      clear L2_
      have TV_ := Aside0.mk (Kd.C_below TV.out HD.out)
      clear TV
      have TV := TV_
      clear TV_
      have NB_ := Aside0.mk (Kd.C_below NB.out HD.out)
      clear NB
      have NB := NB_
      clear NB_
      have HB_ := Aside0.mk (below_step HB.out HD.out)
      clear HB HD
      have HB := HB_
      clear HB_
      obtain ⟨A4, c4, ev4⟩ := Kd.R_slice hv4
      subst ev4
      have BBc := Aside0.mk (Kd.R_reads' hv4).2.1
      have BB := Aside0.mk (Kd.R_reads' hv4).2.2
      clear hv4
      refine ⟨_, rfl, ?_⟩
      refine hK.out _ _ ((by have h_ := Kd.C_string (P := Try.prog) (c := c1) Try.underlying32 Try.underlying5 Try.underlying9 TV.out; rw [← es_.out] at h_; exact h_)) (fun hHeld => ?_)
      clear hK K
      refine norm_ (a' := ?_) ?_ ?_
      rotate_left
      · show Act.put _ (some 31) _ = _
        simp only [Act.put, List.setIfInBounds_toArray, List.set_cons_zero, List.set_cons_succ, i64_w, i32_w]
        rfl
      refine pure_ (i := 5) (N := some 9) (v := ?_) (a' := ?_) #[true, true, true, true, true, true] rfl rfl (by kernel_rfl) (fun _ _ _ h => h) (Or.inl ⟨by rfl, ?_⟩) ?_ ?_
      rotate_left
      · intro w'
        go_simp
        with_reducible rfl
      rotate_left
      · simp only [Act.put, List.setIfInBounds_toArray, List.set_cons_zero, List.set_cons_succ, i64_w, i32_w]
        rfl
      refine done_ (by kernel_rfl) ?_
      have hl2 : decide ((B.length : Int) < 2) = false := decide_eq_false (by have := hB_.out; omega)
      have hl3 : (B.length = 0) = False := eq_false (by have := hB_.out; omega)
      have hl4 : (B = []) = False := eq_false (by have := hB_.out; intro h; subst h; simp at this)
      have hrem := hrem_.out
      have hcut := hcut_to S.length A4 B.length c4 (by have := hq_.out; omega) BBc.out
      have SB := Aside0.mk (show (Kd.int .u8).C w4 A4 S.length S by have h_ := Kd.C_take (m := S.length) BB.out (by have := hq_.out; omega); rw [← eS_.out] at h_; exact h_)
      go_wp2_with fail
      clear hl2 hl3 hl4 hrem hcut en0 en1 em0 em1
      refine (wire_New.calls A4 c4 S w4 (SB.out) (by have := hq_.out; have := hB_.out; omega)).mono ?_
      rintro e w5 ⟨g5, rfl, hg5, hn5, hb5⟩
      have HD : Aside0 (Below w4.heap.size w4 w5) := ⟨below_step (Below.refl _ _) hb5⟩
      clear hb5
      have HG5 : Aside0 (w.heap.size ≤ g5) := ⟨by have := HB.out.size; (try simp at hg5); omega⟩
      have HX5 : Aside0 (w4.heap.size ≤ g5) := ⟨by (try simp at hg5); omega⟩
      clear hg5
      have L2_ := Aside0.mk (Kd.C_below L2.out HD.out)
      clear L2
      have L2 := L2_
      clear L2_
      have TV_ := Aside0.mk (Kd.C_below TV.out HD.out)
      clear TV
      have TV := TV_
      clear TV_
      have NB_ := Aside0.mk (Kd.C_below NB.out HD.out)
      clear NB
      have NB := NB_
      clear NB_
      have BB_ := Aside0.mk (Kd.C_below BB.out HD.out)
      clear BB
      have BB := BB_
      clear BB_
      have SB_ := Aside0.mk (Kd.C_below SB.out HD.out)
      clear SB
      have SB := SB_
      clear SB_
      have HB_ := Aside0.mk (below_step HB.out HD.out)
      clear HB HD
      have HB := HB_
      clear HB_
      have C1 := Aside0.mk hn5
      clear hn5
      clear SB
      have HD0 := Aside0.mk (Below.refl w5.heap.size w5)
      go_wp2_with (at_builtin; refine Kd.R_append_rows (Kd.int .u8) (w0 := w5) w5.heap.size rfl (.tmp 42) (.tmp 43) 32 5 (.int .u8 0) 1 rfl Try.underlying32 hinfo5 rfl (by decide) (by omega) (.slice none 0 0) ([] : List Int) B _ _ _ (fun _ => True) (fun _ => False) rfl rfl ?aO ?aR (fun _ _ h => h) (fun _ h => h.elim) (fun _ _ => trivial) ?aB ?aS ?aL ?_)
      case aO => exact Kd.R_nil _ _ _ _ _
      case aR => exact ((Kd.C_below BB.out HD0.out))
      case aB => exact HD0.out
      case aS => exact HD0.out.size
      case aL => (have := hB_.out; (try simp only [List.length_nil, List.length_append, Nat.zero_add]); omega)
      intro v6 w6 ho6 hb6 hg6 hat6
      have HD0_ := Aside0.mk hb6
      have ALL_ := Aside0.mk ho6
      clear ho6 hb6 hg6 hat6 HD0
      have HD0 := HD0_
      have ALL := ALL_
      clear HD0_ ALL_
      (try rw [List.nil_append] at ALL)
      go_wp2_with fail
      refine (few3_C a2 cap2 l2 (50) z w6 ((Kd.C_below L2.out HD0.out)) L2c.out fz.out).mono ?_
      rintro e w7 ⟨v7, rfl, hv7, hb7⟩
      have HD : Aside0 (Below w6.heap.size w6 w7) := ⟨below_step (Below.refl _ _) hb7⟩
      clear hb7
      have HD0_ := Aside0.mk (below_step HD0.out HD.out)
      clear HD0
      have HD0 := HD0_
      clear HD0_
      have ALL_ := Aside0.mk (Kd.R_below ALL.out HD.out)
      clear ALL
      have ALL := ALL_
      clear ALL_
      clear HD
      obtain ⟨A7, c7, ev7⟩ := Kd.V_slice hv7
      subst ev7
      have ZVc := Aside0.mk (Kd.V_reads' hv7).2.1
      have ZV := Aside0.mk (Kd.V_reads' hv7).2.2
      clear hv7
      go_wp2_with (at_builtin; refine Kd.R_append_rows (Kd.int .u8) (w0 := w5) w5.heap.size rfl (.tmp 45) (.tmp 47) 32 5 (.int .u8 0) 1 rfl Try.underlying32 hinfo5 rfl (by decide) (by omega) v6 B z _ _ _ (fun _ => True) (fun _ => False) rfl rfl ?aO ?aR (fun _ _ h => h) (fun _ h => h.elim) (fun _ _ => trivial) ?aB ?aS ?aL ?_)
      case aO => exact ALL.out
      case aR => exact (ZV.out)
      case aB => exact HD0.out
      case aS => exact HD0.out.size
      case aL => (have := hB_.out; have := hz_.out; (try simp only [List.length_nil, List.length_append, Nat.zero_add]); omega)
      intro v8 w8 ho8 hb8 hg8 hat8
      have HD0_ := Aside0.mk hb8
      have AZ_ := Aside0.mk ho8
      clear ho8 hb8 hg8 hat8 HD0 ALL
      have HD0 := HD0_
      have AZ := AZ_
      clear HD0_ AZ_
      clear ZV ZVc
      go_wp2_with fail
      have L2_ := Aside0.mk (Kd.C_below L2.out HD0.out)
      clear L2
      have L2 := L2_
      clear L2_
      have TV_ := Aside0.mk (Kd.C_below TV.out HD0.out)
      clear TV
      have TV := TV_
      clear TV_
      have NB_ := Aside0.mk (Kd.C_below NB.out HD0.out)
      clear NB
      have NB := NB_
      clear NB_
      have BB_ := Aside0.mk (Kd.C_below BB.out HD0.out)
      clear BB
      have BB := BB_
      clear BB_
      have C1_ := Aside0.mk (CurP.below C1.out HD0.out)
      clear C1
      have C1 := C1_
      clear C1_
      have HB_ := Aside0.mk (below_step HB.out HD0.out)
      clear HB HD0
      have HB := HB_
      clear HB_
      obtain ⟨AAZ, cAZ, eAZ⟩ := Kd.R_slice AZ.out
      subst eAZ
      have AZc := Aside0.mk (Kd.R_reads' AZ.out).2.1
      have AZ_ := Aside0.mk (Kd.R_reads' AZ.out).2.2
      clear AZ
      have AZ := AZ_
      clear AZ_
      clear L2 L2c
      have HLC1_C2 := Aside0.mk C1.out.lt
      refine (wire_New.calls AAZ cAZ (B ++ z) w8 (AZ.out) (by have := hB_.out; have := hz_.out; rw [List.length_append]; omega)).mono ?_
      rintro e w9 ⟨g9, rfl, hg9, hn9, hb9⟩
      have HD : Aside0 (Below w8.heap.size w8 w9) := ⟨below_step (Below.refl _ _) hb9⟩
      clear hb9
      have HG9 : Aside0 (w.heap.size ≤ g9) := ⟨by have := HB.out.size; (try simp at hg9); omega⟩
      have HX9 : Aside0 (w8.heap.size ≤ g9) := ⟨by (try simp at hg9); omega⟩
      clear hg9
      have TV_ := Aside0.mk (Kd.C_below TV.out HD.out)
      clear TV
      have TV := TV_
      clear TV_
      have NB_ := Aside0.mk (Kd.C_below NB.out HD.out)
      clear NB
      have NB := NB_
      clear NB_
      have BB_ := Aside0.mk (Kd.C_below BB.out HD.out)
      clear BB
      have BB := BB_
      clear BB_
      have C1_ := Aside0.mk (CurP.below C1.out HD.out)
      clear C1
      have C1 := C1_
      clear C1_
      have AZ_ := Aside0.mk (Kd.C_below AZ.out HD.out)
      clear AZ
      have AZ := AZ_
      clear AZ_
      have HB_ := Aside0.mk (below_step HB.out HD.out)
      clear HB HD
      have HB := HB_
      clear HB_
      have C2 := Aside0.mk hn9
      clear hn9
      go_wp2_with fail
      refine (CurP_Number C1.out (n) (n) (x1) (x2) (x3) c1_.out).mono ?_
      rintro e w10 ⟨rfl, hp10, hk10, hb10⟩
      have HK := Aside0.mk hk10
      have HD := Aside0.mk hb10
      have HS := Aside0.mk C1.out.blk
      have HN := Aside0.mk hp10
      clear hk10 hb10 hp10
      have TV_ := Aside0.mk (C_keep TV.out HS.out HK.out)
      clear TV
      have TV := TV_
      clear TV_
      have NB_ := Aside0.mk (C_keep NB.out HS.out HK.out)
      clear NB
      have NB := NB_
      clear NB_
      have BB_ := Aside0.mk (C_keep BB.out HS.out HK.out)
      clear BB
      have BB := BB_
      clear BB_
      have C1_ := Aside0.mk (HN.out)
      clear C1
      have C1 := C1_
      clear C1_
      have AZ_ := Aside0.mk (C_keep AZ.out HS.out HK.out)
      clear AZ
      have AZ := AZ_
      clear AZ_
      have C2_ := Aside0.mk (CurP.keep C2.out HS.out HK.out (by have := HLC1_C2.out; have := HX9.out; omega))
      clear C2
      have C2 := C2_
      clear C2_
      have HB_ := Aside0.mk (below_keep HB.out HD.out HG5.out)
      clear HB HD HK HS HN
      have HB := HB_
      clear HB_
      go_wp2_with fail
      refine (CurP_Text C1.out (300) (x4) (x5) (3) c2_.out).mono ?_
      rintro e w11 ⟨rfl, hp11, hk11, hb11⟩
      have HK := Aside0.mk hk11
      have HD := Aside0.mk hb11
      have HS := Aside0.mk C1.out.blk
      have HN := Aside0.mk hp11
      clear hk11 hb11 hp11
      have TV_ := Aside0.mk (C_keep TV.out HS.out HK.out)
      clear TV
      have TV := TV_
      clear TV_
      have NB_ := Aside0.mk (C_keep NB.out HS.out HK.out)
      clear NB
      have NB := NB_
      clear NB_
      have BB_ := Aside0.mk (C_keep BB.out HS.out HK.out)
      clear BB
      have BB := BB_
      clear BB_
      have C1_ := Aside0.mk (HN.out)
      clear C1
      have C1 := C1_
      clear C1_
      have AZ_ := Aside0.mk (C_keep AZ.out HS.out HK.out)
      clear AZ
      have AZ := AZ_
      clear AZ_
      have C2_ := Aside0.mk (CurP.keep C2.out HS.out HK.out (by have := HLC1_C2.out; have := HX9.out; omega))
      clear C2
      have C2 := C2_
      clear C2_
      have HB_ := Aside0.mk (below_keep HB.out HD.out HG5.out)
      clear HB HD HK HS HN
      have HB := HB_
      clear HB_
      go_wp2_with fail
      refine (CurP_Number C2.out (n) (n) (n) ((N.length : Int)) (0) r1_.out).mono ?_
      rintro e w12 ⟨rfl, hp12, hk12, hb12⟩
      have HK := Aside0.mk hk12
      have HD := Aside0.mk hb12
      have HS := Aside0.mk C2.out.blk
      have HN := Aside0.mk hp12
      clear hk12 hb12 hp12
      have TV_ := Aside0.mk (C_keep TV.out HS.out HK.out)
      clear TV
      have TV := TV_
      clear TV_
      have NB_ := Aside0.mk (C_keep NB.out HS.out HK.out)
      clear NB
      have NB := NB_
      clear NB_
      have BB_ := Aside0.mk (C_keep BB.out HS.out HK.out)
      clear BB
      have BB := BB_
      clear BB_
      have C1_ := Aside0.mk (CurP.keep C1.out HS.out HK.out (by have := HLC1_C2.out; have := HX9.out; omega))
      clear C1
      have C1 := C1_
      clear C1_
      have AZ_ := Aside0.mk (C_keep AZ.out HS.out HK.out)
      clear AZ
      have AZ := AZ_
      clear AZ_
      have C2_ := Aside0.mk (HN.out)
      clear C2
      have C2 := C2_
      clear C2_
      have HB_ := Aside0.mk (below_keep HB.out HD.out HG9.out)
      clear HB HD HK HS HN
      have HB := HB_
      clear HB_
      go_wp2_with fail
      refine (CurP_Text C2.out (300) (s) ((B.length : Int)) (0) r2_.out).mono ?_
      rintro e w13 ⟨rfl, hp13, hk13, hb13⟩
      have HK := Aside0.mk hk13
      have HD := Aside0.mk hb13
      have HS := Aside0.mk C2.out.blk
      have HN := Aside0.mk hp13
      clear hk13 hb13 hp13
      have TV_ := Aside0.mk (C_keep TV.out HS.out HK.out)
      clear TV
      have TV := TV_
      clear TV_
      have NB_ := Aside0.mk (C_keep NB.out HS.out HK.out)
      clear NB
      have NB := NB_
      clear NB_
      have BB_ := Aside0.mk (C_keep BB.out HS.out HK.out)
      clear BB
      have BB := BB_
      clear BB_
      have C1_ := Aside0.mk (CurP.keep C1.out HS.out HK.out (by have := HLC1_C2.out; have := HX9.out; omega))
      clear C1
      have C1 := C1_
      clear C1_
      have AZ_ := Aside0.mk (C_keep AZ.out HS.out HK.out)
      clear AZ
      have AZ := AZ_
      clear AZ_
      have C2_ := Aside0.mk (HN.out)
      clear C2
      have C2 := C2_
      clear C2_
      have HB_ := Aside0.mk (below_keep HB.out HD.out HG9.out)
      clear HB HD HK HS HN
      have HB := HB_
      clear HB_
      go_wp2_with fail
      refine (CurP_Err C1.out (3) (x5) (3) rfl).mono ?_
      rintro e w14 ⟨rfl, hp14, hk14, hb14⟩
      have HK := Aside0.mk hk14
      have HD := Aside0.mk hb14
      have HS := Aside0.mk C1.out.blk
      have HN := Aside0.mk hp14
      clear hk14 hb14 hp14
      have TV_ := Aside0.mk (C_keep TV.out HS.out HK.out)
      clear TV
      have TV := TV_
      clear TV_
      have NB_ := Aside0.mk (C_keep NB.out HS.out HK.out)
      clear NB
      have NB := NB_
      clear NB_
      have BB_ := Aside0.mk (C_keep BB.out HS.out HK.out)
      clear BB
      have BB := BB_
      clear BB_
      have C1_ := Aside0.mk (HN.out)
      clear C1
      have C1 := C1_
      clear C1_
      have AZ_ := Aside0.mk (C_keep AZ.out HS.out HK.out)
      clear AZ
      have AZ := AZ_
      clear AZ_
      have C2_ := Aside0.mk (CurP.keep C2.out HS.out HK.out (by have := HLC1_C2.out; have := HX9.out; omega))
      clear C2
      have C2 := C2_
      clear C2_
      have HB_ := Aside0.mk (below_keep HB.out HD.out HG5.out)
      clear HB HD HK HS HN
      have HB := HB_
      clear HB_
      have hcv := Kd.C_string (P := Try.prog) (c := c1) Try.underlying32 Try.underlying5 Try.underlying9 TV.out
      rw [← es_.out] at hcv
      go_wp2_with fail
      clear hcv
      refine (CurP_Err C2.out (0) ((B.length : Int)) (0) rfl).mono ?_
      rintro e w15 ⟨rfl, hp15, hk15, hb15⟩
      have HK := Aside0.mk hk15
      have HD := Aside0.mk hb15
      have HS := Aside0.mk C2.out.blk
      have HN := Aside0.mk hp15
      clear hk15 hb15 hp15
      have TV_ := Aside0.mk (C_keep TV.out HS.out HK.out)
      clear TV
      have TV := TV_
      clear TV_
      have NB_ := Aside0.mk (C_keep NB.out HS.out HK.out)
      clear NB
      have NB := NB_
      clear NB_
      have BB_ := Aside0.mk (C_keep BB.out HS.out HK.out)
      clear BB
      have BB := BB_
      clear BB_
      have C1_ := Aside0.mk (CurP.keep C1.out HS.out HK.out (by have := HLC1_C2.out; have := HX9.out; omega))
      clear C1
      have C1 := C1_
      clear C1_
      have AZ_ := Aside0.mk (C_keep AZ.out HS.out HK.out)
      clear AZ
      have AZ := AZ_
      clear AZ_
      have C2_ := Aside0.mk (HN.out)
      clear C2
      have C2 := C2_
      clear C2_
      have HB_ := Aside0.mk (below_keep HB.out HD.out HG9.out)
      clear HB HD HK HS HN
      have HB := HB_
      clear HB_
      go_wp2_with fail
      refine (CurP_Place C2.out ((B.length : Int)) ((B.length : Int)) (0) rfl).mono ?_
      rintro e w16 ⟨rfl, hp16, hk16, hb16⟩
      have HK := Aside0.mk hk16
      have HD := Aside0.mk hb16
      have HS := Aside0.mk C2.out.blk
      have HN := Aside0.mk hp16
      clear hk16 hb16 hp16
      have TV_ := Aside0.mk (C_keep TV.out HS.out HK.out)
      clear TV
      have TV := TV_
      clear TV_
      have NB_ := Aside0.mk (C_keep NB.out HS.out HK.out)
      clear NB
      have NB := NB_
      clear NB_
      have BB_ := Aside0.mk (C_keep BB.out HS.out HK.out)
      clear BB
      have BB := BB_
      clear BB_
      have C1_ := Aside0.mk (CurP.keep C1.out HS.out HK.out (by have := HLC1_C2.out; have := HX9.out; omega))
      clear C1
      have C1 := C1_
      clear C1_
      have AZ_ := Aside0.mk (C_keep AZ.out HS.out HK.out)
      clear AZ
      have AZ := AZ_
      clear AZ_
      have C2_ := Aside0.mk (HN.out)
      clear C2
      have C2 := C2_
      clear C2_
      have HB_ := Aside0.mk (below_keep HB.out HD.out HG9.out)
      clear HB HD HK HS HN
      have HB := HB_
      clear HB_
      go_wp2_with fail
      refine (liverylaw03_lives.calls (true) w16  rfl).mono ?_
      rintro e w17 ⟨rfl, hb17⟩
      have HD : Aside0 (Below w16.heap.size w16 w17) := ⟨below_step (Below.refl _ _) hb17⟩
      clear hb17
      have TV_ := Aside0.mk (Kd.C_below TV.out HD.out)
      clear TV
      have TV := TV_
      clear TV_
      have NB_ := Aside0.mk (Kd.C_below NB.out HD.out)
      clear NB
      have NB := NB_
      clear NB_
      have BB_ := Aside0.mk (Kd.C_below BB.out HD.out)
      clear BB
      have BB := BB_
      clear BB_
      have C1_ := Aside0.mk (CurP.below C1.out HD.out)
      clear C1
      have C1 := C1_
      clear C1_
      have AZ_ := Aside0.mk (Kd.C_below AZ.out HD.out)
      clear AZ
      have AZ := AZ_
      clear AZ_
      have C2_ := Aside0.mk (CurP.below C2.out HD.out)
      clear C2
      have C2 := C2_
      clear C2_
      have HB_ := Aside0.mk (below_step HB.out HD.out)
      clear HB HD
      have HB := HB_
      clear HB_
      go_wp2_with fail
      go_ret
      exact ⟨rfl, HB.out⟩
    · skip
      have en : n = -(a0 + 1) := by rw [en_.out]; simp [c0]
      have em : m = a3 := by rw [em_.out]; simp [c3]
      clear en_ em_
      have en0 : wrap64 (a0 + 1) = a0 + 1 := w64 (by have := bw0.out; omega) (by have := bw0.out; omega)
      have en1 : wrap64 (-(a0 + 1)) = n := by rw [en]; exact w64 (by have := bw0.out; omega) (by have := bw0.out; omega)
      clear en
      subst em
      have c0b : decide (a0 < 0) = true := decide_eq_true c0
      have c3b : decide (m < 0) = false := decide_eq_false c3
      clear c0 c3 bw0 bw3
      go_enter Try.func10, Try.ntmps10
      have HB := Aside0.mk (Below.refl w.heap.size w)
      go_wp2_with fail
      refine (few3_C a1 cap1 l1 (300) t w (L1.out) L1c.out ft.out).mono ?_
      rintro e w1 ⟨v1, rfl, hv1, hb1⟩
      have HD : Aside0 (Below w.heap.size w w1) := ⟨below_step (Below.refl _ _) hb1⟩
      clear hb1
      have L1_ := Aside0.mk (Kd.C_below L1.out HD.out)
      clear L1
      have L1 := L1_
      clear L1_
      have L2_ := Aside0.mk (Kd.C_below L2.out HD.out)
      clear L2
      have L2 := L2_
      clear L2_
      have HB_ := Aside0.mk (below_step HB.out HD.out)
      clear HB HD
      have HB := HB_
      clear HB_
      obtain ⟨A1, c1, ev1⟩ := Kd.V_slice hv1
      subst ev1
      have TVc := Aside0.mk (Kd.V_reads' hv1).2.1
      have TV := Aside0.mk (Kd.V_reads' hv1).2.2
      clear hv1
      go_wp2_with fail
      clear L1 L1c
      try rw [en0, en1]
      have HD : Aside0 (Below w1.heap.size w1 w1.drew) := ⟨below_drew1 (Below.refl _ _)⟩
      have L2_ := Aside0.mk (Kd.C_below L2.out HD.out)
      clear L2
      have L2 := L2_
      clear L2_
      have TV_ := Aside0.mk (Kd.C_below TV.out HD.out)
      clear TV
      have TV := TV_
      clear TV_
      have HB_ := Aside0.mk (below_step HB.out HD.out)
      clear HB HD
      have HB := HB_
      clear HB_
      refine start_ (n := 6) (S := fun w' => (convert 32 9 (.slice A1 t.length c1)).run Try.prog w' = .ok (.string s) w') (ds := []) #[false, false, false, false, false, false] (by kernel_rfl) rfl rfl ((by have h_ := Kd.C_string (P := Try.prog) (c := c1) Try.underlying32 Try.underlying5 Try.underlying9 TV.out; rw [← es_.out] at h_; exact h_)) (fun hHeld => ?_)
      generalize w1.drew = wd2 at *
      refine pure_ (i := 0) (N := some 27) (v := ?_) (a' := ?_) #[true, false, false, false, false, false] rfl rfl (by kernel_rfl) (fun _ _ _ h => h) (Or.inl ⟨by rfl, ?_⟩) ?_ ?_
      rotate_left
      · intro w'
        go_simp
        with_reducible rfl
      rotate_left
      · simp only [Act.put, List.setIfInBounds_toArray, List.set_cons_zero, List.set_cons_succ, i64_w, i32_w]
        rfl
      refine pure_ (i := 2) (N := some 29) (v := ?_) (a' := ?_) #[true, false, true, false, false, false] rfl rfl (by kernel_rfl) (fun _ _ _ h => h) (Or.inl ⟨by rfl, ?_⟩) ?_ ?_
      rotate_left
      · intro w'
        go_simp
        with_reducible rfl
      rotate_left
      · simp only [Act.put, List.setIfInBounds_toArray, List.set_cons_zero, List.set_cons_succ, i64_w, i32_w]
        rfl
      refine take_ (i := 3) (N := some 30) (v := ?_) (a' := ?_) #[true, false, true, true, false, false] rfl rfl (by kernel_rfl) (fun _ _ _ h => h) (Or.inl ⟨by rfl, ?_⟩) hHeld ?_ ?_
      rotate_left
      · intro w' s0
        go_simp
        with_reducible rfl
      rotate_left
      · simp only [Act.put, List.setIfInBounds_toArray, List.set_cons_zero, List.set_cons_succ, i64_w, i32_w]
        rfl
      refine one_ (i := 1) (N := some 28) #[true, true, true, true, false, false] rfl rfl (by kernel_rfl) (by decide) (fun K hK => ?_)
      refine goes_ Try.func34 (by kernel_rfl) rfl #[.slice none 0 0, .int .i64 (n)] (by rfl) rfl rfl (by simp only [List.map_toArray, List.map_cons, List.map_nil]; rfl) ?_
      refine (wire_Number.calls none 0 ([] : List Int) (n) N wd2 (Kd.C_nil _ _) (by decide) p1_.out).mono ?_
      rintro e w3 ⟨v3, rfl, hv3, hb3⟩
      have HD : Aside0 (Below wd2.heap.size wd2 w3) := ⟨below_step (Below.refl _ _) hb3⟩
      clear hb3
      have L2_ := Aside0.mk (Kd.C_below L2.out HD.out)
      clear L2
      have L2 := L2_
      clear L2_
      have TV_ := Aside0.mk (Kd.C_below TV.out HD.out)
      clear TV
      have TV := TV_
      clear TV_
      have HB_ := Aside0.mk (below_step HB.out HD.out)
      clear HB HD
      have HB := HB_
      clear HB_
      obtain ⟨A3, c3, ev3⟩ := Kd.R_slice hv3
      subst ev3
      have NBc := Aside0.mk (Kd.R_reads' hv3).2.1
      have NB := Aside0.mk (Kd.R_reads' hv3).2.2
      clear hv3
      refine ⟨_, rfl, ?_⟩
      refine hK.out _ _ ((by have h_ := Kd.C_string (P := Try.prog) (c := c1) Try.underlying32 Try.underlying5 Try.underlying9 TV.out; rw [← es_.out] at h_; exact h_)) (fun hHeld => ?_)
      clear hK K
      refine norm_ (a' := ?_) ?_ ?_
      rotate_left
      · show Act.put _ (some 28) _ = _
        simp only [Act.put, List.setIfInBounds_toArray, List.set_cons_zero, List.set_cons_succ, i64_w, i32_w]
        rfl
      refine one_ (i := 4) (N := some 31) #[true, true, true, true, true, false] rfl rfl (by kernel_rfl) (by decide) (fun K hK => ?_)
      refine goes_ Try.func36 (by kernel_rfl) rfl #[.slice A3 N.length c3, .string s] (by rfl) rfl rfl (by simp only [List.map_toArray, List.map_cons, List.map_nil]; rfl) ?_
      with_reducible refine (wire_Text.calls A3 c3 N (s) B w3 (NB.out) NBc.out p2_.out).mono ?_
      rintro e w4 ⟨v4, rfl, hv4, hb4⟩
      have HD : Aside0 (Below w3.heap.size w3 w4) := ⟨below_step (Below.refl _ _) hb4⟩
      clear hb4
      have L2_ := Aside0.mk (Kd.C_below L2.out HD.out)
      clear L2
      have L2 := L2_
      clear L2_
      have TV_ := Aside0.mk (Kd.C_below TV.out HD.out)
      clear TV
      have TV := TV_
      clear TV_
      have NB_ := Aside0.mk (Kd.C_below NB.out HD.out)
      clear NB
      have NB := NB_
      clear NB_
      have HB_ := Aside0.mk (below_step HB.out HD.out)
      clear HB HD
      have HB := HB_
      clear HB_
      obtain ⟨A4, c4, ev4⟩ := Kd.R_slice hv4
      subst ev4
      have BBc := Aside0.mk (Kd.R_reads' hv4).2.1
      have BB := Aside0.mk (Kd.R_reads' hv4).2.2
      clear hv4
      refine ⟨_, rfl, ?_⟩
      refine hK.out _ _ ((by have h_ := Kd.C_string (P := Try.prog) (c := c1) Try.underlying32 Try.underlying5 Try.underlying9 TV.out; rw [← es_.out] at h_; exact h_)) (fun hHeld => ?_)
      clear hK K
      refine norm_ (a' := ?_) ?_ ?_
      rotate_left
      · show Act.put _ (some 31) _ = _
        simp only [Act.put, List.setIfInBounds_toArray, List.set_cons_zero, List.set_cons_succ, i64_w, i32_w]
        rfl
      refine pure_ (i := 5) (N := some 9) (v := ?_) (a' := ?_) #[true, true, true, true, true, true] rfl rfl (by kernel_rfl) (fun _ _ _ h => h) (Or.inl ⟨by rfl, ?_⟩) ?_ ?_
      rotate_left
      · intro w'
        go_simp
        with_reducible rfl
      rotate_left
      · simp only [Act.put, List.setIfInBounds_toArray, List.set_cons_zero, List.set_cons_succ, i64_w, i32_w]
        rfl
      refine done_ (by kernel_rfl) ?_
      have hl2 : decide ((B.length : Int) < 2) = false := decide_eq_false (by have := hB_.out; omega)
      have hl3 : (B.length = 0) = False := eq_false (by have := hB_.out; omega)
      have hl4 : (B = []) = False := eq_false (by have := hB_.out; intro h; subst h; simp at this)
      have hrem := hrem_.out
      have hcut := hcut_to S.length A4 B.length c4 (by have := hq_.out; omega) BBc.out
      have SB := Aside0.mk (show (Kd.int .u8).C w4 A4 S.length S by have h_ := Kd.C_take (m := S.length) BB.out (by have := hq_.out; omega); rw [← eS_.out] at h_; exact h_)
      go_wp2_with fail
      clear hl2 hl3 hl4 hrem hcut
      refine (wire_New.calls A4 c4 S w4 (SB.out) (by have := hq_.out; have := hB_.out; omega)).mono ?_
      rintro e w5 ⟨g5, rfl, hg5, hn5, hb5⟩
      have HD : Aside0 (Below w4.heap.size w4 w5) := ⟨below_step (Below.refl _ _) hb5⟩
      clear hb5
      have HG5 : Aside0 (w.heap.size ≤ g5) := ⟨by have := HB.out.size; (try simp at hg5); omega⟩
      have HX5 : Aside0 (w4.heap.size ≤ g5) := ⟨by (try simp at hg5); omega⟩
      clear hg5
      have L2_ := Aside0.mk (Kd.C_below L2.out HD.out)
      clear L2
      have L2 := L2_
      clear L2_
      have TV_ := Aside0.mk (Kd.C_below TV.out HD.out)
      clear TV
      have TV := TV_
      clear TV_
      have NB_ := Aside0.mk (Kd.C_below NB.out HD.out)
      clear NB
      have NB := NB_
      clear NB_
      have BB_ := Aside0.mk (Kd.C_below BB.out HD.out)
      clear BB
      have BB := BB_
      clear BB_
      have SB_ := Aside0.mk (Kd.C_below SB.out HD.out)
      clear SB
      have SB := SB_
      clear SB_
      have HB_ := Aside0.mk (below_step HB.out HD.out)
      clear HB HD
      have HB := HB_
      clear HB_
      have C1 := Aside0.mk hn5
      clear hn5
      clear SB
      have HD0 := Aside0.mk (Below.refl w5.heap.size w5)
      go_wp2_with (at_builtin; refine Kd.R_append_rows (Kd.int .u8) (w0 := w5) w5.heap.size rfl (.tmp 42) (.tmp 43) 32 5 (.int .u8 0) 1 rfl Try.underlying32 hinfo5 rfl (by decide) (by omega) (.slice none 0 0) ([] : List Int) B _ _ _ (fun _ => True) (fun _ => False) rfl rfl ?aO ?aR (fun _ _ h => h) (fun _ h => h.elim) (fun _ _ => trivial) ?aB ?aS ?aL ?_)
      case aO => exact Kd.R_nil _ _ _ _ _
      case aR => exact ((Kd.C_below BB.out HD0.out))
      case aB => exact HD0.out
      case aS => exact HD0.out.size
      case aL => (have := hB_.out; (try simp only [List.length_nil, List.length_append, Nat.zero_add]); omega)
      intro v6 w6 ho6 hb6 hg6 hat6
      have HD0_ := Aside0.mk hb6
      have ALL_ := Aside0.mk ho6
      clear ho6 hb6 hg6 hat6 HD0
      have HD0 := HD0_
      have ALL := ALL_
      clear HD0_ ALL_
      (try rw [List.nil_append] at ALL)
      go_wp2_with fail
      refine (few3_C a2 cap2 l2 (50) z w6 ((Kd.C_below L2.out HD0.out)) L2c.out fz.out).mono ?_
      rintro e w7 ⟨v7, rfl, hv7, hb7⟩
      have HD : Aside0 (Below w6.heap.size w6 w7) := ⟨below_step (Below.refl _ _) hb7⟩
      clear hb7
      have HD0_ := Aside0.mk (below_step HD0.out HD.out)
      clear HD0
      have HD0 := HD0_
      clear HD0_
      have ALL_ := Aside0.mk (Kd.R_below ALL.out HD.out)
      clear ALL
      have ALL := ALL_
      clear ALL_
      clear HD
      obtain ⟨A7, c7, ev7⟩ := Kd.V_slice hv7
      subst ev7
      have ZVc := Aside0.mk (Kd.V_reads' hv7).2.1
      have ZV := Aside0.mk (Kd.V_reads' hv7).2.2
      clear hv7
      go_wp2_with (at_builtin; refine Kd.R_append_rows (Kd.int .u8) (w0 := w5) w5.heap.size rfl (.tmp 45) (.tmp 47) 32 5 (.int .u8 0) 1 rfl Try.underlying32 hinfo5 rfl (by decide) (by omega) v6 B z _ _ _ (fun _ => True) (fun _ => False) rfl rfl ?aO ?aR (fun _ _ h => h) (fun _ h => h.elim) (fun _ _ => trivial) ?aB ?aS ?aL ?_)
      case aO => exact ALL.out
      case aR => exact (ZV.out)
      case aB => exact HD0.out
      case aS => exact HD0.out.size
      case aL => (have := hB_.out; have := hz_.out; (try simp only [List.length_nil, List.length_append, Nat.zero_add]); omega)
      intro v8 w8 ho8 hb8 hg8 hat8
      have HD0_ := Aside0.mk hb8
      have AZ_ := Aside0.mk ho8
      clear ho8 hb8 hg8 hat8 HD0 ALL
      have HD0 := HD0_
      have AZ := AZ_
      clear HD0_ AZ_
      clear ZV ZVc
      go_wp2_with fail
      have L2_ := Aside0.mk (Kd.C_below L2.out HD0.out)
      clear L2
      have L2 := L2_
      clear L2_
      have TV_ := Aside0.mk (Kd.C_below TV.out HD0.out)
      clear TV
      have TV := TV_
      clear TV_
      have NB_ := Aside0.mk (Kd.C_below NB.out HD0.out)
      clear NB
      have NB := NB_
      clear NB_
      have BB_ := Aside0.mk (Kd.C_below BB.out HD0.out)
      clear BB
      have BB := BB_
      clear BB_
      have C1_ := Aside0.mk (CurP.below C1.out HD0.out)
      clear C1
      have C1 := C1_
      clear C1_
      have HB_ := Aside0.mk (below_step HB.out HD0.out)
      clear HB HD0
      have HB := HB_
      clear HB_
      obtain ⟨AAZ, cAZ, eAZ⟩ := Kd.R_slice AZ.out
      subst eAZ
      have AZc := Aside0.mk (Kd.R_reads' AZ.out).2.1
      have AZ_ := Aside0.mk (Kd.R_reads' AZ.out).2.2
      clear AZ
      have AZ := AZ_
      clear AZ_
      clear L2 L2c
      have HLC1_C2 := Aside0.mk C1.out.lt
      refine (wire_New.calls AAZ cAZ (B ++ z) w8 (AZ.out) (by have := hB_.out; have := hz_.out; rw [List.length_append]; omega)).mono ?_
      rintro e w9 ⟨g9, rfl, hg9, hn9, hb9⟩
      have HD : Aside0 (Below w8.heap.size w8 w9) := ⟨below_step (Below.refl _ _) hb9⟩
      clear hb9
      have HG9 : Aside0 (w.heap.size ≤ g9) := ⟨by have := HB.out.size; (try simp at hg9); omega⟩
      have HX9 : Aside0 (w8.heap.size ≤ g9) := ⟨by (try simp at hg9); omega⟩
      clear hg9
      have TV_ := Aside0.mk (Kd.C_below TV.out HD.out)
      clear TV
      have TV := TV_
      clear TV_
      have NB_ := Aside0.mk (Kd.C_below NB.out HD.out)
      clear NB
      have NB := NB_
      clear NB_
      have BB_ := Aside0.mk (Kd.C_below BB.out HD.out)
      clear BB
      have BB := BB_
      clear BB_
      have C1_ := Aside0.mk (CurP.below C1.out HD.out)
      clear C1
      have C1 := C1_
      clear C1_
      have AZ_ := Aside0.mk (Kd.C_below AZ.out HD.out)
      clear AZ
      have AZ := AZ_
      clear AZ_
      have HB_ := Aside0.mk (below_step HB.out HD.out)
      clear HB HD
      have HB := HB_
      clear HB_
      have C2 := Aside0.mk hn9
      clear hn9
      go_wp2_with fail
      refine (CurP_Number C1.out (n) (n) (x1) (x2) (x3) c1_.out).mono ?_
      rintro e w10 ⟨rfl, hp10, hk10, hb10⟩
      have HK := Aside0.mk hk10
      have HD := Aside0.mk hb10
      have HS := Aside0.mk C1.out.blk
      have HN := Aside0.mk hp10
      clear hk10 hb10 hp10
      have TV_ := Aside0.mk (C_keep TV.out HS.out HK.out)
      clear TV
      have TV := TV_
      clear TV_
      have NB_ := Aside0.mk (C_keep NB.out HS.out HK.out)
      clear NB
      have NB := NB_
      clear NB_
      have BB_ := Aside0.mk (C_keep BB.out HS.out HK.out)
      clear BB
      have BB := BB_
      clear BB_
      have C1_ := Aside0.mk (HN.out)
      clear C1
      have C1 := C1_
      clear C1_
      have AZ_ := Aside0.mk (C_keep AZ.out HS.out HK.out)
      clear AZ
      have AZ := AZ_
      clear AZ_
      have C2_ := Aside0.mk (CurP.keep C2.out HS.out HK.out (by have := HLC1_C2.out; have := HX9.out; omega))
      clear C2
      have C2 := C2_
      clear C2_
      have HB_ := Aside0.mk (below_keep HB.out HD.out HG5.out)
      clear HB HD HK HS HN
      have HB := HB_
      clear HB_
      go_wp2_with fail
      refine (CurP_Text C1.out (300) (x4) (x5) (3) c2_.out).mono ?_
      rintro e w11 ⟨rfl, hp11, hk11, hb11⟩
      have HK := Aside0.mk hk11
      have HD := Aside0.mk hb11
      have HS := Aside0.mk C1.out.blk
      have HN := Aside0.mk hp11
      clear hk11 hb11 hp11
      have TV_ := Aside0.mk (C_keep TV.out HS.out HK.out)
      clear TV
      have TV := TV_
      clear TV_
      have NB_ := Aside0.mk (C_keep NB.out HS.out HK.out)
      clear NB
      have NB := NB_
      clear NB_
      have BB_ := Aside0.mk (C_keep BB.out HS.out HK.out)
      clear BB
      have BB := BB_
      clear BB_
      have C1_ := Aside0.mk (HN.out)
      clear C1
      have C1 := C1_
      clear C1_
      have AZ_ := Aside0.mk (C_keep AZ.out HS.out HK.out)
      clear AZ
      have AZ := AZ_
      clear AZ_
      have C2_ := Aside0.mk (CurP.keep C2.out HS.out HK.out (by have := HLC1_C2.out; have := HX9.out; omega))
      clear C2
      have C2 := C2_
      clear C2_
      have HB_ := Aside0.mk (below_keep HB.out HD.out HG5.out)
      clear HB HD HK HS HN
      have HB := HB_
      clear HB_
      go_wp2_with fail
      refine (CurP_Number C2.out (n) (n) (n) ((N.length : Int)) (0) r1_.out).mono ?_
      rintro e w12 ⟨rfl, hp12, hk12, hb12⟩
      have HK := Aside0.mk hk12
      have HD := Aside0.mk hb12
      have HS := Aside0.mk C2.out.blk
      have HN := Aside0.mk hp12
      clear hk12 hb12 hp12
      have TV_ := Aside0.mk (C_keep TV.out HS.out HK.out)
      clear TV
      have TV := TV_
      clear TV_
      have NB_ := Aside0.mk (C_keep NB.out HS.out HK.out)
      clear NB
      have NB := NB_
      clear NB_
      have BB_ := Aside0.mk (C_keep BB.out HS.out HK.out)
      clear BB
      have BB := BB_
      clear BB_
      have C1_ := Aside0.mk (CurP.keep C1.out HS.out HK.out (by have := HLC1_C2.out; have := HX9.out; omega))
      clear C1
      have C1 := C1_
      clear C1_
      have AZ_ := Aside0.mk (C_keep AZ.out HS.out HK.out)
      clear AZ
      have AZ := AZ_
      clear AZ_
      have C2_ := Aside0.mk (HN.out)
      clear C2
      have C2 := C2_
      clear C2_
      have HB_ := Aside0.mk (below_keep HB.out HD.out HG9.out)
      clear HB HD HK HS HN
      have HB := HB_
      clear HB_
      go_wp2_with fail
      refine (CurP_Text C2.out (300) (s) ((B.length : Int)) (0) r2_.out).mono ?_
      rintro e w13 ⟨rfl, hp13, hk13, hb13⟩
      have HK := Aside0.mk hk13
      have HD := Aside0.mk hb13
      have HS := Aside0.mk C2.out.blk
      have HN := Aside0.mk hp13
      clear hk13 hb13 hp13
      have TV_ := Aside0.mk (C_keep TV.out HS.out HK.out)
      clear TV
      have TV := TV_
      clear TV_
      have NB_ := Aside0.mk (C_keep NB.out HS.out HK.out)
      clear NB
      have NB := NB_
      clear NB_
      have BB_ := Aside0.mk (C_keep BB.out HS.out HK.out)
      clear BB
      have BB := BB_
      clear BB_
      have C1_ := Aside0.mk (CurP.keep C1.out HS.out HK.out (by have := HLC1_C2.out; have := HX9.out; omega))
      clear C1
      have C1 := C1_
      clear C1_
      have AZ_ := Aside0.mk (C_keep AZ.out HS.out HK.out)
      clear AZ
      have AZ := AZ_
      clear AZ_
      have C2_ := Aside0.mk (HN.out)
      clear C2
      have C2 := C2_
      clear C2_
      have HB_ := Aside0.mk (below_keep HB.out HD.out HG9.out)
      clear HB HD HK HS HN
      have HB := HB_
      clear HB_
      go_wp2_with fail
      refine (CurP_Err C1.out (3) (x5) (3) rfl).mono ?_
      rintro e w14 ⟨rfl, hp14, hk14, hb14⟩
      have HK := Aside0.mk hk14
      have HD := Aside0.mk hb14
      have HS := Aside0.mk C1.out.blk
      have HN := Aside0.mk hp14
      clear hk14 hb14 hp14
      have TV_ := Aside0.mk (C_keep TV.out HS.out HK.out)
      clear TV
      have TV := TV_
      clear TV_
      have NB_ := Aside0.mk (C_keep NB.out HS.out HK.out)
      clear NB
      have NB := NB_
      clear NB_
      have BB_ := Aside0.mk (C_keep BB.out HS.out HK.out)
      clear BB
      have BB := BB_
      clear BB_
      have C1_ := Aside0.mk (HN.out)
      clear C1
      have C1 := C1_
      clear C1_
      have AZ_ := Aside0.mk (C_keep AZ.out HS.out HK.out)
      clear AZ
      have AZ := AZ_
      clear AZ_
      have C2_ := Aside0.mk (CurP.keep C2.out HS.out HK.out (by have := HLC1_C2.out; have := HX9.out; omega))
      clear C2
      have C2 := C2_
      clear C2_
      have HB_ := Aside0.mk (below_keep HB.out HD.out HG5.out)
      clear HB HD HK HS HN
      have HB := HB_
      clear HB_
      have hcv := Kd.C_string (P := Try.prog) (c := c1) Try.underlying32 Try.underlying5 Try.underlying9 TV.out
      rw [← es_.out] at hcv
      go_wp2_with fail
      clear hcv
      refine (CurP_Err C2.out (0) ((B.length : Int)) (0) rfl).mono ?_
      rintro e w15 ⟨rfl, hp15, hk15, hb15⟩
      have HK := Aside0.mk hk15
      have HD := Aside0.mk hb15
      have HS := Aside0.mk C2.out.blk
      have HN := Aside0.mk hp15
      clear hk15 hb15 hp15
      have TV_ := Aside0.mk (C_keep TV.out HS.out HK.out)
      clear TV
      have TV := TV_
      clear TV_
      have NB_ := Aside0.mk (C_keep NB.out HS.out HK.out)
      clear NB
      have NB := NB_
      clear NB_
      have BB_ := Aside0.mk (C_keep BB.out HS.out HK.out)
      clear BB
      have BB := BB_
      clear BB_
      have C1_ := Aside0.mk (CurP.keep C1.out HS.out HK.out (by have := HLC1_C2.out; have := HX9.out; omega))
      clear C1
      have C1 := C1_
      clear C1_
      have AZ_ := Aside0.mk (C_keep AZ.out HS.out HK.out)
      clear AZ
      have AZ := AZ_
      clear AZ_
      have C2_ := Aside0.mk (HN.out)
      clear C2
      have C2 := C2_
      clear C2_
      have HB_ := Aside0.mk (below_keep HB.out HD.out HG9.out)
      clear HB HD HK HS HN
      have HB := HB_
      clear HB_
      go_wp2_with fail
      refine (CurP_Place C2.out ((B.length : Int)) ((B.length : Int)) (0) rfl).mono ?_
      rintro e w16 ⟨rfl, hp16, hk16, hb16⟩
      have HK := Aside0.mk hk16
      have HD := Aside0.mk hb16
      have HS := Aside0.mk C2.out.blk
      have HN := Aside0.mk hp16
      clear hk16 hb16 hp16
      have TV_ := Aside0.mk (C_keep TV.out HS.out HK.out)
      clear TV
      have TV := TV_
      clear TV_
      have NB_ := Aside0.mk (C_keep NB.out HS.out HK.out)
      clear NB
      have NB := NB_
      clear NB_
      have BB_ := Aside0.mk (C_keep BB.out HS.out HK.out)
      clear BB
      have BB := BB_
      clear BB_
      have C1_ := Aside0.mk (CurP.keep C1.out HS.out HK.out (by have := HLC1_C2.out; have := HX9.out; omega))
      clear C1
      have C1 := C1_
      clear C1_
      have AZ_ := Aside0.mk (C_keep AZ.out HS.out HK.out)
      clear AZ
      have AZ := AZ_
      clear AZ_
      have C2_ := Aside0.mk (HN.out)
      clear C2
      have C2 := C2_
      clear C2_
      have HB_ := Aside0.mk (below_keep HB.out HD.out HG9.out)
      clear HB HD HK HS HN
      have HB := HB_
      clear HB_
      go_wp2_with fail
      refine (liverylaw03_lives.calls (true) w16  rfl).mono ?_
      rintro e w17 ⟨rfl, hb17⟩
      have HD : Aside0 (Below w16.heap.size w16 w17) := ⟨below_step (Below.refl _ _) hb17⟩
      clear hb17
      have TV_ := Aside0.mk (Kd.C_below TV.out HD.out)
      clear TV
      have TV := TV_
      clear TV_
      have NB_ := Aside0.mk (Kd.C_below NB.out HD.out)
      clear NB
      have NB := NB_
      clear NB_
      have BB_ := Aside0.mk (Kd.C_below BB.out HD.out)
      clear BB
      have BB := BB_
      clear BB_
      have C1_ := Aside0.mk (CurP.below C1.out HD.out)
      clear C1
      have C1 := C1_
      clear C1_
      have AZ_ := Aside0.mk (Kd.C_below AZ.out HD.out)
      clear AZ
      have AZ := AZ_
      clear AZ_
      have C2_ := Aside0.mk (CurP.below C2.out HD.out)
      clear C2
      have C2 := C2_
      clear C2_
      have HB_ := Aside0.mk (below_step HB.out HD.out)
      clear HB HD
      have HB := HB_
      clear HB_
      go_wp2_with fail
      go_ret
      exact ⟨rfl, HB.out⟩
  · by_cases c3 : a3 < 0
    · skip
      have en : n = a0 := by rw [en_.out]; simp [c0]
      have em : m = -(a3 + 1) := by rw [em_.out]; simp [c3]
      clear en_ em_
      subst en
      have em0 : wrap64 (a3 + 1) = a3 + 1 := w64 (by have := bw3.out; omega) (by have := bw3.out; omega)
      have em1 : wrap64 (-(a3 + 1)) = m := by rw [em]; exact w64 (by have := bw3.out; omega) (by have := bw3.out; omega)
      clear em
      have c0b : decide (n < 0) = false := decide_eq_false c0
      have c3b : decide (a3 < 0) = true := decide_eq_true c3
      clear c0 c3 bw0 bw3
      go_enter Try.func10, Try.ntmps10
      have HB := Aside0.mk (Below.refl w.heap.size w)
      go_wp2_with fail
      refine (few3_C a1 cap1 l1 (300) t w (L1.out) L1c.out ft.out).mono ?_
      rintro e w1 ⟨v1, rfl, hv1, hb1⟩
      have HD : Aside0 (Below w.heap.size w w1) := ⟨below_step (Below.refl _ _) hb1⟩
      clear hb1
      have L1_ := Aside0.mk (Kd.C_below L1.out HD.out)
      clear L1
      have L1 := L1_
      clear L1_
      have L2_ := Aside0.mk (Kd.C_below L2.out HD.out)
      clear L2
      have L2 := L2_
      clear L2_
      have HB_ := Aside0.mk (below_step HB.out HD.out)
      clear HB HD
      have HB := HB_
      clear HB_
      obtain ⟨A1, c1, ev1⟩ := Kd.V_slice hv1
      subst ev1
      have TVc := Aside0.mk (Kd.V_reads' hv1).2.1
      have TV := Aside0.mk (Kd.V_reads' hv1).2.2
      clear hv1
      go_wp2_with fail
      clear L1 L1c
      have HD : Aside0 (Below w1.heap.size w1 w1.drew) := ⟨below_drew1 (Below.refl _ _)⟩
      have L2_ := Aside0.mk (Kd.C_below L2.out HD.out)
      clear L2
      have L2 := L2_
      clear L2_
      have TV_ := Aside0.mk (Kd.C_below TV.out HD.out)
      clear TV
      have TV := TV_
      clear TV_
      have HB_ := Aside0.mk (below_step HB.out HD.out)
      clear HB HD
      have HB := HB_
      clear HB_
      refine start_ (n := 6) (S := fun w' => (convert 32 9 (.slice A1 t.length c1)).run Try.prog w' = .ok (.string s) w') (ds := []) #[false, false, false, false, false, false] (by kernel_rfl) rfl rfl ((by have h_ := Kd.C_string (P := Try.prog) (c := c1) Try.underlying32 Try.underlying5 Try.underlying9 TV.out; rw [← es_.out] at h_; exact h_)) (fun hHeld => ?_)
      generalize w1.drew = wd2 at *
      refine pure_ (i := 0) (N := some 27) (v := ?_) (a' := ?_) #[true, false, false, false, false, false] rfl rfl (by kernel_rfl) (fun _ _ _ h => h) (Or.inl ⟨by rfl, ?_⟩) ?_ ?_
      rotate_left
      · intro w'
        go_simp
        with_reducible rfl
      rotate_left
      · simp only [Act.put, List.setIfInBounds_toArray, List.set_cons_zero, List.set_cons_succ, i64_w, i32_w]
        rfl
      refine pure_ (i := 2) (N := some 29) (v := ?_) (a' := ?_) #[true, false, true, false, false, false] rfl rfl (by kernel_rfl) (fun _ _ _ h => h) (Or.inl ⟨by rfl, ?_⟩) ?_ ?_
      rotate_left
      · intro w'
        go_simp
        with_reducible rfl
      rotate_left
      · simp only [Act.put, List.setIfInBounds_toArray, List.set_cons_zero, List.set_cons_succ, i64_w, i32_w]
        rfl
      refine take_ (i := 3) (N := some 30) (v := ?_) (a' := ?_) #[true, false, true, true, false, false] rfl rfl (by kernel_rfl) (fun _ _ _ h => h) (Or.inl ⟨by rfl, ?_⟩) hHeld ?_ ?_
      rotate_left
      · intro w' s0
        go_simp
        with_reducible rfl
      rotate_left
      · simp only [Act.put, List.setIfInBounds_toArray, List.set_cons_zero, List.set_cons_succ, i64_w, i32_w]
        rfl
      refine one_ (i := 1) (N := some 28) #[true, true, true, true, false, false] rfl rfl (by kernel_rfl) (by decide) (fun K hK => ?_)
      refine goes_ Try.func34 (by kernel_rfl) rfl #[.slice none 0 0, .int .i64 (n)] (by rfl) rfl rfl (by simp only [List.map_toArray, List.map_cons, List.map_nil]; rfl) ?_
      refine (wire_Number.calls none 0 ([] : List Int) (n) N wd2 (Kd.C_nil _ _) (by decide) p1_.out).mono ?_
      rintro e w3 ⟨v3, rfl, hv3, hb3⟩
      have HD : Aside0 (Below wd2.heap.size wd2 w3) := ⟨below_step (Below.refl _ _) hb3⟩
      clear hb3
      have L2_ := Aside0.mk (Kd.C_below L2.out HD.out)
      clear L2
      have L2 := L2_
      clear L2_
      have TV_ := Aside0.mk (Kd.C_below TV.out HD.out)
      clear TV
      have TV := TV_
      clear TV_
      have HB_ := Aside0.mk (below_step HB.out HD.out)
      clear HB HD
      have HB := HB_
      clear HB_
      obtain ⟨A3, c3, ev3⟩ := Kd.R_slice hv3
      subst ev3
      have NBc := Aside0.mk (Kd.R_reads' hv3).2.1
      have NB := Aside0.mk (Kd.R_reads' hv3).2.2
      clear hv3
      refine ⟨_, rfl, ?_⟩
      refine hK.out _ _ ((by have h_ := Kd.C_string (P := Try.prog) (c := c1) Try.underlying32 Try.underlying5 Try.underlying9 TV.out; rw [← es_.out] at h_; exact h_)) (fun hHeld => ?_)
      clear hK K
      refine norm_ (a' := ?_) ?_ ?_
      rotate_left
      · show Act.put _ (some 28) _ = _
        simp only [Act.put, List.setIfInBounds_toArray, List.set_cons_zero, List.set_cons_succ, i64_w, i32_w]
        rfl
      refine one_ (i := 4) (N := some 31) #[true, true, true, true, true, false] rfl rfl (by kernel_rfl) (by decide) (fun K hK => ?_)
      refine goes_ Try.func36 (by kernel_rfl) rfl #[.slice A3 N.length c3, .string s] (by rfl) rfl rfl (by simp only [List.map_toArray, List.map_cons, List.map_nil]; rfl) ?_
      with_reducible refine (wire_Text.calls A3 c3 N (s) B w3 (NB.out) NBc.out p2_.out).mono ?_
      rintro e w4 ⟨v4, rfl, hv4, hb4⟩
      have HD : Aside0 (Below w3.heap.size w3 w4) := ⟨below_step (Below.refl _ _) hb4⟩
      clear hb4
      have L2_ := Aside0.mk (Kd.C_below L2.out HD.out)
      clear L2
      have L2 := L2_
      clear L2_
      have TV_ := Aside0.mk (Kd.C_below TV.out HD.out)
      clear TV
      have TV := TV_
      clear TV_
      have NB_ := Aside0.mk (Kd.C_below NB.out HD.out)
      clear NB
      have NB := NB_
      clear NB_
      have HB_ := Aside0.mk (below_step HB.out HD.out)
      clear HB HD
      have HB := HB_
      clear HB_
      obtain ⟨A4, c4, ev4⟩ := Kd.R_slice hv4
      subst ev4
      have BBc := Aside0.mk (Kd.R_reads' hv4).2.1
      have BB := Aside0.mk (Kd.R_reads' hv4).2.2
      clear hv4
      refine ⟨_, rfl, ?_⟩
      refine hK.out _ _ ((by have h_ := Kd.C_string (P := Try.prog) (c := c1) Try.underlying32 Try.underlying5 Try.underlying9 TV.out; rw [← es_.out] at h_; exact h_)) (fun hHeld => ?_)
      clear hK K
      refine norm_ (a' := ?_) ?_ ?_
      rotate_left
      · show Act.put _ (some 31) _ = _
        simp only [Act.put, List.setIfInBounds_toArray, List.set_cons_zero, List.set_cons_succ, i64_w, i32_w]
        rfl
      refine pure_ (i := 5) (N := some 9) (v := ?_) (a' := ?_) #[true, true, true, true, true, true] rfl rfl (by kernel_rfl) (fun _ _ _ h => h) (Or.inl ⟨by rfl, ?_⟩) ?_ ?_
      rotate_left
      · intro w'
        go_simp
        with_reducible rfl
      rotate_left
      · simp only [Act.put, List.setIfInBounds_toArray, List.set_cons_zero, List.set_cons_succ, i64_w, i32_w]
        rfl
      refine done_ (by kernel_rfl) ?_
      have hl2 : decide ((B.length : Int) < 2) = false := decide_eq_false (by have := hB_.out; omega)
      have hl3 : (B.length = 0) = False := eq_false (by have := hB_.out; omega)
      have hl4 : (B = []) = False := eq_false (by have := hB_.out; intro h; subst h; simp at this)
      have hrem := hrem_.out
      have hcut := hcut_to S.length A4 B.length c4 (by have := hq_.out; omega) BBc.out
      have SB := Aside0.mk (show (Kd.int .u8).C w4 A4 S.length S by have h_ := Kd.C_take (m := S.length) BB.out (by have := hq_.out; omega); rw [← eS_.out] at h_; exact h_)
      go_wp2_with fail
      clear hl2 hl3 hl4 hrem hcut
      refine (wire_New.calls A4 c4 S w4 (SB.out) (by have := hq_.out; have := hB_.out; omega)).mono ?_
      rintro e w5 ⟨g5, rfl, hg5, hn5, hb5⟩
      have HD : Aside0 (Below w4.heap.size w4 w5) := ⟨below_step (Below.refl _ _) hb5⟩
      clear hb5
      have HG5 : Aside0 (w.heap.size ≤ g5) := ⟨by have := HB.out.size; (try simp at hg5); omega⟩
      have HX5 : Aside0 (w4.heap.size ≤ g5) := ⟨by (try simp at hg5); omega⟩
      clear hg5
      have L2_ := Aside0.mk (Kd.C_below L2.out HD.out)
      clear L2
      have L2 := L2_
      clear L2_
      have TV_ := Aside0.mk (Kd.C_below TV.out HD.out)
      clear TV
      have TV := TV_
      clear TV_
      have NB_ := Aside0.mk (Kd.C_below NB.out HD.out)
      clear NB
      have NB := NB_
      clear NB_
      have BB_ := Aside0.mk (Kd.C_below BB.out HD.out)
      clear BB
      have BB := BB_
      clear BB_
      have SB_ := Aside0.mk (Kd.C_below SB.out HD.out)
      clear SB
      have SB := SB_
      clear SB_
      have HB_ := Aside0.mk (below_step HB.out HD.out)
      clear HB HD
      have HB := HB_
      clear HB_
      have C1 := Aside0.mk hn5
      clear hn5
      clear SB
      have HD0 := Aside0.mk (Below.refl w5.heap.size w5)
      go_wp2_with (at_builtin; refine Kd.R_append_rows (Kd.int .u8) (w0 := w5) w5.heap.size rfl (.tmp 42) (.tmp 43) 32 5 (.int .u8 0) 1 rfl Try.underlying32 hinfo5 rfl (by decide) (by omega) (.slice none 0 0) ([] : List Int) B _ _ _ (fun _ => True) (fun _ => False) rfl rfl ?aO ?aR (fun _ _ h => h) (fun _ h => h.elim) (fun _ _ => trivial) ?aB ?aS ?aL ?_)
      case aO => exact Kd.R_nil _ _ _ _ _
      case aR => exact ((Kd.C_below BB.out HD0.out))
      case aB => exact HD0.out
      case aS => exact HD0.out.size
      case aL => (have := hB_.out; (try simp only [List.length_nil, List.length_append, Nat.zero_add]); omega)
      intro v6 w6 ho6 hb6 hg6 hat6
      have HD0_ := Aside0.mk hb6
      have ALL_ := Aside0.mk ho6
      clear ho6 hb6 hg6 hat6 HD0
      have HD0 := HD0_
      have ALL := ALL_
      clear HD0_ ALL_
      (try rw [List.nil_append] at ALL)
      go_wp2_with fail
      refine (few3_C a2 cap2 l2 (50) z w6 ((Kd.C_below L2.out HD0.out)) L2c.out fz.out).mono ?_
      rintro e w7 ⟨v7, rfl, hv7, hb7⟩
      have HD : Aside0 (Below w6.heap.size w6 w7) := ⟨below_step (Below.refl _ _) hb7⟩
      clear hb7
      have HD0_ := Aside0.mk (below_step HD0.out HD.out)
      clear HD0
      have HD0 := HD0_
      clear HD0_
      have ALL_ := Aside0.mk (Kd.R_below ALL.out HD.out)
      clear ALL
      have ALL := ALL_
      clear ALL_
      clear HD
      obtain ⟨A7, c7, ev7⟩ := Kd.V_slice hv7
      subst ev7
      have ZVc := Aside0.mk (Kd.V_reads' hv7).2.1
      have ZV := Aside0.mk (Kd.V_reads' hv7).2.2
      clear hv7
      go_wp2_with (at_builtin; refine Kd.R_append_rows (Kd.int .u8) (w0 := w5) w5.heap.size rfl (.tmp 45) (.tmp 47) 32 5 (.int .u8 0) 1 rfl Try.underlying32 hinfo5 rfl (by decide) (by omega) v6 B z _ _ _ (fun _ => True) (fun _ => False) rfl rfl ?aO ?aR (fun _ _ h => h) (fun _ h => h.elim) (fun _ _ => trivial) ?aB ?aS ?aL ?_)
      case aO => exact ALL.out
      case aR => exact (ZV.out)
      case aB => exact HD0.out
      case aS => exact HD0.out.size
      case aL => (have := hB_.out; have := hz_.out; (try simp only [List.length_nil, List.length_append, Nat.zero_add]); omega)
      intro v8 w8 ho8 hb8 hg8 hat8
      have HD0_ := Aside0.mk hb8
      have AZ_ := Aside0.mk ho8
      clear ho8 hb8 hg8 hat8 HD0 ALL
      have HD0 := HD0_
      have AZ := AZ_
      clear HD0_ AZ_
      clear ZV ZVc
      go_wp2_with fail
      have L2_ := Aside0.mk (Kd.C_below L2.out HD0.out)
      clear L2
      have L2 := L2_
      clear L2_
      have TV_ := Aside0.mk (Kd.C_below TV.out HD0.out)
      clear TV
      have TV := TV_
      clear TV_
      have NB_ := Aside0.mk (Kd.C_below NB.out HD0.out)
      clear NB
      have NB := NB_
      clear NB_
      have BB_ := Aside0.mk (Kd.C_below BB.out HD0.out)
      clear BB
      have BB := BB_
      clear BB_
      have C1_ := Aside0.mk (CurP.below C1.out HD0.out)
      clear C1
      have C1 := C1_
      clear C1_
      have HB_ := Aside0.mk (below_step HB.out HD0.out)
      clear HB HD0
      have HB := HB_
      clear HB_
      obtain ⟨AAZ, cAZ, eAZ⟩ := Kd.R_slice AZ.out
      subst eAZ
      have AZc := Aside0.mk (Kd.R_reads' AZ.out).2.1
      have AZ_ := Aside0.mk (Kd.R_reads' AZ.out).2.2
      clear AZ
      have AZ := AZ_
      clear AZ_
      clear L2 L2c
      have HLC1_C2 := Aside0.mk C1.out.lt
      refine (wire_New.calls AAZ cAZ (B ++ z) w8 (AZ.out) (by have := hB_.out; have := hz_.out; rw [List.length_append]; omega)).mono ?_
      rintro e w9 ⟨g9, rfl, hg9, hn9, hb9⟩
      have HD : Aside0 (Below w8.heap.size w8 w9) := ⟨below_step (Below.refl _ _) hb9⟩
      clear hb9
      have HG9 : Aside0 (w.heap.size ≤ g9) := ⟨by have := HB.out.size; (try simp at hg9); omega⟩
      have HX9 : Aside0 (w8.heap.size ≤ g9) := ⟨by (try simp at hg9); omega⟩
      clear hg9
      have TV_ := Aside0.mk (Kd.C_below TV.out HD.out)
      clear TV
      have TV := TV_
      clear TV_
      have NB_ := Aside0.mk (Kd.C_below NB.out HD.out)
      clear NB
      have NB := NB_
      clear NB_
      have BB_ := Aside0.mk (Kd.C_below BB.out HD.out)
      clear BB
      have BB := BB_
      clear BB_
      have C1_ := Aside0.mk (CurP.below C1.out HD.out)
      clear C1
      have C1 := C1_
      clear C1_
      have AZ_ := Aside0.mk (Kd.C_below AZ.out HD.out)
      clear AZ
      have AZ := AZ_
      clear AZ_
      have HB_ := Aside0.mk (below_step HB.out HD.out)
      clear HB HD
      have HB := HB_
      clear HB_
      have C2 := Aside0.mk hn9
      clear hn9
      go_wp2_with fail
      refine (CurP_Number C1.out (n) (n) (x1) (x2) (x3) c1_.out).mono ?_
      rintro e w10 ⟨rfl, hp10, hk10, hb10⟩
      have HK := Aside0.mk hk10
      have HD := Aside0.mk hb10
      have HS := Aside0.mk C1.out.blk
      have HN := Aside0.mk hp10
      clear hk10 hb10 hp10
      have TV_ := Aside0.mk (C_keep TV.out HS.out HK.out)
      clear TV
      have TV := TV_
      clear TV_
      have NB_ := Aside0.mk (C_keep NB.out HS.out HK.out)
      clear NB
      have NB := NB_
      clear NB_
      have BB_ := Aside0.mk (C_keep BB.out HS.out HK.out)
      clear BB
      have BB := BB_
      clear BB_
      have C1_ := Aside0.mk (HN.out)
      clear C1
      have C1 := C1_
      clear C1_
      have AZ_ := Aside0.mk (C_keep AZ.out HS.out HK.out)
      clear AZ
      have AZ := AZ_
      clear AZ_
      have C2_ := Aside0.mk (CurP.keep C2.out HS.out HK.out (by have := HLC1_C2.out; have := HX9.out; omega))
      clear C2
      have C2 := C2_
      clear C2_
      have HB_ := Aside0.mk (below_keep HB.out HD.out HG5.out)
      clear HB HD HK HS HN
      have HB := HB_
      clear HB_
      go_wp2_with fail
      refine (CurP_Text C1.out (300) (x4) (x5) (3) c2_.out).mono ?_
      rintro e w11 ⟨rfl, hp11, hk11, hb11⟩
      have HK := Aside0.mk hk11
      have HD := Aside0.mk hb11
      have HS := Aside0.mk C1.out.blk
      have HN := Aside0.mk hp11
      clear hk11 hb11 hp11
      have TV_ := Aside0.mk (C_keep TV.out HS.out HK.out)
      clear TV
      have TV := TV_
      clear TV_
      have NB_ := Aside0.mk (C_keep NB.out HS.out HK.out)
      clear NB
      have NB := NB_
      clear NB_
      have BB_ := Aside0.mk (C_keep BB.out HS.out HK.out)
      clear BB
      have BB := BB_
      clear BB_
      have C1_ := Aside0.mk (HN.out)
      clear C1
      have C1 := C1_
      clear C1_
      have AZ_ := Aside0.mk (C_keep AZ.out HS.out HK.out)
      clear AZ
      have AZ := AZ_
      clear AZ_
      have C2_ := Aside0.mk (CurP.keep C2.out HS.out HK.out (by have := HLC1_C2.out; have := HX9.out; omega))
      clear C2
      have C2 := C2_
      clear C2_
      have HB_ := Aside0.mk (below_keep HB.out HD.out HG5.out)
      clear HB HD HK HS HN
      have HB := HB_
      clear HB_
      go_wp2_with fail
      refine (CurP_Number C2.out (n) (n) (n) ((N.length : Int)) (0) r1_.out).mono ?_
      rintro e w12 ⟨rfl, hp12, hk12, hb12⟩
      have HK := Aside0.mk hk12
      have HD := Aside0.mk hb12
      have HS := Aside0.mk C2.out.blk
      have HN := Aside0.mk hp12
      clear hk12 hb12 hp12
      have TV_ := Aside0.mk (C_keep TV.out HS.out HK.out)
      clear TV
      have TV := TV_
      clear TV_
      have NB_ := Aside0.mk (C_keep NB.out HS.out HK.out)
      clear NB
      have NB := NB_
      clear NB_
      have BB_ := Aside0.mk (C_keep BB.out HS.out HK.out)
      clear BB
      have BB := BB_
      clear BB_
      have C1_ := Aside0.mk (CurP.keep C1.out HS.out HK.out (by have := HLC1_C2.out; have := HX9.out; omega))
      clear C1
      have C1 := C1_
      clear C1_
      have AZ_ := Aside0.mk (C_keep AZ.out HS.out HK.out)
      clear AZ
      have AZ := AZ_
      clear AZ_
      have C2_ := Aside0.mk (HN.out)
      clear C2
      have C2 := C2_
      clear C2_
      have HB_ := Aside0.mk (below_keep HB.out HD.out HG9.out)
      clear HB HD HK HS HN
      have HB := HB_
      clear HB_
      go_wp2_with fail
      refine (CurP_Text C2.out (300) (s) ((B.length : Int)) (0) r2_.out).mono ?_
      rintro e w13 ⟨rfl, hp13, hk13, hb13⟩
      have HK := Aside0.mk hk13
      have HD := Aside0.mk hb13
      have HS := Aside0.mk C2.out.blk
      have HN := Aside0.mk hp13
      clear hk13 hb13 hp13
      have TV_ := Aside0.mk (C_keep TV.out HS.out HK.out)
      clear TV
      have TV := TV_
      clear TV_
      have NB_ := Aside0.mk (C_keep NB.out HS.out HK.out)
      clear NB
      have NB := NB_
      clear NB_
      have BB_ := Aside0.mk (C_keep BB.out HS.out HK.out)
      clear BB
      have BB := BB_
      clear BB_
      have C1_ := Aside0.mk (CurP.keep C1.out HS.out HK.out (by have := HLC1_C2.out; have := HX9.out; omega))
      clear C1
      have C1 := C1_
      clear C1_
      have AZ_ := Aside0.mk (C_keep AZ.out HS.out HK.out)
      clear AZ
      have AZ := AZ_
      clear AZ_
      have C2_ := Aside0.mk (HN.out)
      clear C2
      have C2 := C2_
      clear C2_
      have HB_ := Aside0.mk (below_keep HB.out HD.out HG9.out)
      clear HB HD HK HS HN
      have HB := HB_
      clear HB_
      go_wp2_with fail
      refine (CurP_Err C1.out (3) (x5) (3) rfl).mono ?_
      rintro e w14 ⟨rfl, hp14, hk14, hb14⟩
      have HK := Aside0.mk hk14
      have HD := Aside0.mk hb14
      have HS := Aside0.mk C1.out.blk
      have HN := Aside0.mk hp14
      clear hk14 hb14 hp14
      have TV_ := Aside0.mk (C_keep TV.out HS.out HK.out)
      clear TV
      have TV := TV_
      clear TV_
      have NB_ := Aside0.mk (C_keep NB.out HS.out HK.out)
      clear NB
      have NB := NB_
      clear NB_
      have BB_ := Aside0.mk (C_keep BB.out HS.out HK.out)
      clear BB
      have BB := BB_
      clear BB_
      have C1_ := Aside0.mk (HN.out)
      clear C1
      have C1 := C1_
      clear C1_
      have AZ_ := Aside0.mk (C_keep AZ.out HS.out HK.out)
      clear AZ
      have AZ := AZ_
      clear AZ_
      have C2_ := Aside0.mk (CurP.keep C2.out HS.out HK.out (by have := HLC1_C2.out; have := HX9.out; omega))
      clear C2
      have C2 := C2_
      clear C2_
      have HB_ := Aside0.mk (below_keep HB.out HD.out HG5.out)
      clear HB HD HK HS HN
      have HB := HB_
      clear HB_
      have hcv := Kd.C_string (P := Try.prog) (c := c1) Try.underlying32 Try.underlying5 Try.underlying9 TV.out
      rw [← es_.out] at hcv
      go_wp2_with fail
      clear hcv
      refine (CurP_Err C2.out (0) ((B.length : Int)) (0) rfl).mono ?_
      rintro e w15 ⟨rfl, hp15, hk15, hb15⟩
      have HK := Aside0.mk hk15
      have HD := Aside0.mk hb15
      have HS := Aside0.mk C2.out.blk
      have HN := Aside0.mk hp15
      clear hk15 hb15 hp15
      have TV_ := Aside0.mk (C_keep TV.out HS.out HK.out)
      clear TV
      have TV := TV_
      clear TV_
      have NB_ := Aside0.mk (C_keep NB.out HS.out HK.out)
      clear NB
      have NB := NB_
      clear NB_
      have BB_ := Aside0.mk (C_keep BB.out HS.out HK.out)
      clear BB
      have BB := BB_
      clear BB_
      have C1_ := Aside0.mk (CurP.keep C1.out HS.out HK.out (by have := HLC1_C2.out; have := HX9.out; omega))
      clear C1
      have C1 := C1_
      clear C1_
      have AZ_ := Aside0.mk (C_keep AZ.out HS.out HK.out)
      clear AZ
      have AZ := AZ_
      clear AZ_
      have C2_ := Aside0.mk (HN.out)
      clear C2
      have C2 := C2_
      clear C2_
      have HB_ := Aside0.mk (below_keep HB.out HD.out HG9.out)
      clear HB HD HK HS HN
      have HB := HB_
      clear HB_
      go_wp2_with fail
      refine (CurP_Place C2.out ((B.length : Int)) ((B.length : Int)) (0) rfl).mono ?_
      rintro e w16 ⟨rfl, hp16, hk16, hb16⟩
      have HK := Aside0.mk hk16
      have HD := Aside0.mk hb16
      have HS := Aside0.mk C2.out.blk
      have HN := Aside0.mk hp16
      clear hk16 hb16 hp16
      have TV_ := Aside0.mk (C_keep TV.out HS.out HK.out)
      clear TV
      have TV := TV_
      clear TV_
      have NB_ := Aside0.mk (C_keep NB.out HS.out HK.out)
      clear NB
      have NB := NB_
      clear NB_
      have BB_ := Aside0.mk (C_keep BB.out HS.out HK.out)
      clear BB
      have BB := BB_
      clear BB_
      have C1_ := Aside0.mk (CurP.keep C1.out HS.out HK.out (by have := HLC1_C2.out; have := HX9.out; omega))
      clear C1
      have C1 := C1_
      clear C1_
      have AZ_ := Aside0.mk (C_keep AZ.out HS.out HK.out)
      clear AZ
      have AZ := AZ_
      clear AZ_
      have C2_ := Aside0.mk (HN.out)
      clear C2
      have C2 := C2_
      clear C2_
      have HB_ := Aside0.mk (below_keep HB.out HD.out HG9.out)
      clear HB HD HK HS HN
      have HB := HB_
      clear HB_
      go_wp2_with fail
      refine (liverylaw03_lives.calls (true) w16  rfl).mono ?_
      rintro e w17 ⟨rfl, hb17⟩
      have HD : Aside0 (Below w16.heap.size w16 w17) := ⟨below_step (Below.refl _ _) hb17⟩
      clear hb17
      have TV_ := Aside0.mk (Kd.C_below TV.out HD.out)
      clear TV
      have TV := TV_
      clear TV_
      have NB_ := Aside0.mk (Kd.C_below NB.out HD.out)
      clear NB
      have NB := NB_
      clear NB_
      have BB_ := Aside0.mk (Kd.C_below BB.out HD.out)
      clear BB
      have BB := BB_
      clear BB_
      have C1_ := Aside0.mk (CurP.below C1.out HD.out)
      clear C1
      have C1 := C1_
      clear C1_
      have AZ_ := Aside0.mk (Kd.C_below AZ.out HD.out)
      clear AZ
      have AZ := AZ_
      clear AZ_
      have C2_ := Aside0.mk (CurP.below C2.out HD.out)
      clear C2
      have C2 := C2_
      clear C2_
      have HB_ := Aside0.mk (below_step HB.out HD.out)
      clear HB HD
      have HB := HB_
      clear HB_
      go_wp2_with fail
      go_ret
      exact ⟨rfl, HB.out⟩
    · skip
      have en : n = a0 := by rw [en_.out]; simp [c0]
      have em : m = a3 := by rw [em_.out]; simp [c3]
      clear en_ em_
      subst en
      subst em
      have c0b : decide (n < 0) = false := decide_eq_false c0
      have c3b : decide (m < 0) = false := decide_eq_false c3
      clear c0 c3 bw0 bw3
      go_enter Try.func10, Try.ntmps10
      have HB := Aside0.mk (Below.refl w.heap.size w)
      go_wp2_with fail
      refine (few3_C a1 cap1 l1 (300) t w (L1.out) L1c.out ft.out).mono ?_
      rintro e w1 ⟨v1, rfl, hv1, hb1⟩
      have HD : Aside0 (Below w.heap.size w w1) := ⟨below_step (Below.refl _ _) hb1⟩
      clear hb1
      have L1_ := Aside0.mk (Kd.C_below L1.out HD.out)
      clear L1
      have L1 := L1_
      clear L1_
      have L2_ := Aside0.mk (Kd.C_below L2.out HD.out)
      clear L2
      have L2 := L2_
      clear L2_
      have HB_ := Aside0.mk (below_step HB.out HD.out)
      clear HB HD
      have HB := HB_
      clear HB_
      obtain ⟨A1, c1, ev1⟩ := Kd.V_slice hv1
      subst ev1
      have TVc := Aside0.mk (Kd.V_reads' hv1).2.1
      have TV := Aside0.mk (Kd.V_reads' hv1).2.2
      clear hv1
      go_wp2_with fail
      clear L1 L1c
      have HD : Aside0 (Below w1.heap.size w1 w1.drew) := ⟨below_drew1 (Below.refl _ _)⟩
      have L2_ := Aside0.mk (Kd.C_below L2.out HD.out)
      clear L2
      have L2 := L2_
      clear L2_
      have TV_ := Aside0.mk (Kd.C_below TV.out HD.out)
      clear TV
      have TV := TV_
      clear TV_
      have HB_ := Aside0.mk (below_step HB.out HD.out)
      clear HB HD
      have HB := HB_
      clear HB_
      refine start_ (n := 6) (S := fun w' => (convert 32 9 (.slice A1 t.length c1)).run Try.prog w' = .ok (.string s) w') (ds := []) #[false, false, false, false, false, false] (by kernel_rfl) rfl rfl ((by have h_ := Kd.C_string (P := Try.prog) (c := c1) Try.underlying32 Try.underlying5 Try.underlying9 TV.out; rw [← es_.out] at h_; exact h_)) (fun hHeld => ?_)
      generalize w1.drew = wd2 at *
      refine pure_ (i := 0) (N := some 27) (v := ?_) (a' := ?_) #[true, false, false, false, false, false] rfl rfl (by kernel_rfl) (fun _ _ _ h => h) (Or.inl ⟨by rfl, ?_⟩) ?_ ?_
      rotate_left
      · intro w'
        go_simp
        with_reducible rfl
      rotate_left
      · simp only [Act.put, List.setIfInBounds_toArray, List.set_cons_zero, List.set_cons_succ, i64_w, i32_w]
        rfl
      refine pure_ (i := 2) (N := some 29) (v := ?_) (a' := ?_) #[true, false, true, false, false, false] rfl rfl (by kernel_rfl) (fun _ _ _ h => h) (Or.inl ⟨by rfl, ?_⟩) ?_ ?_
      rotate_left
      · intro w'
        go_simp
        with_reducible rfl
      rotate_left
      · simp only [Act.put, List.setIfInBounds_toArray, List.set_cons_zero, List.set_cons_succ, i64_w, i32_w]
        rfl
      refine take_ (i := 3) (N := some 30) (v := ?_) (a' := ?_) #[true, false, true, true, false, false] rfl rfl (by kernel_rfl) (fun _ _ _ h => h) (Or.inl ⟨by rfl, ?_⟩) hHeld ?_ ?_
      rotate_left
      · intro w' s0
        go_simp
        with_reducible rfl
      rotate_left
      · simp only [Act.put, List.setIfInBounds_toArray, List.set_cons_zero, List.set_cons_succ, i64_w, i32_w]
        rfl
      refine one_ (i := 1) (N := some 28) #[true, true, true, true, false, false] rfl rfl (by kernel_rfl) (by decide) (fun K hK => ?_)
      refine goes_ Try.func34 (by kernel_rfl) rfl #[.slice none 0 0, .int .i64 (n)] (by rfl) rfl rfl (by simp only [List.map_toArray, List.map_cons, List.map_nil]; rfl) ?_
      refine (wire_Number.calls none 0 ([] : List Int) (n) N wd2 (Kd.C_nil _ _) (by decide) p1_.out).mono ?_
      rintro e w3 ⟨v3, rfl, hv3, hb3⟩
      have HD : Aside0 (Below wd2.heap.size wd2 w3) := ⟨below_step (Below.refl _ _) hb3⟩
      clear hb3
      have L2_ := Aside0.mk (Kd.C_below L2.out HD.out)
      clear L2
      have L2 := L2_
      clear L2_
      have TV_ := Aside0.mk (Kd.C_below TV.out HD.out)
      clear TV
      have TV := TV_
      clear TV_
      have HB_ := Aside0.mk (below_step HB.out HD.out)
      clear HB HD
      have HB := HB_
      clear HB_
      obtain ⟨A3, c3, ev3⟩ := Kd.R_slice hv3
      subst ev3
      have NBc := Aside0.mk (Kd.R_reads' hv3).2.1
      have NB := Aside0.mk (Kd.R_reads' hv3).2.2
      clear hv3
      refine ⟨_, rfl, ?_⟩
      refine hK.out _ _ ((by have h_ := Kd.C_string (P := Try.prog) (c := c1) Try.underlying32 Try.underlying5 Try.underlying9 TV.out; rw [← es_.out] at h_; exact h_)) (fun hHeld => ?_)
      clear hK K
      refine norm_ (a' := ?_) ?_ ?_
      rotate_left
      · show Act.put _ (some 28) _ = _
        simp only [Act.put, List.setIfInBounds_toArray, List.set_cons_zero, List.set_cons_succ, i64_w, i32_w]
        rfl
      refine one_ (i := 4) (N := some 31) #[true, true, true, true, true, false] rfl rfl (by kernel_rfl) (by decide) (fun K hK => ?_)
      refine goes_ Try.func36 (by kernel_rfl) rfl #[.slice A3 N.length c3, .string s] (by rfl) rfl rfl (by simp only [List.map_toArray, List.map_cons, List.map_nil]; rfl) ?_
      with_reducible refine (wire_Text.calls A3 c3 N (s) B w3 (NB.out) NBc.out p2_.out).mono ?_
      rintro e w4 ⟨v4, rfl, hv4, hb4⟩
      have HD : Aside0 (Below w3.heap.size w3 w4) := ⟨below_step (Below.refl _ _) hb4⟩
      clear hb4
      have L2_ := Aside0.mk (Kd.C_below L2.out HD.out)
      clear L2
      have L2 := L2_
      clear L2_
      have TV_ := Aside0.mk (Kd.C_below TV.out HD.out)
      clear TV
      have TV := TV_
      clear TV_
      have NB_ := Aside0.mk (Kd.C_below NB.out HD.out)
      clear NB
      have NB := NB_
      clear NB_
      have HB_ := Aside0.mk (below_step HB.out HD.out)
      clear HB HD
      have HB := HB_
      clear HB_
      obtain ⟨A4, c4, ev4⟩ := Kd.R_slice hv4
      subst ev4
      have BBc := Aside0.mk (Kd.R_reads' hv4).2.1
      have BB := Aside0.mk (Kd.R_reads' hv4).2.2
      clear hv4
      refine ⟨_, rfl, ?_⟩
      refine hK.out _ _ ((by have h_ := Kd.C_string (P := Try.prog) (c := c1) Try.underlying32 Try.underlying5 Try.underlying9 TV.out; rw [← es_.out] at h_; exact h_)) (fun hHeld => ?_)
      clear hK K
      refine norm_ (a' := ?_) ?_ ?_
      rotate_left
      · show Act.put _ (some 31) _ = _
        simp only [Act.put, List.setIfInBounds_toArray, List.set_cons_zero, List.set_cons_succ, i64_w, i32_w]
        rfl
      refine pure_ (i := 5) (N := some 9) (v := ?_) (a' := ?_) #[true, true, true, true, true, true] rfl rfl (by kernel_rfl) (fun _ _ _ h => h) (Or.inl ⟨by rfl, ?_⟩) ?_ ?_
      rotate_left
      · intro w'
        go_simp
        with_reducible rfl
      rotate_left
      · simp only [Act.put, List.setIfInBounds_toArray, List.set_cons_zero, List.set_cons_succ, i64_w, i32_w]
        rfl
      refine done_ (by kernel_rfl) ?_
      have hl2 : decide ((B.length : Int) < 2) = false := decide_eq_false (by have := hB_.out; omega)
      have hl3 : (B.length = 0) = False := eq_false (by have := hB_.out; omega)
      have hl4 : (B = []) = False := eq_false (by have := hB_.out; intro h; subst h; simp at this)
      have hrem := hrem_.out
      have hcut := hcut_to S.length A4 B.length c4 (by have := hq_.out; omega) BBc.out
      have SB := Aside0.mk (show (Kd.int .u8).C w4 A4 S.length S by have h_ := Kd.C_take (m := S.length) BB.out (by have := hq_.out; omega); rw [← eS_.out] at h_; exact h_)
      go_wp2_with fail
      clear hl2 hl3 hl4 hrem hcut
      refine (wire_New.calls A4 c4 S w4 (SB.out) (by have := hq_.out; have := hB_.out; omega)).mono ?_
      rintro e w5 ⟨g5, rfl, hg5, hn5, hb5⟩
      have HD : Aside0 (Below w4.heap.size w4 w5) := ⟨below_step (Below.refl _ _) hb5⟩
      clear hb5
      have HG5 : Aside0 (w.heap.size ≤ g5) := ⟨by have := HB.out.size; (try simp at hg5); omega⟩
      have HX5 : Aside0 (w4.heap.size ≤ g5) := ⟨by (try simp at hg5); omega⟩
      clear hg5
      have L2_ := Aside0.mk (Kd.C_below L2.out HD.out)
      clear L2
      have L2 := L2_
      clear L2_
      have TV_ := Aside0.mk (Kd.C_below TV.out HD.out)
      clear TV
      have TV := TV_
      clear TV_
      have NB_ := Aside0.mk (Kd.C_below NB.out HD.out)
      clear NB
      have NB := NB_
      clear NB_
      have BB_ := Aside0.mk (Kd.C_below BB.out HD.out)
      clear BB
      have BB := BB_
      clear BB_
      have SB_ := Aside0.mk (Kd.C_below SB.out HD.out)
      clear SB
      have SB := SB_
      clear SB_
      have HB_ := Aside0.mk (below_step HB.out HD.out)
      clear HB HD
      have HB := HB_
      clear HB_
      have C1 := Aside0.mk hn5
      clear hn5
      clear SB
      have HD0 := Aside0.mk (Below.refl w5.heap.size w5)
      go_wp2_with (at_builtin; refine Kd.R_append_rows (Kd.int .u8) (w0 := w5) w5.heap.size rfl (.tmp 42) (.tmp 43) 32 5 (.int .u8 0) 1 rfl Try.underlying32 hinfo5 rfl (by decide) (by omega) (.slice none 0 0) ([] : List Int) B _ _ _ (fun _ => True) (fun _ => False) rfl rfl ?aO ?aR (fun _ _ h => h) (fun _ h => h.elim) (fun _ _ => trivial) ?aB ?aS ?aL ?_)
      case aO => exact Kd.R_nil _ _ _ _ _
      case aR => exact ((Kd.C_below BB.out HD0.out))
      case aB => exact HD0.out
      case aS => exact HD0.out.size
      case aL => (have := hB_.out; (try simp only [List.length_nil, List.length_append, Nat.zero_add]); omega)
      intro v6 w6 ho6 hb6 hg6 hat6
      have HD0_ := Aside0.mk hb6
      have ALL_ := Aside0.mk ho6
      clear ho6 hb6 hg6 hat6 HD0
      have HD0 := HD0_
      have ALL := ALL_
      clear HD0_ ALL_
      (try rw [List.nil_append] at ALL)
      go_wp2_with fail
      refine (few3_C a2 cap2 l2 (50) z w6 ((Kd.C_below L2.out HD0.out)) L2c.out fz.out).mono ?_
      rintro e w7 ⟨v7, rfl, hv7, hb7⟩
      have HD : Aside0 (Below w6.heap.size w6 w7) := ⟨below_step (Below.refl _ _) hb7⟩
      clear hb7
      have HD0_ := Aside0.mk (below_step HD0.out HD.out)
      clear HD0
      have HD0 := HD0_
      clear HD0_
      have ALL_ := Aside0.mk (Kd.R_below ALL.out HD.out)
      clear ALL
      have ALL := ALL_
      clear ALL_
      clear HD
      obtain ⟨A7, c7, ev7⟩ := Kd.V_slice hv7
      subst ev7
      have ZVc := Aside0.mk (Kd.V_reads' hv7).2.1
      have ZV := Aside0.mk (Kd.V_reads' hv7).2.2
      clear hv7
      go_wp2_with (at_builtin; refine Kd.R_append_rows (Kd.int .u8) (w0 := w5) w5.heap.size rfl (.tmp 45) (.tmp 47) 32 5 (.int .u8 0) 1 rfl Try.underlying32 hinfo5 rfl (by decide) (by omega) v6 B z _ _ _ (fun _ => True) (fun _ => False) rfl rfl ?aO ?aR (fun _ _ h => h) (fun _ h => h.elim) (fun _ _ => trivial) ?aB ?aS ?aL ?_)
      case aO => exact ALL.out
      case aR => exact (ZV.out)
      case aB => exact HD0.out
      case aS => exact HD0.out.size
      case aL => (have := hB_.out; have := hz_.out; (try simp only [List.length_nil, List.length_append, Nat.zero_add]); omega)
      intro v8 w8 ho8 hb8 hg8 hat8
      have HD0_ := Aside0.mk hb8
      have AZ_ := Aside0.mk ho8
      clear ho8 hb8 hg8 hat8 HD0 ALL
      have HD0 := HD0_
      have AZ := AZ_
      clear HD0_ AZ_
      clear ZV ZVc
      go_wp2_with fail
      have L2_ := Aside0.mk (Kd.C_below L2.out HD0.out)
      clear L2
      have L2 := L2_
      clear L2_
      have TV_ := Aside0.mk (Kd.C_below TV.out HD0.out)
      clear TV
      have TV := TV_
      clear TV_
      have NB_ := Aside0.mk (Kd.C_below NB.out HD0.out)
      clear NB
      have NB := NB_
      clear NB_
      have BB_ := Aside0.mk (Kd.C_below BB.out HD0.out)
      clear BB
      have BB := BB_
      clear BB_
      have C1_ := Aside0.mk (CurP.below C1.out HD0.out)
      clear C1
      have C1 := C1_
      clear C1_
      have HB_ := Aside0.mk (below_step HB.out HD0.out)
      clear HB HD0
      have HB := HB_
      clear HB_
      obtain ⟨AAZ, cAZ, eAZ⟩ := Kd.R_slice AZ.out
      subst eAZ
      have AZc := Aside0.mk (Kd.R_reads' AZ.out).2.1
      have AZ_ := Aside0.mk (Kd.R_reads' AZ.out).2.2
      clear AZ
      have AZ := AZ_
      clear AZ_
      clear L2 L2c
      have HLC1_C2 := Aside0.mk C1.out.lt
      refine (wire_New.calls AAZ cAZ (B ++ z) w8 (AZ.out) (by have := hB_.out; have := hz_.out; rw [List.length_append]; omega)).mono ?_
      rintro e w9 ⟨g9, rfl, hg9, hn9, hb9⟩
      have HD : Aside0 (Below w8.heap.size w8 w9) := ⟨below_step (Below.refl _ _) hb9⟩
      clear hb9
      have HG9 : Aside0 (w.heap.size ≤ g9) := ⟨by have := HB.out.size; (try simp at hg9); omega⟩
      have HX9 : Aside0 (w8.heap.size ≤ g9) := ⟨by (try simp at hg9); omega⟩
      clear hg9
      have TV_ := Aside0.mk (Kd.C_below TV.out HD.out)
      clear TV
      have TV := TV_
      clear TV_
      have NB_ := Aside0.mk (Kd.C_below NB.out HD.out)
      clear NB
      have NB := NB_
      clear NB_
      have BB_ := Aside0.mk (Kd.C_below BB.out HD.out)
      clear BB
      have BB := BB_
      clear BB_
      have C1_ := Aside0.mk (CurP.below C1.out HD.out)
      clear C1
      have C1 := C1_
      clear C1_
      have AZ_ := Aside0.mk (Kd.C_below AZ.out HD.out)
      clear AZ
      have AZ := AZ_
      clear AZ_
      have HB_ := Aside0.mk (below_step HB.out HD.out)
      clear HB HD
      have HB := HB_
      clear HB_
      have C2 := Aside0.mk hn9
      clear hn9
      go_wp2_with fail
      refine (CurP_Number C1.out (n) (n) (x1) (x2) (x3) c1_.out).mono ?_
      rintro e w10 ⟨rfl, hp10, hk10, hb10⟩
      have HK := Aside0.mk hk10
      have HD := Aside0.mk hb10
      have HS := Aside0.mk C1.out.blk
      have HN := Aside0.mk hp10
      clear hk10 hb10 hp10
      have TV_ := Aside0.mk (C_keep TV.out HS.out HK.out)
      clear TV
      have TV := TV_
      clear TV_
      have NB_ := Aside0.mk (C_keep NB.out HS.out HK.out)
      clear NB
      have NB := NB_
      clear NB_
      have BB_ := Aside0.mk (C_keep BB.out HS.out HK.out)
      clear BB
      have BB := BB_
      clear BB_
      have C1_ := Aside0.mk (HN.out)
      clear C1
      have C1 := C1_
      clear C1_
      have AZ_ := Aside0.mk (C_keep AZ.out HS.out HK.out)
      clear AZ
      have AZ := AZ_
      clear AZ_
      have C2_ := Aside0.mk (CurP.keep C2.out HS.out HK.out (by have := HLC1_C2.out; have := HX9.out; omega))
      clear C2
      have C2 := C2_
      clear C2_
      have HB_ := Aside0.mk (below_keep HB.out HD.out HG5.out)
      clear HB HD HK HS HN
      have HB := HB_
      clear HB_
      go_wp2_with fail
      refine (CurP_Text C1.out (300) (x4) (x5) (3) c2_.out).mono ?_
      rintro e w11 ⟨rfl, hp11, hk11, hb11⟩
      have HK := Aside0.mk hk11
      have HD := Aside0.mk hb11
      have HS := Aside0.mk C1.out.blk
      have HN := Aside0.mk hp11
      clear hk11 hb11 hp11
      have TV_ := Aside0.mk (C_keep TV.out HS.out HK.out)
      clear TV
      have TV := TV_
      clear TV_
      have NB_ := Aside0.mk (C_keep NB.out HS.out HK.out)
      clear NB
      have NB := NB_
      clear NB_
      have BB_ := Aside0.mk (C_keep BB.out HS.out HK.out)
      clear BB
      have BB := BB_
      clear BB_
      have C1_ := Aside0.mk (HN.out)
      clear C1
      have C1 := C1_
      clear C1_
      have AZ_ := Aside0.mk (C_keep AZ.out HS.out HK.out)
      clear AZ
      have AZ := AZ_
      clear AZ_
      have C2_ := Aside0.mk (CurP.keep C2.out HS.out HK.out (by have := HLC1_C2.out; have := HX9.out; omega))
      clear C2
      have C2 := C2_
      clear C2_
      have HB_ := Aside0.mk (below_keep HB.out HD.out HG5.out)
      clear HB HD HK HS HN
      have HB := HB_
      clear HB_
      go_wp2_with fail
      refine (CurP_Number C2.out (n) (n) (n) ((N.length : Int)) (0) r1_.out).mono ?_
      rintro e w12 ⟨rfl, hp12, hk12, hb12⟩
      have HK := Aside0.mk hk12
      have HD := Aside0.mk hb12
      have HS := Aside0.mk C2.out.blk
      have HN := Aside0.mk hp12
      clear hk12 hb12 hp12
      have TV_ := Aside0.mk (C_keep TV.out HS.out HK.out)
      clear TV
      have TV := TV_
      clear TV_
      have NB_ := Aside0.mk (C_keep NB.out HS.out HK.out)
      clear NB
      have NB := NB_
      clear NB_
      have BB_ := Aside0.mk (C_keep BB.out HS.out HK.out)
      clear BB
      have BB := BB_
      clear BB_
      have C1_ := Aside0.mk (CurP.keep C1.out HS.out HK.out (by have := HLC1_C2.out; have := HX9.out; omega))
      clear C1
      have C1 := C1_
      clear C1_
      have AZ_ := Aside0.mk (C_keep AZ.out HS.out HK.out)
      clear AZ
      have AZ := AZ_
      clear AZ_
      have C2_ := Aside0.mk (HN.out)
      clear C2
      have C2 := C2_
      clear C2_
      have HB_ := Aside0.mk (below_keep HB.out HD.out HG9.out)
      clear HB HD HK HS HN
      have HB := HB_
      clear HB_
      go_wp2_with fail
      refine (CurP_Text C2.out (300) (s) ((B.length : Int)) (0) r2_.out).mono ?_
      rintro e w13 ⟨rfl, hp13, hk13, hb13⟩
      have HK := Aside0.mk hk13
      have HD := Aside0.mk hb13
      have HS := Aside0.mk C2.out.blk
      have HN := Aside0.mk hp13
      clear hk13 hb13 hp13
      have TV_ := Aside0.mk (C_keep TV.out HS.out HK.out)
      clear TV
      have TV := TV_
      clear TV_
      have NB_ := Aside0.mk (C_keep NB.out HS.out HK.out)
      clear NB
      have NB := NB_
      clear NB_
      have BB_ := Aside0.mk (C_keep BB.out HS.out HK.out)
      clear BB
      have BB := BB_
      clear BB_
      have C1_ := Aside0.mk (CurP.keep C1.out HS.out HK.out (by have := HLC1_C2.out; have := HX9.out; omega))
      clear C1
      have C1 := C1_
      clear C1_
      have AZ_ := Aside0.mk (C_keep AZ.out HS.out HK.out)
      clear AZ
      have AZ := AZ_
      clear AZ_
      have C2_ := Aside0.mk (HN.out)
      clear C2
      have C2 := C2_
      clear C2_
      have HB_ := Aside0.mk (below_keep HB.out HD.out HG9.out)
      clear HB HD HK HS HN
      have HB := HB_
      clear HB_
      go_wp2_with fail
      refine (CurP_Err C1.out (3) (x5) (3) rfl).mono ?_
      rintro e w14 ⟨rfl, hp14, hk14, hb14⟩
      have HK := Aside0.mk hk14
      have HD := Aside0.mk hb14
      have HS := Aside0.mk C1.out.blk
      have HN := Aside0.mk hp14
      clear hk14 hb14 hp14
      have TV_ := Aside0.mk (C_keep TV.out HS.out HK.out)
      clear TV
      have TV := TV_
      clear TV_
      have NB_ := Aside0.mk (C_keep NB.out HS.out HK.out)
      clear NB
      have NB := NB_
      clear NB_
      have BB_ := Aside0.mk (C_keep BB.out HS.out HK.out)
      clear BB
      have BB := BB_
      clear BB_
      have C1_ := Aside0.mk (HN.out)
      clear C1
      have C1 := C1_
      clear C1_
      have AZ_ := Aside0.mk (C_keep AZ.out HS.out HK.out)
      clear AZ
      have AZ := AZ_
      clear AZ_
      have C2_ := Aside0.mk (CurP.keep C2.out HS.out HK.out (by have := HLC1_C2.out; have := HX9.out; omega))
      clear C2
      have C2 := C2_
      clear C2_
      have HB_ := Aside0.mk (below_keep HB.out HD.out HG5.out)
      clear HB HD HK HS HN
      have HB := HB_
      clear HB_
      have hcv := Kd.C_string (P := Try.prog) (c := c1) Try.underlying32 Try.underlying5 Try.underlying9 TV.out
      rw [← es_.out] at hcv
      go_wp2_with fail
      clear hcv
      refine (CurP_Err C2.out (0) ((B.length : Int)) (0) rfl).mono ?_
      rintro e w15 ⟨rfl, hp15, hk15, hb15⟩
      have HK := Aside0.mk hk15
      have HD := Aside0.mk hb15
      have HS := Aside0.mk C2.out.blk
      have HN := Aside0.mk hp15
      clear hk15 hb15 hp15
      have TV_ := Aside0.mk (C_keep TV.out HS.out HK.out)
      clear TV
      have TV := TV_
      clear TV_
      have NB_ := Aside0.mk (C_keep NB.out HS.out HK.out)
      clear NB
      have NB := NB_
      clear NB_
      have BB_ := Aside0.mk (C_keep BB.out HS.out HK.out)
      clear BB
      have BB := BB_
      clear BB_
      have C1_ := Aside0.mk (CurP.keep C1.out HS.out HK.out (by have := HLC1_C2.out; have := HX9.out; omega))
      clear C1
      have C1 := C1_
      clear C1_
      have AZ_ := Aside0.mk (C_keep AZ.out HS.out HK.out)
      clear AZ
      have AZ := AZ_
      clear AZ_
      have C2_ := Aside0.mk (HN.out)
      clear C2
      have C2 := C2_
      clear C2_
      have HB_ := Aside0.mk (below_keep HB.out HD.out HG9.out)
      clear HB HD HK HS HN
      have HB := HB_
      clear HB_
      go_wp2_with fail
      refine (CurP_Place C2.out ((B.length : Int)) ((B.length : Int)) (0) rfl).mono ?_
      rintro e w16 ⟨rfl, hp16, hk16, hb16⟩
      have HK := Aside0.mk hk16
      have HD := Aside0.mk hb16
      have HS := Aside0.mk C2.out.blk
      have HN := Aside0.mk hp16
      clear hk16 hb16 hp16
      have TV_ := Aside0.mk (C_keep TV.out HS.out HK.out)
      clear TV
      have TV := TV_
      clear TV_
      have NB_ := Aside0.mk (C_keep NB.out HS.out HK.out)
      clear NB
      have NB := NB_
      clear NB_
      have BB_ := Aside0.mk (C_keep BB.out HS.out HK.out)
      clear BB
      have BB := BB_
      clear BB_
      have C1_ := Aside0.mk (CurP.keep C1.out HS.out HK.out (by have := HLC1_C2.out; have := HX9.out; omega))
      clear C1
      have C1 := C1_
      clear C1_
      have AZ_ := Aside0.mk (C_keep AZ.out HS.out HK.out)
      clear AZ
      have AZ := AZ_
      clear AZ_
      have C2_ := Aside0.mk (HN.out)
      clear C2
      have C2 := C2_
      clear C2_
      have HB_ := Aside0.mk (below_keep HB.out HD.out HG9.out)
      clear HB HD HK HS HN
      have HB := HB_
      clear HB_
      go_wp2_with fail
      refine (liverylaw03_lives.calls (true) w16  rfl).mono ?_
      rintro e w17 ⟨rfl, hb17⟩
      have HD : Aside0 (Below w16.heap.size w16 w17) := ⟨below_step (Below.refl _ _) hb17⟩
      clear hb17
      have TV_ := Aside0.mk (Kd.C_below TV.out HD.out)
      clear TV
      have TV := TV_
      clear TV_
      have NB_ := Aside0.mk (Kd.C_below NB.out HD.out)
      clear NB
      have NB := NB_
      clear NB_
      have BB_ := Aside0.mk (Kd.C_below BB.out HD.out)
      clear BB
      have BB := BB_
      clear BB_
      have C1_ := Aside0.mk (CurP.below C1.out HD.out)
      clear C1
      have C1 := C1_
      clear C1_
      have AZ_ := Aside0.mk (Kd.C_below AZ.out HD.out)
      clear AZ
      have AZ := AZ_
      clear AZ_
      have C2_ := Aside0.mk (CurP.below C2.out HD.out)
      clear C2
      have C2 := C2_
      clear C2_
      have HB_ := Aside0.mk (below_step HB.out HD.out)
      clear HB HD
      have HB := HB_
      clear HB_
      go_wp2_with fail
      go_ret
      exact ⟨rfl, HB.out⟩
end Go.Proofs.Ytnfnomcgalkagaa.P
