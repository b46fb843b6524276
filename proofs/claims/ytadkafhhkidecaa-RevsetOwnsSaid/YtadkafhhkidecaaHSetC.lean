/- Contracts, typed by hand and by a program: the program's set: New, Copy. -/
import Derived.Test.YtadkafhhkidecaaHSetN
import Derived.Laws.Rows
set_option linter.unusedVariables false
set_option linter.unusedSimpArgs false
namespace Go.Proofs.YtadkafhhkidecaaW.PrintWords
open Go.RowKit
/-- An element of an array that is a value. -/
theorem run_index_arr {P : Program} {w : World} {T e e2 : TypeId} {len : Nat} (hT : P.underlying T = some (.array len e)) (hE : P.underlying e = some (.slice e2)) (hs : (P.info? e).map (·.size) = some 1) (cs : Array Value) (i : Nat) (hi : i < len) (v : Value) (hv : cs[i]? = some v) :
    (Instr.index T (.agg cs) (.int .i64 (i : Int))).run P w = .ok v w := by
  obtain ⟨i0, hi0, hsz⟩ := Option.map_eq_some_iff.1 hs
  have h1 : (i : Int) < (len : Int) := by omega
  have h2 : i < len := hi
  simp [Instr.index, asIntOf, run_underlying hT, part, isAgg, run_underlying hE, sizeOf, typeInfo, hi0, hsz, hv, Result.andThen, h1, h2]
end Go.Proofs.YtadkafhhkidecaaW.PrintWords
namespace Go.Proofs.Ytadkafhhkidecaa.P
open Go.RowKit Go.Proofs.YtadkafhhkidecaaW.PrintWords Go.Proofs.YtadkafhhkidecaaW.PrintLast Go.Proofs.YtadkafhhkidecaaW.PrintMore
theorem rows_nil_new (W : World) (n : Nat) : (Res.rows (Kd.int .i64) 55 3 W.heap.size (List.replicate n [])).P (fun k => W.heap.size ≤ k) (W.alloc (.cells (List.replicate n (.slice none 0 0)).toArray 55)) := by
  refine ⟨List.replicate n (.slice none 0 0), fun _ => 0, Nat.le_refl _, heap_alloc_new W _, by simp, fun i v l hv hl => ?_⟩
  have h1 := List.mem_of_getElem? hv
  have h2 := List.mem_of_getElem? hl
  rw [(List.mem_replicate.1 h1).2, (List.mem_replicate.1 h2).2]
  exact Kd.R_nil _ _ _ _ _
set_option maxHeartbeats 1000000 in
theorem revset_New.calls (W : World) :
    Calls Try.prog 8 #[] W fun e W' => ∃ g, e = .returned (.pointer (some ⟨g, 0, none⟩)) ∧ (PSet g (List.replicate 16 [])).P (fun k => W.heap.size ≤ k) W' ∧ Below W.heap.size W W' := by
  go_enter Try.func8, Try.ntmps8
  go_wp2_with fail
  go_ret
  exact ⟨_, rfl, rows_nil_new W 17, below_alloc (Below.refl _ _) _⟩
def copyTo (L : List (List Int)) (i : Nat) : List (List Int) := L.take i ++ List.replicate (17 - i) []
theorem copyTo_zero (L : List (List Int)) : copyTo L 0 = List.replicate 17 [] := by simp [copyTo]
theorem copyTo_all (L : List (List Int)) (h : L.length = 17) : copyTo L 17 = L := by simp [copyTo, ← h]
theorem copyTo_set (L : List (List Int)) (h : L.length = 17) (i : Nat) (hi : i < 17) : (copyTo L i).set i (L.getD i []) = copyTo L (i + 1) := by
  unfold copyTo
  have hl : (L.take i).length = i := by rw [List.length_take]; omega
  rw [List.set_append_right _ _ (by omega), hl, Nat.sub_self]
  obtain ⟨m, hm⟩ : ∃ m, 17 - i = m + 1 := ⟨16 - i, by omega⟩
  rw [hm, show 17 - (i + 1) = m by omega, List.replicate_succ, List.set_cons_zero, List.take_succ_eq_append_getElem (by omega), List.append_assoc, List.singleton_append, List.getD_eq_getElem?_getD, List.getElem?_eq_getElem (by omega)]
  rfl
theorem copyTo_at (L : List (List Int)) (h : L.length = 17) (i : Nat) (hi : i < 17) : (copyTo L i)[i]? = some [] := by
  unfold copyTo
  have hl : (L.take i).length = i := by rw [List.length_take]; omega
  rw [List.getElem?_append_right (by omega), hl, Nat.sub_self]
  obtain ⟨m, hm⟩ : ∃ m, 17 - i = m + 1 := ⟨16 - i, by omega⟩
  rw [hm]; rfl
theorem hinfo53 : (Try.prog.info? 53).map (·.size) = some 17 := by kernel_rfl
theorem hinfo30 : (Try.prog.info? 30).map (·.size) = some 1 := by kernel_rfl
set_option maxHeartbeats 4000000 in
set_option maxRecDepth 100000 in
theorem revset_Copy.calls (g : Nat) (L : List (List Int)) (hL : Good L) (W : World) (ok : Nat → Prop) (hP : (PSet g L).P ok W) :
    Calls Try.prog 26 #[.pointer (some ⟨g, 0, none⟩)] W fun e W' => ∃ g2, e = .returned (.pointer (some ⟨g2, 0, none⟩)) ∧ (PSet g2 L).P (fun k => W.heap.size ≤ k) W' ∧ Below W.heap.size W W' := by
  have HP := Aside0.mk hP
  have HL := Aside0.mk hL
  have HL17 := Aside0.mk (show ([] :: L).length = 17 by rw [List.length_cons, hL.1])
  clear hP hL
  go_enter Try.func26, Try.ntmps26
  go_wp2_with fail
  refine (revset_New.calls W).mono ?_
  rintro e w0 ⟨g2, rfl, hP2, hB0⟩
  have HP2 := Aside0.mk hP2
  have HB0 := Aside0.mk hB0
  obtain ⟨vs, F, hok, hblk, hvl, hrows⟩ := (PSet g L).on HP.out hB0
  have hblk2 : w0.heap[g]? = some (.cells vs.toArray 55 (0, 0)) := hblk
  have HV := Aside0.mk (show vs.length = 17 by rw [hvl]; exact HL17.out)
  have HW0 := Aside0.mk (show (Res.rows (Kd.int .i64) 55 3 g ([] :: L)).P ok w0 from ⟨vs, F, hok, hblk, hvl, hrows⟩)
  have HBLK := Aside0.mk hblk2
  clear hP2 hB0 hok hblk hvl hrows hblk2
  go_wp2_with (refine gate_ (.load 53 (.tmp 9)) rfl ?_; refine wpList_load_row rfl 53 (.tmp 9) rfl g rfl 55 vs.toArray (0, 0) _ HBLK.out Try.underlying53 rfl ?hz ?_)
  case hz => rw [hinfo53, List.size_toArray, HV.out]
  go_wp2_with fail
  go_loopw [11] (fun s11 wr => ∃ i : Nat, i ≤ 17 ∧ s11 = .int .i64 (i : Int) ∧ Aside0 ((Res.rows (Kd.int .i64) 55 3 g2 (copyTo ([] :: L) i)).P (fun k => W.heap.size ≤ k) wr) ∧ Aside0 (Below W.heap.size W wr)) (fun s11 _ => (17 - (intOf s11).toNat))
  case atStart => exact ⟨0, by omega, rfl, by rw [copyTo_zero]; exact HP2, HB0⟩
  case round =>
    obtain ⟨i, hi, rfl, HC2, HB⟩ := hrel
    by_cases hlt : i < 17
    · have hli : ([] :: L)[i]? = some (([] :: L).getD i []) := by rw [List.getD_eq_getElem?_getD, List.getElem?_eq_getElem (by rw [HL17.out]; exact hlt)]; rfl
      have HLS := Aside0.mk (copyTo_set ([] :: L) HL17.out i hlt)
      obtain ⟨A, c, hcW, hcap, hC⟩ := rows_C HP.out hli
      have hrl : (([] :: L).getD i []).length ≤ 1000000 := by
        rcases Nat.eq_zero_or_pos i with e0 | e0
        · subst e0; simp
        · obtain ⟨j, rfl⟩ : ∃ j, i = j + 1 := ⟨i - 1, by omega⟩
          have := HL.out.len j
          rw [List.getD_cons_succ]
          omega
      obtain ⟨r, er⟩ : ∃ r, ([] :: L).getD i [] = r := ⟨_, rfl⟩
      rw [er] at hcW hcap hC hrl HLS
      have hv : vs.toArray[i]? = some (.slice A r.length c) := by
        have h1 := pw_cell_below HB0.out hcW
        rwa [blk_cell HBLK.out] at h1
      have hidx := run_index_arr (w := wr) Try.underlying53 Try.underlying30 hinfo30 vs.toArray i hlt _ hv
      have HC := Aside0.mk (Kd.C_below hC HB.out)
      have HRL := Aside0.mk hrl
      obtain ⟨A2, c2, hc2, _, _⟩ := rows_C HC2.out (copyTo_at _ HL17.out i hlt)
      have HG0 := Aside0.mk hc2
      have HG1 := Aside0.mk (rows_frozen HC2.out i)
      have HG3 := Aside0.mk (rows_lt HC2.out)
      have HLI := Aside0.mk hlt
      have hi17 : (i : Int) < 17 := by omega
      clear hli hcW hcap hC hrl er hv hc2
      go_wp2_with fail
      refine start_ (n := 8) (S := fun w' => True) (ds := []) #[false, false, false, false, false, false, false, false] (by kernel_rfl) rfl rfl trivial (fun hHeld => ?_)
      refine pure_ (i := 0) (N := some 15) (v := ?_) (a' := ?_) #[true, false, false, false, false, false, false, false] rfl rfl (by kernel_rfl) (fun _ _ _ h => h) (Or.inl ⟨by rfl, ?_⟩) ?_ ?_
      rotate_left
      · intro w'
        go_simp
        with_reducible rfl
      rotate_left
      · simp only [Act.put, List.setIfInBounds_toArray, List.set_cons_zero, List.set_cons_succ, i64_w, i32_w]
        rfl
      refine pure_ (i := 1) (N := some 16) (v := ?_) (a' := ?_) #[true, true, false, false, false, false, false, false] rfl rfl (by kernel_rfl) (fun _ _ _ h => h) (Or.inl ⟨by rfl, ?_⟩) ?_ ?_
      rotate_left
      · intro w'
        go_simp
        with_reducible rfl
      rotate_left
      · simp only [Act.put, List.setIfInBounds_toArray, List.set_cons_zero, List.set_cons_succ, i64_w, i32_w]
        rfl
      refine pure_ (i := 2) (N := some 17) (v := ?_) (a' := ?_) #[true, true, true, false, false, false, false, false] rfl rfl (by kernel_rfl) (fun _ _ _ h => h) (Or.inl ⟨by rfl, ?_⟩) ?_ ?_
      rotate_left
      · intro w'
        go_simp
        with_reducible rfl
      rotate_left
      · simp only [Act.put, List.setIfInBounds_toArray, List.set_cons_zero, List.set_cons_succ, i64_w, i32_w]
        rfl
      refine pure_ (i := 4) (N := some 19) (v := ?_) (a' := ?_) #[true, true, true, false, true, false, false, false] rfl rfl (by kernel_rfl) (fun _ _ _ h => h) (Or.inl ⟨by rfl, ?_⟩) ?_ ?_
      rotate_left
      · intro w'
        go_simp
        with_reducible rfl
      rotate_left
      · simp only [Act.put, List.setIfInBounds_toArray, List.set_cons_zero, List.set_cons_succ, i64_w, i32_w]
        rfl
      refine pure_ (i := 5) (N := some 20) (v := ?_) (a' := ?_) #[true, true, true, false, true, true, false, false] rfl rfl (by kernel_rfl) (fun _ _ _ h => h) (Or.inl ⟨by rfl, ?_⟩) ?_ ?_
      rotate_left
      · intro w'
        go_simp
        with_reducible rfl
      rotate_left
      · simp only [Act.put, List.setIfInBounds_toArray, List.set_cons_zero, List.set_cons_succ, i64_w, i32_w]
        rfl
      refine one_ (i := 3) (N := some 18) #[true, true, true, true, true, true, false, false] rfl rfl (by kernel_rfl) (by decide) (fun K hK => ?_)
      refine goes_ Try.func36 (by kernel_rfl) rfl #[.slice A r.length c] (by rfl) rfl rfl (by simp only [List.map_toArray, List.map_cons, List.map_nil]; rfl) ?_
      with_reducible refine (Clone.calls A c r _ (Kd.C_drew HC.out) HRL.out).mono ?_
      rintro e w1 ⟨v, rfl, hR, hB⟩
      obtain ⟨A1, c1, ev⟩ := Kd.R_slice hR
      subst ev
      have HR1 := Aside0.mk hR
      have HB1 := Aside0.mk (below_step (below_drew (Below.refl wr.heap.size wr)) hB)
      have hcell := pw_cell_below HB1.out HG0.out
      have hfz := (World.frozen?_of_block (HB1.out.block g2 HG3.out)).trans HG1.out
      clear hR hB
      refine ⟨_, rfl, ?_⟩
      refine hK.out _ _ trivial (fun hHeld => ?_)
      clear hK K
      refine norm_ (a' := ?_) ?_ ?_
      rotate_left
      · show Act.put _ (some 18) _ = _
        simp only [Act.put, List.setIfInBounds_toArray, List.set_cons_zero, List.set_cons_succ, i64_w, i32_w]
        rfl
      refine pure_ (i := 6) (N := some 21) (v := ?_) (a' := ?_) #[true, true, true, true, true, true, true, false] rfl rfl (by kernel_rfl) (fun _ _ _ h => h) (Or.inl ⟨by rfl, ?_⟩) ?_ ?_
      rotate_left
      · intro w'
        go_simp
        with_reducible rfl
      rotate_left
      · simp only [Act.put, List.setIfInBounds_toArray, List.set_cons_zero, List.set_cons_succ, i64_w, i32_w]
        rfl
      refine one_ (i := 7) (N := none) #[true, true, true, true, true, true, true, true] rfl rfl (by kernel_rfl) (by decide) (fun K hK => ?_)
      refine skip_ (w1 := ?_) (by rfl) rfl ?_ ?_
      rotate_left
      · go_simp
        rfl
      refine hK.out _ _ trivial (fun hHeld => ?_)
      clear hK K
      refine done_ (by kernel_rfl) ?_
      obtain ⟨A3, c3, oki, hc3, _, _, hR3, hok3, hback⟩ := rows_open HC2.out (copyTo_at _ HL17.out i HLI.out)
      have hfin := hback (W1 := w1) (okn := fun k => wr.heap.size ≤ k) (Keeps.of_below HB1.out _) HR1.out (fun _ hk => .inr hk)
      rw [HLS.out] at hfin
      have HF := Aside0.mk hfin
      have HSZ := Aside0.mk HB.out.size
      have HBN := Aside0.mk (show Below W.heap.size W (w1.setCell ⟨g2, i, none⟩ (.slice A1 r.length c1)) from (below_step HB.out HB1.out).setCell (rows_ge HC2.out) _)
      clear hc3 hR3 hok3 hback hfin hcell hfz HB1 HR1 HC2
      go_wp2_with fail
      go_roundw
      case rel => exact ⟨i + 1, by omega, by simp, ⟨(Res.rows _ _ _ _ _).mono (fun k hk => by have := HSZ.out; omega) HF.out.1⟩, HBN⟩
      case measure => simp [intOf]; omega
    · have e : i = 17 := by omega
      subst e
      rw [copyTo_all _ HL17.out] at HC2
      clear hi hlt
      go_wp2_with fail
      go_ret
      exact ⟨_, rfl, HC2.out, HB.out⟩
end Go.Proofs.Ytadkafhhkidecaa.P
