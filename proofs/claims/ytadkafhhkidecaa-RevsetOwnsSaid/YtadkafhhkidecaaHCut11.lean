/- Contracts, typed by hand: the law's cut of a deed. -/
import Derived.Test.YtadkafhhkidecaaHRefD
import Derived.Test.YtadkafhhkidecaaHArgs
import Derived.Test.YtadkafhhkidecaaHWord
import Derived.Laws.Rows
set_option linter.unusedVariables false
set_option linter.unusedSimpArgs false
namespace Go.Proofs.Ytadkafhhkidecaa.P
open Go.RowKit Go.Proofs.YtadkafhhkidecaaW.PrintWords Go.Proofs.YtadkafhhkidecaaW.PrintLast Go.Proofs.YtadkafhhkidecaaW.PrintMore
def cutM (more : List (List Int)) : List (List Int) := (more.take 20).map (fun l => l.take 40)
def cutTo (more : List (List Int)) (i : Nat) : List (List Int) := (more.take i).map (fun l => l.take 40)
theorem cutTo_succ (more : List (List Int)) (i : Nat) (h : i < more.length) : cutTo more (i + 1) = cutTo more i ++ [(more.getD i []).take 40] := by
  rw [cutTo, cutTo, List.take_succ_eq_append_getElem h, List.map_append, List.getD_eq_getElem?_getD, List.getElem?_eq_getElem h]; rfl
theorem cutTo_len (more : List (List Int)) (i : Nat) (h : i ≤ more.length) : (cutTo more i).length = i := by simp [cutTo]; omega
theorem cutM_len (more : List (List Int)) : (cutM more).length ≤ 20 := by simp [cutM]; omega
theorem cutM_rows (more : List (List Int)) : ∀ r ∈ cutM more, r.length ≤ 40 := fun r hr => by
  obtain ⟨l, _, rfl⟩ := List.mem_map.1 hr
  rw [List.length_take]; omega
/-- The first 20 numbers, by the test. -/
theorem take20_small {known : List Int} (h : ¬ 20 < known.length) : known.take 20 = known := List.take_of_length_le (by omega)
theorem F_take40 {W : World} {Fo : Nat → Prop} {B : Option Addr} {l : List Int} (h : Kd.F (Kd.int .i64) W Fo B l.length l) : Kd.F (Kd.int .i64) W Fo B (l.take 40).length (l.take 40) := by
  by_cases h40 : 40 ≤ l.length
  · exact Kd.F_take h h40
  · rw [List.take_of_length_le (by omega)]; exact h
theorem World.heap_size_alloc_ (W : World) (o : Obj) : (W.alloc o).heap.size = W.heap.size + 1 := by simp
/-- The post of cut. -/
def CutPost (kind d s : Int) (A1 : Option Addr) (c1 : Nat) (known : List Int) (more : List (List Int)) (W : World) (Fo : Nat → Prop) (e : Ending) (W' : World) : Prop :=
  ∃ A c, e = .returned (.agg #[.int .i64 kind, .int .i64 d, .int .i64 s, .slice A1 (known.take 20).length c1, .slice A (cutM more).length c]) ∧ (cutM more).length ≤ c ∧ (told (Kd.int .i64) 3 W Fo).R 30 W' 0 (fun k => W.heap.size ≤ k) (.slice A (cutM more).length c) (cutM more) ∧ Below W.heap.size W W'
set_option maxHeartbeats 8000000 in
set_option maxRecDepth 100000 in
theorem cut.calls (kind d s : Int) (A1 : Option Addr) (c1 : Nat) (known : List Int) (A2 : Option Addr) (c2 : Nat) (more : List (List Int)) (W : World) (Fo : Nat → Prop) (hc1 : known.length ≤ c1) (hM : Kd.F (Kd.slice 3 (Kd.int .i64)) W Fo A2 more.length more) (hc2 : more.length ≤ c2) :
    Calls Try.prog 19 #[.agg #[.int .i64 kind, .int .i64 d, .int .i64 s, .slice A1 known.length c1, .slice A2 more.length c2]] W (CutPost kind d s A1 c1 known more W Fo) := by
  have hmx := Kd.F_max hM
  have HM := Aside0.mk hM
  clear hM
  have hu1 := Try.underlying33
  have hu2 := Try.underlying29
  obtain ⟨kl, ekl⟩ : ∃ kl, (known.take 20).length = kl := ⟨_, rfl⟩
  have HKL := Aside0.mk ekl
  clear ekl
  by_cases hk : 20 < known.length
  · have hkb : decide ((20 : Int) < (known.length : Int)) = true := decide_eq_true (by omega)
    have hkc : decide (20 < known.length) = true := decide_eq_true hk
    have hcut := hcutT A1 known.length c1 20 (by omega) hc1
    have HKL2 := Aside0.mk (show kl = 20 by rw [← HKL.out, List.length_take]; omega)
    replace hcut : ∀ W : World, (Instr.slice 30 (.slice A1 known.length c1) none (some (.int .i64 20)) none).run Try.prog W = .ok (.slice A1 kl c1) W := by rw [HKL2.out]; exact hcut
    clear hk
    go_enter Try.func19, Try.ntmps19
    go_wp2_with fail
    go_loopw [3, 4] (fun s3 s4 wr => ∃ i : Nat, i ≤ more.length ∧ i ≤ 20 ∧ s4 = .int .i64 (i : Int) ∧ Aside0 ((told (Kd.int .i64) 3 W Fo).R 30 wr 0 (fun k => W.heap.size + 1 < k) s3 (cutTo more i)) ∧ Aside0 (Below W.heap.size W wr) ∧ Aside0 (wr.heap[W.heap.size]? = some (.cells #[.int .i64 kind, .int .i64 d, .int .i64 s, .slice A1 kl c1, .slice A2 more.length c2] 33 (0, 0))) ∧ Aside0 (wr.heap[W.heap.size + 1]? = some (.cells #[.int .i64 0, .int .i64 0, .int .i64 0, .slice none 0 0, .slice none 0 0] 33 (0, 0)))) (fun _ s4 _ => (21 - (intOf s4).toNat))
    case atStart => exact ⟨0, by omega, by omega, rfl, ⟨Kd.R_nil _ _ _ _ _⟩, ⟨below_alloc (below_alloc (Below.refl _ _) _) _⟩, ⟨by exact ((below_alloc (Below.refl _ _) _).block W.heap.size (by simp)).trans (heap_alloc_new W _)⟩, ⟨by have h9 := heap_alloc_new (W.alloc (.cells #[.int .i64 kind, .int .i64 d, .int .i64 s, .slice A1 kl c1, .slice A2 more.length c2] 33)) (.cells #[.int .i64 0, .int .i64 0, .int .i64 0, .slice none 0 0, .slice none 0 0] 33); simp only [World.heap_size_alloc_] at h9; exact h9⟩⟩
    case round =>
      obtain ⟨i, hi, hi20, rfl, HR, HB, HX, HY⟩ := hrel
      obtain ⟨x0, x1, x2, x3, x4, _⟩ := blk_all5 HX.out
      have hsz := blk_lt HY.out
      by_cases hlt : i < more.length
      · by_cases h20 : i < 20
        · obtain ⟨ad, B, cb, eA, hx, hcb, hF⟩ := F_at_slice HM.out i hlt
          subst eA
          replace hx := pw_cell_below HB.out hx
          have hmx2 := Kd.F_max hF
          have b1 : decide ((i : Int) < (more.length : Int)) = true := decide_eq_true (by omega)
          have b2 : decide ((i : Int) < 20) = true := decide_eq_true (by omega)
          have HS := Aside0.mk (cutTo_succ more i hlt)
          have HLEN := Aside0.mk (cutTo_len more i (by omega))
          obtain ⟨l, el⟩ : ∃ l, more.getD i [] = l := ⟨_, rfl⟩
          rw [el] at hx hcb hF HS hmx2
          have HF := Aside0.mk (F_take40 hF)
          have HTL := Aside0.mk (show (l.take 40).length ≤ cb by rw [List.length_take]; omega)
          obtain ⟨t, et⟩ : ∃ t, l.take 40 = t := ⟨_, rfl⟩
          have htl : t.length = if 40 < l.length then 40 else l.length := by rw [← et, List.length_take]; split <;> omega
          rw [et] at HF HTL HS
          have HAP := Aside0.mk (show ∀ (P : Unit → Prop), P () → P () from fun _ h => h)
          clear el et hF HAP
          by_cases h40 : 40 < l.length
          · have b3 : decide ((40 : Int) < (l.length : Int)) = true := decide_eq_true (by omega)
            have b4 : decide (40 < l.length) = true := decide_eq_true h40
            have hcut2 := hcutT B l.length cb 40 (by omega) hcb
            replace hcut2 : ∀ W : World, (Instr.slice 30 (.slice B l.length cb) none (some (.int .i64 40)) none).run Try.prog W = .ok (.slice B t.length cb) W := by rw [htl, if_pos h40]; exact hcut2
            clear htl h40
            go_wp2_with (at_builtin; refine Kd.R_append (told (Kd.int .i64) 3 W Fo) (w0 := wr) 0 rfl (.tmp 35) (.tmp 37) 31 30 (.slice none 0 0) 24 rfl Try.underlying31 hinfo30B rfl Nat.one_pos (by decide) u3 (cutTo more i) t [.slice B t.length cb] (fun k => W.heap.size + 1 < k) (fun _ => False) rfl rfl (Kd.FK_slice_mk HTL.out HF.out) (fun _ hk => hk.elim) (fun k hk => Nat.lt_of_lt_of_le hsz hk) HR.out (Below.refl _ _) (Nat.zero_le _) ?cL ?_)
            case cL => rw [HLEN.out]; omega
            intro v2 w2 hR2 _ hg2 _
            rw [← HS.out] at hR2
            have HR2 := Aside0.mk hR2
            have HB2 := Aside0.mk (pw_below_grown HB.out _ HB.out.size hg2 (fun k hk => by have := HR.out.1 k hk; omega))
            have HX2 := Aside0.mk ((hg2.block _ (blk_lt HX.out) (fun he => by have := HR.out.1 _ he.symm; omega)).trans HX.out)
            have HY2 := Aside0.mk ((hg2.block _ (blk_lt HY.out) (fun he => by have := HR.out.1 _ he.symm; omega)).trans HY.out)
            clear hR2 hg2 HR HB HX HY HF x0 x1 x2 x3 x4 hx
            go_wp2_with fail
            go_roundw
            case rel => exact ⟨i + 1, by omega, by omega, by simp, HR2, HB2, HX2, HY2⟩
            case measure => simp [intOf]; omega
          · have b3 : decide ((40 : Int) < (l.length : Int)) = false := decide_eq_false (by omega)
            have b4 : decide (40 < l.length) = false := decide_eq_false h40
            rw [if_neg h40] at htl
            rw [← htl] at hx b3 b4
            have HRL := Aside0.mk htl
            clear htl h40
            go_wp2_with (at_builtin; refine Kd.R_append (told (Kd.int .i64) 3 W Fo) (w0 := wr) 0 rfl (.tmp 35) (.tmp 37) 31 30 (.slice none 0 0) 24 rfl Try.underlying31 hinfo30B rfl Nat.one_pos (by decide) u3 (cutTo more i) t [.slice B t.length cb] (fun k => W.heap.size + 1 < k) (fun _ => False) rfl rfl (Kd.FK_slice_mk HTL.out HF.out) (fun _ hk => hk.elim) (fun k hk => Nat.lt_of_lt_of_le hsz hk) HR.out (Below.refl _ _) (Nat.zero_le _) ?cL ?_)
            case cL => rw [HLEN.out]; omega
            intro v2 w2 hR2 _ hg2 _
            rw [← HS.out] at hR2
            have HR2 := Aside0.mk hR2
            have HB2 := Aside0.mk (pw_below_grown HB.out _ HB.out.size hg2 (fun k hk => by have := HR.out.1 k hk; omega))
            have HX2 := Aside0.mk ((hg2.block _ (blk_lt HX.out) (fun he => by have := HR.out.1 _ he.symm; omega)).trans HX.out)
            have HY2 := Aside0.mk ((hg2.block _ (blk_lt HY.out) (fun he => by have := HR.out.1 _ he.symm; omega)).trans HY.out)
            clear hR2 hg2 HR HB HX HY HF x0 x1 x2 x3 x4 hx
            go_wp2_with fail
            go_roundw
            case rel => exact ⟨i + 1, by omega, by omega, by simp, HR2, HB2, HX2, HY2⟩
            case measure => simp [intOf]; omega
        · have e20 : i = 20 := by omega
          subst e20
          have b1 : decide ((20 : Int) < (more.length : Int)) = true := decide_eq_true (by omega)
          have b2 : decide (20 < more.length) = true := decide_eq_true hlt
          have HE := Aside0.mk (show cutTo more 20 = cutM more from rfl)
          clear hlt h20
          rw [HE.out] at HR
          obtain ⟨A5, c5, ev⟩ := Kd.R_slice HR.out
          subst ev
          obtain ⟨y0, y1, y2, y3, y4, f0, f1, f2, f3, f4⟩ := blk_all5 HY.out
          obtain ⟨_, _, _, _, _, g0, g1, g2, g3, g4⟩ := blk_all5 HX.out
          go_wp2_with fail
          refine bodyPost_ret (results_cell_row rfl _ _ (W.heap.size + 1) 33 #[.int .i64 kind, .int .i64 d, .int .i64 s, .slice A1 kl c1, .slice A5 (cutM more).length c5] (0, 0) _ rfl (by
            refine blk_put (cs := #[.int .i64 kind, .int .i64 d, .int .i64 s, .slice A1 kl c1, .slice none 0 0]) ?_ _ _ rfl
            refine blk_put (cs := #[.int .i64 kind, .int .i64 d, .int .i64 s, .slice none 0 0, .slice none 0 0]) ?_ _ _ rfl
            refine blk_put (cs := #[.int .i64 kind, .int .i64 d, .int .i64 0, .slice none 0 0, .slice none 0 0]) ?_ _ _ rfl
            refine blk_put (cs := #[.int .i64 kind, .int .i64 0, .int .i64 0, .slice none 0 0, .slice none 0 0]) ?_ _ _ rfl
            refine blk_put (cs := #[.int .i64 0, .int .i64 0, .int .i64 0, .slice none 0 0, .slice none 0 0]) ?_ _ _ rfl
            exact blk_far HY.out (p := ⟨W.heap.size, 4, none⟩) (by simp) _) Try.underlying33 rfl (by kernel_rfl)) rfl ?_
          refine ⟨A5, c5, by rw [HKL.out], (Kd.R_reads' HR.out).2.1, ?_, ?_⟩
          · refine Kd.R_mono (ok := fun k => W.heap.size + 1 < k) ?_ (fun k hk => by omega)
            repeat' (refine Kd.R_far ?_ (fun k hk => by simp only; omega) _)
            exact HR.out
          · repeat' (refine Below.setCell ?_ (by simp only; omega) _)
            exact HB.out
      · have e : i = more.length := by omega
        subst e
        have b1 : decide ((more.length : Int) < (more.length : Int)) = false := decide_eq_false (by omega)
        have HE := Aside0.mk (show cutTo more more.length = cutM more by rw [cutTo, cutM, List.take_of_length_le (Nat.le_refl _), List.take_of_length_le hi20])
        clear hlt
        rw [HE.out] at HR
        obtain ⟨A5, c5, ev⟩ := Kd.R_slice HR.out
        subst ev
        obtain ⟨y0, y1, y2, y3, y4, f0, f1, f2, f3, f4⟩ := blk_all5 HY.out
        obtain ⟨_, _, _, _, _, g0, g1, g2, g3, g4⟩ := blk_all5 HX.out
        go_wp2_with fail
        refine bodyPost_ret (results_cell_row rfl _ _ (W.heap.size + 1) 33 #[.int .i64 kind, .int .i64 d, .int .i64 s, .slice A1 kl c1, .slice A5 (cutM more).length c5] (0, 0) _ rfl (by
          refine blk_put (cs := #[.int .i64 kind, .int .i64 d, .int .i64 s, .slice A1 kl c1, .slice none 0 0]) ?_ _ _ rfl
          refine blk_put (cs := #[.int .i64 kind, .int .i64 d, .int .i64 s, .slice none 0 0, .slice none 0 0]) ?_ _ _ rfl
          refine blk_put (cs := #[.int .i64 kind, .int .i64 d, .int .i64 0, .slice none 0 0, .slice none 0 0]) ?_ _ _ rfl
          refine blk_put (cs := #[.int .i64 kind, .int .i64 0, .int .i64 0, .slice none 0 0, .slice none 0 0]) ?_ _ _ rfl
          refine blk_put (cs := #[.int .i64 0, .int .i64 0, .int .i64 0, .slice none 0 0, .slice none 0 0]) ?_ _ _ rfl
          exact blk_far HY.out (p := ⟨W.heap.size, 4, none⟩) (by simp) _) Try.underlying33 rfl (by kernel_rfl)) rfl ?_
        refine ⟨A5, c5, by rw [HKL.out], (Kd.R_reads' HR.out).2.1, ?_, ?_⟩
        · refine Kd.R_mono (ok := fun k => W.heap.size + 1 < k) ?_ (fun k hk => by omega)
          repeat' (refine Kd.R_far ?_ (fun k hk => by simp only; omega) _)
          exact HR.out
        · repeat' (refine Below.setCell ?_ (by simp only; omega) _)
          exact HB.out
  · have hkb : decide ((20 : Int) < (known.length : Int)) = false := decide_eq_false (by omega)
    have hkc : decide (20 < known.length) = false := decide_eq_false hk
    have HKL2 := Aside0.mk (show kl = known.length by rw [← HKL.out, List.length_take]; omega)
    clear hk
    go_enter Try.func19, Try.ntmps19
    go_wp2_with fail
    go_loopw [3, 4] (fun s3 s4 wr => ∃ i : Nat, i ≤ more.length ∧ i ≤ 20 ∧ s4 = .int .i64 (i : Int) ∧ Aside0 ((told (Kd.int .i64) 3 W Fo).R 30 wr 0 (fun k => W.heap.size + 1 < k) s3 (cutTo more i)) ∧ Aside0 (Below W.heap.size W wr) ∧ Aside0 (wr.heap[W.heap.size]? = some (.cells #[.int .i64 kind, .int .i64 d, .int .i64 s, .slice A1 kl c1, .slice A2 more.length c2] 33 (0, 0))) ∧ Aside0 (wr.heap[W.heap.size + 1]? = some (.cells #[.int .i64 0, .int .i64 0, .int .i64 0, .slice none 0 0, .slice none 0 0] 33 (0, 0)))) (fun _ s4 _ => (21 - (intOf s4).toNat))
    case atStart => exact ⟨0, by omega, by omega, rfl, ⟨Kd.R_nil _ _ _ _ _⟩, ⟨below_alloc (below_alloc (Below.refl _ _) _) _⟩, ⟨by rw [HKL2.out]; exact ((below_alloc (Below.refl _ _) _).block W.heap.size (by simp)).trans (heap_alloc_new W _)⟩, ⟨by have h9 := heap_alloc_new (W.alloc (.cells #[.int .i64 kind, .int .i64 d, .int .i64 s, .slice A1 known.length c1, .slice A2 more.length c2] 33)) (.cells #[.int .i64 0, .int .i64 0, .int .i64 0, .slice none 0 0, .slice none 0 0] 33); simp only [World.heap_size_alloc_] at h9; exact h9⟩⟩
    case round =>
      obtain ⟨i, hi, hi20, rfl, HR, HB, HX, HY⟩ := hrel
      obtain ⟨x0, x1, x2, x3, x4, _⟩ := blk_all5 HX.out
      have hsz := blk_lt HY.out
      by_cases hlt : i < more.length
      · by_cases h20 : i < 20
        · obtain ⟨ad, B, cb, eA, hx, hcb, hF⟩ := F_at_slice HM.out i hlt
          subst eA
          replace hx := pw_cell_below HB.out hx
          have hmx2 := Kd.F_max hF
          have b1 : decide ((i : Int) < (more.length : Int)) = true := decide_eq_true (by omega)
          have b2 : decide ((i : Int) < 20) = true := decide_eq_true (by omega)
          have HS := Aside0.mk (cutTo_succ more i hlt)
          have HLEN := Aside0.mk (cutTo_len more i (by omega))
          obtain ⟨l, el⟩ : ∃ l, more.getD i [] = l := ⟨_, rfl⟩
          rw [el] at hx hcb hF HS hmx2
          have HF := Aside0.mk (F_take40 hF)
          have HTL := Aside0.mk (show (l.take 40).length ≤ cb by rw [List.length_take]; omega)
          obtain ⟨t, et⟩ : ∃ t, l.take 40 = t := ⟨_, rfl⟩
          have htl : t.length = if 40 < l.length then 40 else l.length := by rw [← et, List.length_take]; split <;> omega
          rw [et] at HF HTL HS
          have HAP := Aside0.mk (show ∀ (P : Unit → Prop), P () → P () from fun _ h => h)
          clear el et hF HAP
          by_cases h40 : 40 < l.length
          · have b3 : decide ((40 : Int) < (l.length : Int)) = true := decide_eq_true (by omega)
            have b4 : decide (40 < l.length) = true := decide_eq_true h40
            have hcut2 := hcutT B l.length cb 40 (by omega) hcb
            replace hcut2 : ∀ W : World, (Instr.slice 30 (.slice B l.length cb) none (some (.int .i64 40)) none).run Try.prog W = .ok (.slice B t.length cb) W := by rw [htl, if_pos h40]; exact hcut2
            clear htl h40
            go_wp2_with (at_builtin; refine Kd.R_append (told (Kd.int .i64) 3 W Fo) (w0 := wr) 0 rfl (.tmp 35) (.tmp 37) 31 30 (.slice none 0 0) 24 rfl Try.underlying31 hinfo30B rfl Nat.one_pos (by decide) u3 (cutTo more i) t [.slice B t.length cb] (fun k => W.heap.size + 1 < k) (fun _ => False) rfl rfl (Kd.FK_slice_mk HTL.out HF.out) (fun _ hk => hk.elim) (fun k hk => Nat.lt_of_lt_of_le hsz hk) HR.out (Below.refl _ _) (Nat.zero_le _) ?cL ?_)
            case cL => rw [HLEN.out]; omega
            intro v2 w2 hR2 _ hg2 _
            rw [← HS.out] at hR2
            have HR2 := Aside0.mk hR2
            have HB2 := Aside0.mk (pw_below_grown HB.out _ HB.out.size hg2 (fun k hk => by have := HR.out.1 k hk; omega))
            have HX2 := Aside0.mk ((hg2.block _ (blk_lt HX.out) (fun he => by have := HR.out.1 _ he.symm; omega)).trans HX.out)
            have HY2 := Aside0.mk ((hg2.block _ (blk_lt HY.out) (fun he => by have := HR.out.1 _ he.symm; omega)).trans HY.out)
            clear hR2 hg2 HR HB HX HY HF x0 x1 x2 x3 x4 hx
            go_wp2_with fail
            go_roundw
            case rel => exact ⟨i + 1, by omega, by omega, by simp, HR2, HB2, HX2, HY2⟩
            case measure => simp [intOf]; omega
          · have b3 : decide ((40 : Int) < (l.length : Int)) = false := decide_eq_false (by omega)
            have b4 : decide (40 < l.length) = false := decide_eq_false h40
            rw [if_neg h40] at htl
            rw [← htl] at hx b3 b4
            have HRL := Aside0.mk htl
            clear htl h40
            go_wp2_with (at_builtin; refine Kd.R_append (told (Kd.int .i64) 3 W Fo) (w0 := wr) 0 rfl (.tmp 35) (.tmp 37) 31 30 (.slice none 0 0) 24 rfl Try.underlying31 hinfo30B rfl Nat.one_pos (by decide) u3 (cutTo more i) t [.slice B t.length cb] (fun k => W.heap.size + 1 < k) (fun _ => False) rfl rfl (Kd.FK_slice_mk HTL.out HF.out) (fun _ hk => hk.elim) (fun k hk => Nat.lt_of_lt_of_le hsz hk) HR.out (Below.refl _ _) (Nat.zero_le _) ?cL ?_)
            case cL => rw [HLEN.out]; omega
            intro v2 w2 hR2 _ hg2 _
            rw [← HS.out] at hR2
            have HR2 := Aside0.mk hR2
            have HB2 := Aside0.mk (pw_below_grown HB.out _ HB.out.size hg2 (fun k hk => by have := HR.out.1 k hk; omega))
            have HX2 := Aside0.mk ((hg2.block _ (blk_lt HX.out) (fun he => by have := HR.out.1 _ he.symm; omega)).trans HX.out)
            have HY2 := Aside0.mk ((hg2.block _ (blk_lt HY.out) (fun he => by have := HR.out.1 _ he.symm; omega)).trans HY.out)
            clear hR2 hg2 HR HB HX HY HF x0 x1 x2 x3 x4 hx
            go_wp2_with fail
            go_roundw
            case rel => exact ⟨i + 1, by omega, by omega, by simp, HR2, HB2, HX2, HY2⟩
            case measure => simp [intOf]; omega
        · have e20 : i = 20 := by omega
          subst e20
          have b1 : decide ((20 : Int) < (more.length : Int)) = true := decide_eq_true (by omega)
          have b2 : decide (20 < more.length) = true := decide_eq_true hlt
          have HE := Aside0.mk (show cutTo more 20 = cutM more from rfl)
          clear hlt h20
          rw [HE.out] at HR
          obtain ⟨A5, c5, ev⟩ := Kd.R_slice HR.out
          subst ev
          obtain ⟨y0, y1, y2, y3, y4, f0, f1, f2, f3, f4⟩ := blk_all5 HY.out
          obtain ⟨_, _, _, _, _, g0, g1, g2, g3, g4⟩ := blk_all5 HX.out
          go_wp2_with fail
          refine bodyPost_ret (results_cell_row rfl _ _ (W.heap.size + 1) 33 #[.int .i64 kind, .int .i64 d, .int .i64 s, .slice A1 kl c1, .slice A5 (cutM more).length c5] (0, 0) _ rfl (by
            refine blk_put (cs := #[.int .i64 kind, .int .i64 d, .int .i64 s, .slice A1 kl c1, .slice none 0 0]) ?_ _ _ rfl
            refine blk_put (cs := #[.int .i64 kind, .int .i64 d, .int .i64 s, .slice none 0 0, .slice none 0 0]) ?_ _ _ rfl
            refine blk_put (cs := #[.int .i64 kind, .int .i64 d, .int .i64 0, .slice none 0 0, .slice none 0 0]) ?_ _ _ rfl
            refine blk_put (cs := #[.int .i64 kind, .int .i64 0, .int .i64 0, .slice none 0 0, .slice none 0 0]) ?_ _ _ rfl
            refine blk_put (cs := #[.int .i64 0, .int .i64 0, .int .i64 0, .slice none 0 0, .slice none 0 0]) ?_ _ _ rfl
            exact blk_far HY.out (p := ⟨W.heap.size, 4, none⟩) (by simp) _) Try.underlying33 rfl (by kernel_rfl)) rfl ?_
          refine ⟨A5, c5, by rw [HKL.out], (Kd.R_reads' HR.out).2.1, ?_, ?_⟩
          · refine Kd.R_mono (ok := fun k => W.heap.size + 1 < k) ?_ (fun k hk => by omega)
            repeat' (refine Kd.R_far ?_ (fun k hk => by simp only; omega) _)
            exact HR.out
          · repeat' (refine Below.setCell ?_ (by simp only; omega) _)
            exact HB.out
      · have e : i = more.length := by omega
        subst e
        have b1 : decide ((more.length : Int) < (more.length : Int)) = false := decide_eq_false (by omega)
        have HE := Aside0.mk (show cutTo more more.length = cutM more by rw [cutTo, cutM, List.take_of_length_le (Nat.le_refl _), List.take_of_length_le hi20])
        clear hlt
        rw [HE.out] at HR
        obtain ⟨A5, c5, ev⟩ := Kd.R_slice HR.out
        subst ev
        obtain ⟨y0, y1, y2, y3, y4, f0, f1, f2, f3, f4⟩ := blk_all5 HY.out
        obtain ⟨_, _, _, _, _, g0, g1, g2, g3, g4⟩ := blk_all5 HX.out
        go_wp2_with fail
        refine bodyPost_ret (results_cell_row rfl _ _ (W.heap.size + 1) 33 #[.int .i64 kind, .int .i64 d, .int .i64 s, .slice A1 kl c1, .slice A5 (cutM more).length c5] (0, 0) _ rfl (by
          refine blk_put (cs := #[.int .i64 kind, .int .i64 d, .int .i64 s, .slice A1 kl c1, .slice none 0 0]) ?_ _ _ rfl
          refine blk_put (cs := #[.int .i64 kind, .int .i64 d, .int .i64 s, .slice none 0 0, .slice none 0 0]) ?_ _ _ rfl
          refine blk_put (cs := #[.int .i64 kind, .int .i64 d, .int .i64 0, .slice none 0 0, .slice none 0 0]) ?_ _ _ rfl
          refine blk_put (cs := #[.int .i64 kind, .int .i64 0, .int .i64 0, .slice none 0 0, .slice none 0 0]) ?_ _ _ rfl
          refine blk_put (cs := #[.int .i64 0, .int .i64 0, .int .i64 0, .slice none 0 0, .slice none 0 0]) ?_ _ _ rfl
          exact blk_far HY.out (p := ⟨W.heap.size, 4, none⟩) (by simp) _) Try.underlying33 rfl (by kernel_rfl)) rfl ?_
        refine ⟨A5, c5, by rw [HKL.out], (Kd.R_reads' HR.out).2.1, ?_, ?_⟩
        · refine Kd.R_mono (ok := fun k => W.heap.size + 1 < k) ?_ (fun k hk => by omega)
          repeat' (refine Kd.R_far ?_ (fun k hk => by simp only; omega) _)
          exact HR.out
        · repeat' (refine Below.setCell ?_ (by simp only; omega) _)
          exact HB.out
end Go.Proofs.Ytadkafhhkidecaa.P
