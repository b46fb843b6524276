/- Contracts, typed by hand and by a program: the document's journal: what it is; the law's like. -/
import Derived.Test.YtmfmoddaejoekaaHTapes
set_option linter.unusedVariables false
set_option linter.unusedSimpArgs false
namespace Go.Proofs.Ytmfmoddaejoekaa.P
open Go.RowKit Go.Proofs.YtmfmoddaejoekaaW.PrintWords Go.Proofs.YtmfmoddaejoekaaW.PrintLast Go.Proofs.YtmfmoddaejoekaaW.PrintMore
/-- What every world tells that has w's blocks of Fo, and the part's own blocks as they are. -/
def Res.seen (w : World) (Fo : Nat → Prop) (Q : World → Prop) : Res where
 P := fun ok W => ∀ W', Agree w Fo W' → (∀ k, ok k → k < W.heap.size → W'.heap[k]? = W.heap[k]?) → Q W'
 mono := fun hok h W' ha hk => h W' ha (fun k hk1 hlt => hk k (hok k hk1) hlt)
 step := fun h hm W' ha hk => h W' ha (fun k hk1 hlt => (hk k hk1 (heap_lt (hm k hk1 hlt) hlt)).trans (hm k hk1 hlt))
 bound := fun h W' ha hk => h W' ha (fun k hk1 hlt => hk k ⟨hk1, hlt⟩ hlt)
abbrev RowsQ (A : Option Addr) (L : List (List Int)) (W : World) : Prop := Kd.C (Kd.slice 5 (Kd.int .u8)) W A L.length L
abbrev RJourC (w : World) (Fo : Nat → Prop) (gx gt : Nat) (A : Option Addr) (c : Nat) (side g size : Int) (L : List (List Int)) (br : Bool) : Res :=
 Res.obj gx 91 [.pointer (some ⟨gt, 0, none⟩), .int .i64 side, .int .i64 g, .slice A L.length c, .int .i64 size, .bool br] [Res.seen w Fo (RowsQ A L)]
/-- The document's journal. -/
def RJour (w : World) (Fo : Nat → Prop) (gx gt : Nat) (J : JM) : Res := Res.ex fun p : Option Addr × Nat => Res.with_ (J.L.length ≤ p.2) (RJourC w Fo gx gt p.1 p.2 J.side J.g J.size J.L J.broken)
theorem rjour_open {w : World} {Fo : Nat → Prop} {gx gt : Nat} {J : JM} {ok : Nat → Prop} {W : World} (h : (RJour w Fo gx gt J).P ok W) : ∃ A c, J.L.length ≤ c ∧ (RJourC w Fo gx gt A c J.side J.g J.size J.L J.broken).P ok W := by
 obtain ⟨p, h1, h2⟩ := h
 exact ⟨_, _, h1, h2⟩
theorem rjour_mk {w : World} {Fo : Nat → Prop} {gx gt : Nat} {J : JM} {ok : Nat → Prop} {W : World} {A : Option Addr} {c : Nat} (h1 : J.L.length ≤ c) (h : (RJourC w Fo gx gt A c J.side J.g J.size J.L J.broken).P ok W) : (RJour w Fo gx gt J).P ok W := ⟨(A, c), h1, h⟩
theorem rjour_blk {w : World} {Fo : Nat → Prop} {gx gt : Nat} {A : Option Addr} {c : Nat} {side g size : Int} {L : List (List Int)} {br : Bool} {ok : Nat → Prop} {W : World} (h : (RJourC w Fo gx gt A c side g size L br).P ok W) : W.heap[gx]? = some (.cells #[.pointer (some ⟨gt, 0, none⟩), .int .i64 side, .int .i64 g, .slice A L.length c, .int .i64 size, .bool br] 91 (0, 0)) := obj_blk h
theorem rjour_sees {w : World} {Fo : Nat → Prop} {gx gt : Nat} {A : Option Addr} {c : Nat} {side g size : Int} {L : List (List Int)} {br : Bool} {ok : Nat → Prop} {W : World} (h : (RJourC w Fo gx gt A c side g size L br).P ok W) : ∀ W', Agree w Fo W' → (∀ k, ok k → k < W.heap.size → W'.heap[k]? = W.heap[k]?) → RowsQ A L W' := by
 obtain ⟨oki, h1, h2⟩ := obj_get h 0 rfl
 exact fun W' ha hk => h1 W' ha (fun k hk1 hlt => hk k (h2 k hk1).1 hlt)
set_option maxHeartbeats 4000000 in
set_option maxRecDepth 100000 in
theorem like.calls (w : World) (Fo : Nat → Prop) (gj gt gx gr : Nat) (J : JM) (W : World) (ok okx : Nat → Prop) (hA : Agree w Fo W) (hP : (PJour gj gt J).P ok W) (hR : (RJour w Fo gx gr J).P okx W) (hl : J.L.length ≤ 1000000) (hr : ∀ r ∈ J.L, r.length ≤ 100000) :
  Calls Try.prog 25 #[.pointer (some ⟨gj, 0, none⟩), .pointer (some ⟨gx, 0, none⟩)] W fun e W' => e = .returned (.bool true) ∧ Below W.heap.size W W' := by
 obtain ⟨w3, e3⟩ : ∃ w3 : World, w3 = W.drew := ⟨_, rfl⟩
 have HB3 := Aside0.mk (show Below W.heap.size W w3 from by rw [e3]; exact below_drew1 (Below.refl _ _))
 have hA3 : Agree w Fo w3 := by rw [e3]; exact hA
 have HJ3 := Aside0.mk ((PJour gj gt J).on hP HB3.out)
 obtain ⟨Ax, cx, hcx, hC⟩ := rjour_open ((RJour w Fo gx gr J).on hR HB3.out)
 obtain ⟨x0, x1, x2, x3, x4, x5, _⟩ := blk_all6 (rjour_blk hC)
 have HSEE := Aside0.mk (show ∀ w4, Below w3.heap.size w3 w4 → RowsQ Ax J.L w4 from fun w4 hb => rjour_sees hC w4 (fun k hf hlt => by
  have h1 := hA3 k hf hlt
  rw [← h1]
  exact hb.block k (heap_lt h1 hlt)) (fun k _ hlt => hb.block k hlt))
 have HCX := Aside0.mk hcx
 have HLL := Aside0.mk (And.intro hl hr)
 have HKK := Aside0.mk (show ∃ k, liveryref17_Same.f k J.L J.L = some true from by
  obtain ⟨k, hk⟩ := same17 J.L J.L hl (fun r hh => Nat.lt_of_le_of_lt (hr r hh) (by decide))
  rw [decide_eq_true rfl] at hk
  exact ⟨k, hk⟩)
 clear hA hA3 hP hR hC hcx hl hr x0 x1 x5
 go_enter Try.func25, Try.ntmps25
 go_wp2_with fail
 refine start_ (n := 8) (S := fun w' => w'.cell? ⟨gx, 3, none⟩ = some (.slice Ax J.L.length cx)) (ds := []) #[false, false, false, false, false, false, false, false] (by kernel_rfl) rfl rfl ((by rw [← e3]; exact x3)) (fun hHeld => ?_)
 rw [← e3] at hHeld ⊢
 clear e3
 refine pure_ (i := 0) (N := some 6) (v := ?_) (a' := ?_) #[true, false, false, false, false, false, false, false] rfl rfl (by kernel_rfl) (fun _ _ _ h => h) (Or.inl ⟨by rfl, ?_⟩) ?_ ?_
 rotate_left
 ·intro w'
  go_simp
  with_reducible rfl
 rotate_left
 ·simp only [Act.put, List.setIfInBounds_toArray, List.set_cons_zero, List.set_cons_succ, i64_w, i32_w]
  rfl
 refine pure_ (i := 2) (N := some 8) (v := ?_) (a' := ?_) #[true, false, true, false, false, false, false, false] rfl rfl (by kernel_rfl) (fun _ _ _ h => h) (Or.inl ⟨by rfl, ?_⟩) ?_ ?_
 rotate_left
 ·intro w'
  go_simp
  with_reducible rfl
 rotate_left
 ·simp only [Act.put, List.setIfInBounds_toArray, List.set_cons_zero, List.set_cons_succ, i64_w, i32_w]
  rfl
 refine pure_ (i := 3) (N := some 9) (v := ?_) (a' := ?_) #[true, false, true, true, false, false, false, false] rfl rfl (by kernel_rfl) (fun _ _ _ h => h) (Or.inl ⟨by rfl, ?_⟩) ?_ ?_
 rotate_left
 ·intro w'
  go_simp
  with_reducible rfl
 rotate_left
 ·simp only [Act.put, List.setIfInBounds_toArray, List.set_cons_zero, List.set_cons_succ, i64_w, i32_w]
  rfl
 refine pure_ (i := 4) (N := some 10) (v := ?_) (a' := ?_) #[true, false, true, true, true, false, false, false] rfl rfl (by kernel_rfl) (fun _ _ _ h => h) (Or.inl ⟨by rfl, ?_⟩) ?_ ?_
 rotate_left
 ·intro w'
  go_simp
  with_reducible rfl
 rotate_left
 ·simp only [Act.put, List.setIfInBounds_toArray, List.set_cons_zero, List.set_cons_succ, i64_w, i32_w]
  rfl
 refine take_ (i := 5) (N := some 11) (v := ?_) (a' := ?_) #[true, false, true, true, true, true, false, false] rfl rfl (by kernel_rfl) (fun _ _ _ h => h) (Or.inl ⟨by rfl, ?_⟩) hHeld ?_ ?_
 rotate_left
 ·intro w' s0
  go_simp
  with_reducible rfl
 rotate_left
 ·simp only [Act.put, List.setIfInBounds_toArray, List.set_cons_zero, List.set_cons_succ, i64_w, i32_w]
  rfl
 refine one_ (i := 1) (N := some 7) #[true, true, true, true, true, true, false, false] rfl rfl (by kernel_rfl) (by decide) (fun K hK => ?_)
 refine goes_ Try.func14 (by kernel_rfl) rfl #[.pointer (some ⟨gj, 0, none⟩)] (by rfl) rfl rfl (by simp only [List.map_toArray, List.map_cons, List.map_nil]; rfl) ?_
 with_reducible refine ((jour_Records.calls gj gt J w3 _ HJ3.out HLL.out.1 HLL.out.2)).mono ?_
 rintro e w4 ⟨v4, rfl, hR4, hB4⟩
 obtain ⟨A4, c4, ev4⟩ := Kd.R_slice hR4
 subst ev4
 have HR4 := Aside0.mk (Kd.R_reads' hR4)
 have HB4 := Aside0.mk hB4
 have HC4 := Aside0.mk (HSEE.out w4 hB4)
 clear hR4 hB4
 refine ⟨_, rfl, ?_⟩
 refine hK.out _ _ ((pw_cell_below HB4.out x3)) (fun hHeld => ?_)
 clear hK K
 refine norm_ (a' := ?_) ?_ ?_
 rotate_left
 ·show Act.put _ (some 7) _ = _
  simp only [Act.put, List.setIfInBounds_toArray, List.set_cons_zero, List.set_cons_succ, i64_w, i32_w]
  rfl
 refine one_ (i := 6) (N := some 12) #[true, true, true, true, true, true, true, false] rfl rfl (by kernel_rfl) (by decide) (fun K hK => ?_)
 refine goes_ Try.func15 (by kernel_rfl) rfl #[.slice A4 J.L.length c4, .slice Ax J.L.length cx] (by rfl) rfl rfl (by simp only [List.map_toArray, List.map_cons, List.map_nil]; rfl) ?_
 with_reducible refine ((liveryref17_Same.calls HKK.out.choose A4 c4 J.L Ax cx J.L true w4 HR4.out.2.2 HR4.out.2.1 HC4.out HCX.out HKK.out.choose_spec)).mono ?_
 rintro e w5 ⟨rfl, hd5⟩
 have HB5 := Aside0.mk (below_step HB4.out hd5.below)
 clear hd5
 refine ⟨_, rfl, ?_⟩
 refine hK.out _ _ ((pw_cell_below HB5.out x3)) (fun hHeld => ?_)
 clear hK K
 refine norm_ (a' := ?_) ?_ ?_
 rotate_left
 ·show Act.put _ (some 12) _ = _
  simp only [Act.put, List.setIfInBounds_toArray, List.set_cons_zero, List.set_cons_succ, i64_w, i32_w]
  rfl
 refine pure_ (i := 7) (N := some 5) (v := ?_) (a' := ?_) #[true, true, true, true, true, true, true, true] rfl rfl (by kernel_rfl) (fun _ _ _ h => h) (Or.inl ⟨by rfl, ?_⟩) ?_ ?_
 rotate_left
 ·intro w'
  go_simp
  with_reducible rfl
 rotate_left
 ·simp only [Act.put, List.setIfInBounds_toArray, List.set_cons_zero, List.set_cons_succ, i64_w, i32_w]
  rfl
 refine done_ (by kernel_rfl) ?_
 have HY := Aside0.mk (pw_cell_below HB5.out x4)
 have HY2 := Aside0.mk (pw_cell_below HB5.out x2)
 obtain ⟨w6, e6⟩ : ∃ w6 : World, w6 = w5.drew := ⟨_, rfl⟩
 have HB6 := Aside0.mk (show Below w3.heap.size w3 w6 from by rw [e6]; exact below_step HB5.out (below_drew1 (Below.refl _ _)))
 have HJ6 := Aside0.mk ((PJour gj gt J).on HJ3.out HB6.out)
 have y4 := pw_cell_below HB6.out x4
 have y2 := pw_cell_below HB6.out x2
 have b1 : (J.size == J.size) = true := by simp
 have b2 : (J.g == J.g) = true := by simp
 go_wp2_with fail
 refine start_ (n := 20) (S := fun w' => w'.cell? ⟨gx, 4, none⟩ = some (.int .i64 J.size) ∧ w'.cell? ⟨gx, 2, none⟩ = some (.int .i64 J.g)) (ds := []) #[false, false, false, false, false, false, false, false, false, false, false, false, false, false, false, false, false, false, false, false] (by kernel_rfl) rfl rfl ⟨(by rw [← e6]; exact y4), (by rw [← e6]; exact y2)⟩ (fun hHeld => ?_)
 rw [← e6] at hHeld ⊢
 clear e6
 refine pure_ (i := 0) (N := some 13) (v := ?_) (a' := ?_) #[true, false, false, false, false, false, false, false, false, false, false, false, false, false, false, false, false, false, false, false] rfl rfl (by kernel_rfl) (fun _ _ _ h => h) (Or.inl ⟨by rfl, ?_⟩) ?_ ?_
 rotate_left
 ·intro w'
  go_simp
  with_reducible rfl
 rotate_left
 ·simp only [Act.put, List.setIfInBounds_toArray, List.set_cons_zero, List.set_cons_succ, i64_w, i32_w]
  rfl
 refine pure_ (i := 1) (N := some 14) (v := ?_) (a' := ?_) #[true, true, false, false, false, false, false, false, false, false, false, false, false, false, false, false, false, false, false, false] rfl rfl (by kernel_rfl) (fun _ _ _ h => h) (Or.inl ⟨by rfl, ?_⟩) ?_ ?_
 rotate_left
 ·intro w'
  go_simp
  with_reducible rfl
 rotate_left
 ·simp only [Act.put, List.setIfInBounds_toArray, List.set_cons_zero, List.set_cons_succ, i64_w, i32_w]
  rfl
 refine pure_ (i := 2) (N := some 15) (v := ?_) (a' := ?_) #[true, true, true, false, false, false, false, false, false, false, false, false, false, false, false, false, false, false, false, false] rfl rfl (by kernel_rfl) (fun _ _ _ h => h) (Or.inl ⟨by rfl, ?_⟩) ?_ ?_
 rotate_left
 ·intro w'
  go_simp
  with_reducible rfl
 rotate_left
 ·simp only [Act.put, List.setIfInBounds_toArray, List.set_cons_zero, List.set_cons_succ, i64_w, i32_w]
  rfl
 refine pure_ (i := 4) (N := some 17) (v := ?_) (a' := ?_) #[true, true, true, false, true, false, false, false, false, false, false, false, false, false, false, false, false, false, false, false] rfl rfl (by kernel_rfl) (fun _ _ _ h => h) (Or.inl ⟨by rfl, ?_⟩) ?_ ?_
 rotate_left
 ·intro w'
  go_simp
  with_reducible rfl
 rotate_left
 ·simp only [Act.put, List.setIfInBounds_toArray, List.set_cons_zero, List.set_cons_succ, i64_w, i32_w]
  rfl
 refine pure_ (i := 5) (N := some 18) (v := ?_) (a' := ?_) #[true, true, true, false, true, true, false, false, false, false, false, false, false, false, false, false, false, false, false, false] rfl rfl (by kernel_rfl) (fun _ _ _ h => h) (Or.inl ⟨by rfl, ?_⟩) ?_ ?_
 rotate_left
 ·intro w'
  go_simp
  with_reducible rfl
 rotate_left
 ·simp only [Act.put, List.setIfInBounds_toArray, List.set_cons_zero, List.set_cons_succ, i64_w, i32_w]
  rfl
 refine pure_ (i := 6) (N := some 19) (v := ?_) (a' := ?_) #[true, true, true, false, true, true, true, false, false, false, false, false, false, false, false, false, false, false, false, false] rfl rfl (by kernel_rfl) (fun _ _ _ h => h) (Or.inl ⟨by rfl, ?_⟩) ?_ ?_
 rotate_left
 ·intro w'
  go_simp
  with_reducible rfl
 rotate_left
 ·simp only [Act.put, List.setIfInBounds_toArray, List.set_cons_zero, List.set_cons_succ, i64_w, i32_w]
  rfl
 refine take_ (i := 7) (N := some 20) (v := ?_) (a' := ?_) #[true, true, true, false, true, true, true, true, false, false, false, false, false, false, false, false, false, false, false, false] rfl rfl (by kernel_rfl) (fun _ _ _ h => h) (Or.inl ⟨by rfl, ?_⟩) hHeld ?_ ?_
 rotate_left
 ·rintro w' ⟨s0, s1⟩
  go_simp
  with_reducible rfl
 rotate_left
 ·simp only [Act.put, List.setIfInBounds_toArray, List.set_cons_zero, List.set_cons_succ, i64_w, i32_w]
  rfl
 refine one_ (i := 3) (N := some 16) #[true, true, true, true, true, true, true, true, false, false, false, false, false, false, false, false, false, false, false, false] rfl rfl (by kernel_rfl) (by decide) (fun K hK => ?_)
 refine goes_ Try.func17 (by kernel_rfl) rfl #[.pointer (some ⟨gj, 0, none⟩)] (by rfl) rfl rfl (by simp only [List.map_toArray, List.map_cons, List.map_nil]; rfl) ?_
 with_reducible refine ((jour_Size.calls gj gt J w6 _ HJ6.out)).mono ?_
 rintro e w7 ⟨rfl, rfl⟩
 refine ⟨_, rfl, ?_⟩
 refine hK.out _ _ ⟨y4, y2⟩ (fun hHeld => ?_)
 clear hK K
 refine norm_ (a' := ?_) ?_ ?_
 rotate_left
 ·show Act.put _ (some 16) _ = _
  simp only [Act.put, List.setIfInBounds_toArray, List.set_cons_zero, List.set_cons_succ, i64_w, i32_w]
  rfl
 refine pure_ (i := 8) (N := some 21) (v := ?_) (a' := ?_) #[true, true, true, true, true, true, true, true, true, false, false, false, false, false, false, false, false, false, false, false] rfl rfl (by kernel_rfl) (fun _ _ _ h => h) (Or.inl ⟨by rfl, ?_⟩) ?_ ?_
 rotate_left
 ·intro w'
  go_simp
  with_reducible rfl
 rotate_left
 ·simp only [Act.put, List.setIfInBounds_toArray, List.set_cons_zero, List.set_cons_succ, i64_w, i32_w]
  rfl
 refine pure_ (i := 9) (N := some 22) (v := ?_) (a' := ?_) #[true, true, true, true, true, true, true, true, true, true, false, false, false, false, false, false, false, false, false, false] rfl rfl (by kernel_rfl) (fun _ _ _ h => h) (Or.inl ⟨by rfl, ?_⟩) ?_ ?_
 rotate_left
 ·intro w'
  go_simp
  with_reducible rfl
 rotate_left
 ·simp only [Act.put, List.setIfInBounds_toArray, List.set_cons_zero, List.set_cons_succ, i64_w, i32_w]
  rfl
 refine pure_ (i := 10) (N := some 23) (v := ?_) (a' := ?_) #[true, true, true, true, true, true, true, true, true, true, true, false, false, false, false, false, false, false, false, false] rfl rfl (by kernel_rfl) (fun _ _ _ h => h) (Or.inl ⟨by rfl, ?_⟩) ?_ ?_
 rotate_left
 ·intro w'
  go_simp
  with_reducible rfl
 rotate_left
 ·simp only [Act.put, List.setIfInBounds_toArray, List.set_cons_zero, List.set_cons_succ, i64_w, i32_w]
  rfl
 refine pure_ (i := 11) (N := some 24) (v := ?_) (a' := ?_) #[true, true, true, true, true, true, true, true, true, true, true, true, false, false, false, false, false, false, false, false] rfl rfl (by kernel_rfl) (fun _ _ _ h => h) (Or.inl ⟨by rfl, ?_⟩) ?_ ?_
 rotate_left
 ·intro w'
  go_simp
  with_reducible rfl
 rotate_left
 ·simp only [Act.put, List.setIfInBounds_toArray, List.set_cons_zero, List.set_cons_succ, i64_w, i32_w]
  rfl
 refine pure_ (i := 13) (N := some 26) (v := ?_) (a' := ?_) #[true, true, true, true, true, true, true, true, true, true, true, true, false, true, false, false, false, false, false, false] rfl rfl (by kernel_rfl) (fun _ _ _ h => h) (Or.inl ⟨by rfl, ?_⟩) ?_ ?_
 rotate_left
 ·intro w'
  go_simp
  with_reducible rfl
 rotate_left
 ·simp only [Act.put, List.setIfInBounds_toArray, List.set_cons_zero, List.set_cons_succ, i64_w, i32_w]
  rfl
 refine pure_ (i := 14) (N := some 27) (v := ?_) (a' := ?_) #[true, true, true, true, true, true, true, true, true, true, true, true, false, true, true, false, false, false, false, false] rfl rfl (by kernel_rfl) (fun _ _ _ h => h) (Or.inl ⟨by rfl, ?_⟩) ?_ ?_
 rotate_left
 ·intro w'
  go_simp
  with_reducible rfl
 rotate_left
 ·simp only [Act.put, List.setIfInBounds_toArray, List.set_cons_zero, List.set_cons_succ, i64_w, i32_w]
  rfl
 refine pure_ (i := 15) (N := some 28) (v := ?_) (a' := ?_) #[true, true, true, true, true, true, true, true, true, true, true, true, false, true, true, true, false, false, false, false] rfl rfl (by kernel_rfl) (fun _ _ _ h => h) (Or.inl ⟨by rfl, ?_⟩) ?_ ?_
 rotate_left
 ·intro w'
  go_simp
  with_reducible rfl
 rotate_left
 ·simp only [Act.put, List.setIfInBounds_toArray, List.set_cons_zero, List.set_cons_succ, i64_w, i32_w]
  rfl
 refine take_ (i := 16) (N := some 29) (v := ?_) (a' := ?_) #[true, true, true, true, true, true, true, true, true, true, true, true, false, true, true, true, true, false, false, false] rfl rfl (by kernel_rfl) (fun _ _ _ h => h) (Or.inl ⟨by rfl, ?_⟩) hHeld ?_ ?_
 rotate_left
 ·rintro w' ⟨s0, s1⟩
  go_simp
  with_reducible rfl
 rotate_left
 ·simp only [Act.put, List.setIfInBounds_toArray, List.set_cons_zero, List.set_cons_succ, i64_w, i32_w]
  rfl
 refine one_ (i := 12) (N := some 25) #[true, true, true, true, true, true, true, true, true, true, true, true, true, true, true, true, true, false, false, false] rfl rfl (by kernel_rfl) (by decide) (fun K hK => ?_)
 refine goes_ Try.func46 (by kernel_rfl) rfl #[.pointer (some ⟨gj, 0, none⟩)] (by rfl) rfl rfl (by simp only [List.map_toArray, List.map_cons, List.map_nil]; rfl) ?_
 with_reducible refine ((jour_Generation.calls gj gt J w6 _ HJ6.out)).mono ?_
 rintro e w7 ⟨rfl, rfl⟩
 refine ⟨_, rfl, ?_⟩
 refine hK.out _ _ ⟨y4, y2⟩ (fun hHeld => ?_)
 clear hK K
 refine norm_ (a' := ?_) ?_ ?_
 rotate_left
 ·show Act.put _ (some 25) _ = _
  simp only [Act.put, List.setIfInBounds_toArray, List.set_cons_zero, List.set_cons_succ, i64_w, i32_w]
  rfl
 refine pure_ (i := 17) (N := some 30) (v := ?_) (a' := ?_) #[true, true, true, true, true, true, true, true, true, true, true, true, true, true, true, true, true, true, false, false] rfl rfl (by kernel_rfl) (fun _ _ _ h => h) (Or.inl ⟨by rfl, ?_⟩) ?_ ?_
 rotate_left
 ·intro w'
  go_simp
  with_reducible rfl
 rotate_left
 ·simp only [Act.put, List.setIfInBounds_toArray, List.set_cons_zero, List.set_cons_succ, i64_w, i32_w]
  rfl
 refine pure_ (i := 18) (N := some 31) (v := ?_) (a' := ?_) #[true, true, true, true, true, true, true, true, true, true, true, true, true, true, true, true, true, true, true, false] rfl rfl (by kernel_rfl) (fun _ _ _ h => h) (Or.inl ⟨by rfl, ?_⟩) ?_ ?_
 rotate_left
 ·intro w'
  go_simp
  with_reducible rfl
 rotate_left
 ·simp only [Act.put, List.setIfInBounds_toArray, List.set_cons_zero, List.set_cons_succ, i64_w, i32_w]
  rfl
 refine pure_ (i := 19) (N := some 4) (v := ?_) (a' := ?_) #[true, true, true, true, true, true, true, true, true, true, true, true, true, true, true, true, true, true, true, true] rfl rfl (by kernel_rfl) (fun _ _ _ h => h) (Or.inl ⟨by rfl, ?_⟩) ?_ ?_
 rotate_left
 ·intro w'
  go_simp
  with_reducible rfl
 rotate_left
 ·simp only [Act.put, List.setIfInBounds_toArray, List.set_cons_zero, List.set_cons_succ, i64_w, i32_w]
  rfl
 refine done_ (by kernel_rfl) ?_
 go_wp2_with fail
 go_ret
 exact ⟨by simp, below_step HB3.out HB6.out⟩
end Go.Proofs.Ytmfmoddaejoekaa.P
