/- Contracts, typed by hand and by a program: a tape's sides, and what a unit does to one. -/
import Derived.Test.YtmfmoddaejoekaaR17
import Derived.Test.YtmfmoddaejoekaaP6
import Derived.Test.YtmfmoddaejoekaaP15
import Derived.Lib.SliceRun
set_option linter.unusedVariables false
set_option linter.unusedSimpArgs false
namespace Go.Proofs.Ytmfmoddaejoekaa.P
open Go.RowKit Go.Proofs.YtmfmoddaejoekaaW.PrintWords Go.Proofs.YtmfmoddaejoekaaW.PrintLast Go.Proofs.YtmfmoddaejoekaaW.PrintMore
/-- A side's bytes: a row of one's own, or one whose room ends where it ends. -/
def SideR (v : Value) (l : List Int) : Res where
 P := fun ok W => (Kd.int .u8).R 5 W 0 ok v l ∨ ∃ ad, v = .slice (some ad) l.length l.length ∧ Kd.F (Kd.int .u8) W ok (some ad) l.length l
 mono := fun hok h => h.imp (fun h => Kd.R_mono h hok) (fun ⟨ad, h1, h2⟩ => ⟨ad, h1, Kd.F_mono h2 hok⟩)
 step := fun h hm => h.imp (fun h => Kd.R_step h hm) (fun ⟨ad, h1, h2⟩ => ⟨ad, h1, Kd.F_step h2 hm⟩)
 bound := fun h => h.imp (fun h => Kd.R_mono (Kd.R_bound h) (fun _ hk => ⟨hk.1, hk.2.2.1⟩)) (fun ⟨ad, h1, h2⟩ => ⟨ad, h1, Kd.F_bound h2⟩)
theorem side_slice {v : Value} {l : List Int} {ok : Nat → Prop} {W : World} (h : (SideR v l).P ok W) : ∃ A c, v = .slice A l.length c := by
 rcases h with h | ⟨ad, h1, _⟩
 ·exact Kd.R_slice h
 ·exact ⟨_, _, h1⟩
theorem side_reads {A : Option Addr} {n c : Nat} {l : List Int} {ok : Nat → Prop} {W : World} (h : (SideR (.slice A n c) l).P ok W) : n = l.length ∧ n ≤ c ∧ Kd.F (Kd.int .u8) W ok A l.length l := by
 rcases h with h | ⟨ad, h1, h2⟩
 ·have := Kd.R_reads' h
  have hf := Kd.R_F h
  rw [this.1] at hf
  exact ⟨this.1, this.2.1, hf⟩
 ·cases h1
  exact ⟨rfl, Nat.le_refl _, h2⟩
/-- A side that is cut. -/
theorem side_cut {A : Option Addr} {n c : Nat} {l : List Int} {ok : Nat → Prop} {W : World} (h : (SideR (.slice A n c) l).P ok W) (m : Nat) (hm : m ≤ l.length) : (SideR (.slice A m m) (l.take m)).P ok W := by
 have hf := (side_reads h).2.2
 have hl : (l.take m).length = m := by rw [List.length_take]; omega
 cases A with
 | none =>
  have h0 : l.length = 0 := C_none (Kd.F_now hf)
  have : m = 0 := by omega
  subst this
  rw [List.take_zero]
  exact .inl (Kd.R_nil _ _ _ _ _)
 | some ad => exact .inr ⟨ad, by rw [hl], Kd.F_take hf hm⟩
theorem heap_size_alloc2 (W : World) (o : Obj) : (W.alloc o).heap.size = W.heap.size + 1 := by simp
/-- Three blocks that were made. -/
theorem three_boxes (W w3 : World) (o1 o2 o3 : Obj) (e : w3 = (((W.alloc o1).alloc o2).alloc o3).drew) : Below W.heap.size W w3 ∧ w3.heap[W.heap.size]? = some o1 ∧ w3.heap[W.heap.size + 1]? = some o2 ∧ w3.heap[W.heap.size + 1 + 1]? = some o3 := by
 subst e
 have y0 := heap_alloc_new W o1
 have y1 := heap_alloc_new (W.alloc o1) o2
 have y2 := heap_alloc_new ((W.alloc o1).alloc o2) o3
 rw [heap_size_alloc2] at y1
 rw [heap_size_alloc2, heap_size_alloc2] at y2
 exact ⟨below_drew (below_alloc (below_alloc (below_alloc (Below.refl _ _) _) _) _), ((below_alloc (below_alloc (Below.refl _ _) _) _).block W.heap.size (blk_lt y0)).trans y0, ((below_alloc (Below.refl _ _) _).block (W.heap.size + 1) (blk_lt y1)).trans y1, y2⟩
theorem R_of_own0 {k : IntKind} {e : Nat} {w : World} {base : Nat} {v : Value} {xs : List Int} (h : w.ownsRow base e 1 v xs.length (nums k xs)) : (Kd.int k).R e w 0 (fun k => base ≤ k) v xs := by
 have h1 := R_of_ownsRow h
 exact Kd.R_lower (Kd.R_mono (Kd.R_bound h1) (fun _ hk => hk.2.1)) (Nat.zero_le _)
section
variable {P : Program} {ops : Array Oper} {o : Oper} {a : Act} {Kc : Act → World → Prop} {Q' : Exit → Act → World → Prop}
/-- append(v, b) where v's room ends where it ends: all goes to a block that is new. -/
theorem clip_append_step {W : World} (hw : Region.wanted o (yielded ops a.tmps) = true) (s x : Operand) (t e : TypeId)
  (ho : o.op = .call { callee := .builtin .append, args := #[s, x], argTypes := #[t, t] })
  (ht : P.underlying t = some (.slice e)) (hinfo : (P.info? e).map (fun i => (i.zero, i.size, i.bytes)) = some (some (.int .u8 0), 1, 1))
  (ad : Addr) (l : List Int) (p : Int) (hs : a.eval s = .slice (some ad) l.length l.length) (hx : a.eval x = .slice (some ⟨W.heap.size, 0, none⟩) 1 1)
  (HC : (Kd.int .u8).C W (some ad) l.length l) (hl : l.length ≤ 1000000)
  (h : ∀ v1 w1, (Kd.int .u8).R e w1 0 (fun k => W.heap.size ≤ k) v1 (l ++ [p]) → Below W.heap.size W w1 → Kc (a.put o.dst v1) w1) :
  if Region.wanted o (yielded ops a.tmps) = true then Oper.wp P o a (W.alloc (.cells #[.int .u8 p] e)) Kc Q' else Kc (a.put o.dst undef) (W.alloc (.cells #[.int .u8 p] e)) := by
 obtain ⟨i0, hi, hzz⟩ := Option.map_eq_some_iff.1 hinfo
 simp only [Prod.mk.injEq] at hzz
 obtain ⟨hz0, hz1, hz2⟩ := hzz
 obtain ⟨v1, w1, hr, hown, hg⟩ := run_append_arg_grows (P := P) (w := W.alloc (.cells #[.int .u8 p] e)) t o.type e i0 (.int .u8 0) 1 1 ht hi hz0 hz1 hz2 rfl (by decide) ad l.length l.length (nums .u8 l) (by simp [nums]) (fun j u hu => pw_cell_below (below_alloc (Below.refl _ _) _) (C_cells HC ad rfl j u hu)) ⟨W.heap.size, 0, none⟩ 1 1 [.int .u8 p] rfl (World.news_of_block (cs := #[_]) (t := e) (fr := (0, 0)) (heap_alloc_new W _)) (by omega) (by simp only [maxLen]; omega) (by omega)
 rw [if_pos hw]
 unfold Oper.wp execOp
 simp only [ho, resolve, invoke, builtin, Sem.run_bind, Sem.run_pure, Result.andThen_ok, List.map_toArray, List.map_cons, List.map_nil, hs, hx, hr]
 refine h v1 w1 ?_ ?_
 ·have hx2 : nums .u8 l ++ [.int .u8 p] = nums .u8 (l ++ [p]) := by simp [nums]
  rw [hx2] at hown
  have h9 : (l ++ [p]).length = l.length + 1 := by simp
  rw [← h9] at hown
  exact Kd.R_mono (R_of_own0 hown) (fun k hk => by have : (W.alloc (.cells #[.int .u8 p] e)).heap.size = W.heap.size + 1 := by simp
                                                   omega)
 ·exact (below_alloc (Below.refl _ _) _).grown hg (by simp) (by simp)
end
theorem hcutB (A : Option Addr) (n c m : Nat) (hm : m ≤ n) (hc : n ≤ c) : ∀ W : World, (Instr.slice 30 (.slice A n c) none (some (.int .i64 (m : Int))) none).run Try.prog W = .ok (.slice A m c) W := by
 obtain ⟨i0, hi, _, _, _⟩ := info_parts hinfo5
 have := cut_to (P := Try.prog) 30 5 .i64 Try.underlying30 hi A n c (m : Int) (by omega) (by omega) hc
 simpa using this
set_option maxHeartbeats 4000000 in
set_option maxRecDepth 100000 in
theorem done.cut0 (A : Option Addr) (c : Nat) (l : List Int) (A1 : Option Addr) (n1 c1 : Nat) (m : Nat) (b : Int) (W : World) (ok : Nat → Prop) (h : (SideR (.slice A l.length c) l).P ok W) (hm : m ≤ l.length) (hl : l.length ≤ 65536) :
  Calls Try.prog 59 #[.agg #[.slice A l.length c, .slice A1 n1 c1], .agg #[.int .i64 0, .int .i64 (m : Int), .int .u8 b]] W fun e W' => e = .returned (.agg #[.slice A m m, .slice A1 n1 c1]) ∧ Below W.heap.size W W' := by
 obtain ⟨_, hlc, _⟩ := side_reads h
 have hmc : m ≤ c := Nat.le_trans hm hlc
 have hm63 : m ≤ 9223372036854775807 := by omega
 have hcut := hcutB A l.length c m hm hlc
 have hcb : decide ((0 : Int) ≤ (m : Int)) = true := decide_eq_true (by omega)
 clear h
 go_enter Try.func59, Try.ntmps59
 go_wp2_with fail
 obtain ⟨w3, e3⟩ : ∃ w3, w3 = (((W.alloc (.cells #[.slice A l.length c, .slice A1 n1 c1] 59)).alloc (.cells #[.int .i64 0, .int .i64 (m : Int), .int .u8 b] 84)).alloc (.cells #[.slice none 0 0, .slice none 0 0] 59)).drew := ⟨_, rfl⟩
 have HBX := Aside0.mk (three_boxes W _ _ _ _ e3)
 have HY0 := Aside0.mk (show w3.cell? ⟨W.heap.size + 1, 0, none⟩ = some (.int .i64 0) by rw [blk_cell HBX.out.2.2.1]; rfl)
 have HY1 := Aside0.mk (show w3.cell? ⟨W.heap.size + 1, 1, none⟩ = some (.int .i64 (m : Int)) by rw [blk_cell HBX.out.2.2.1]; rfl)
 have HX0 := Aside0.mk (show w3.cell? ⟨W.heap.size, 0, none⟩ = some (.slice A l.length c) by rw [blk_cell HBX.out.2.1]; rfl)
 have hfz : w3.frozen? ⟨W.heap.size, 0, none⟩ = false := blk_frozen HBX.out.2.1 0
 refine start_ (n := 12) (S := fun w' => w'.cell? ⟨W.heap.size + 1, 0, none⟩ = some (.int .i64 0) ∧ w'.cell? ⟨W.heap.size + 1, 1, none⟩ = some (.int .i64 (m : Int)) ∧ w'.cell? ⟨W.heap.size, 0, none⟩ = some (.slice A l.length c)) (ds := [11]) #[false, false, false, false, false, false, false, false, false, false, false, false] (by kernel_rfl) rfl rfl ⟨(by rw [← e3]; exact HY0.out), (by rw [← e3]; exact HY1.out), (by rw [← e3]; exact HX0.out)⟩ (fun hHeld => ?_)
 rw [← e3] at hHeld ⊢
 clear e3
 refine pure_ (i := 0) (N := some 8) (v := ?_) (a' := ?_) #[true, false, false, false, false, false, false, false, false, false, false, false] rfl rfl (by kernel_rfl) (fun _ _ _ h => h) (Or.inl ⟨by rfl, ?_⟩) ?_ ?_
 rotate_left
 ·intro w'
  go_simp
  with_reducible rfl
 rotate_left
 ·simp only [Act.put, List.setIfInBounds_toArray, List.set_cons_zero, List.set_cons_succ, i64_w, i32_w]
  rfl
 refine pure_ (i := 2) (N := some 10) (v := ?_) (a' := ?_) #[true, false, true, false, false, false, false, false, false, false, false, false] rfl rfl (by kernel_rfl) (fun _ _ _ h => h) (Or.inl ⟨by rfl, ?_⟩) ?_ ?_
 rotate_left
 ·intro w'
  go_simp
  with_reducible rfl
 rotate_left
 ·simp only [Act.put, List.setIfInBounds_toArray, List.set_cons_zero, List.set_cons_succ, i64_w, i32_w]
  rfl
 refine pure_ (i := 6) (N := some 14) (v := ?_) (a' := ?_) #[true, false, true, false, false, false, true, false, false, false, false, false] rfl rfl (by kernel_rfl) (fun _ _ _ h => h) (Or.inl ⟨by rfl, ?_⟩) ?_ ?_
 rotate_left
 ·intro w'
  go_simp
  with_reducible rfl
 rotate_left
 ·simp only [Act.put, List.setIfInBounds_toArray, List.set_cons_zero, List.set_cons_succ, i64_w, i32_w]
  rfl
 refine take_ (i := 1) (N := some 9) (v := ?_) (a' := ?_) #[true, true, true, false, false, false, true, false, false, false, false, false] rfl rfl (by kernel_rfl) (fun _ _ _ h => h) (Or.inl ⟨by rfl, ?_⟩) hHeld ?_ ?_
 rotate_left
 ·rintro w' ⟨s0, s1, s2⟩
  go_simp
  with_reducible rfl
 rotate_left
 ·simp only [Act.put, List.setIfInBounds_toArray, List.set_cons_zero, List.set_cons_succ, i64_w, i32_w]
  rfl
 refine take_ (i := 3) (N := some 11) (v := ?_) (a' := ?_) #[true, true, true, true, false, false, true, false, false, false, false, false] rfl rfl (by kernel_rfl) (fun _ _ _ h => h) (Or.inl ⟨by rfl, ?_⟩) hHeld ?_ ?_
 rotate_left
 ·rintro w' ⟨s0, s1, s2⟩
  go_simp
  with_reducible rfl
 rotate_left
 ·simp only [Act.put, List.setIfInBounds_toArray, List.set_cons_zero, List.set_cons_succ, i64_w, i32_w]
  rfl
 refine pure_ (i := 4) (N := some 12) (v := ?_) (a' := ?_) #[true, true, true, true, true, false, true, false, false, false, false, false] rfl rfl (by kernel_rfl) (fun _ _ _ h => h) (Or.inl ⟨by rfl, ?_⟩) ?_ ?_
 rotate_left
 ·intro w'
  go_simp
  with_reducible rfl
 rotate_left
 ·simp only [Act.put, List.setIfInBounds_toArray, List.set_cons_zero, List.set_cons_succ, i64_w, i32_w]
  rfl
 refine take_ (i := 5) (N := some 13) (v := ?_) (a' := ?_) #[true, true, true, true, true, true, true, false, false, false, false, false] rfl rfl (by kernel_rfl) (fun _ _ _ h => h) (Or.inl ⟨by rfl, ?_⟩) hHeld ?_ ?_
 rotate_left
 ·rintro w' ⟨s0, s1, s2⟩
  go_simp
  with_reducible rfl
 rotate_left
 ·simp only [Act.put, List.setIfInBounds_toArray, List.set_cons_zero, List.set_cons_succ, i64_w, i32_w]
  rfl
 refine take_ (i := 7) (N := some 15) (v := ?_) (a' := ?_) #[true, true, true, true, true, true, true, true, false, false, false, false] rfl rfl (by kernel_rfl) (fun _ _ _ h => h) (Or.inl ⟨by rfl, ?_⟩) hHeld ?_ ?_
 rotate_left
 ·rintro w' ⟨s0, s1, s2⟩
  go_simp
  with_reducible rfl
 rotate_left
 ·simp only [Act.put, List.setIfInBounds_toArray, List.set_cons_zero, List.set_cons_succ, i64_w, i32_w]
  rfl
 refine pure_ (i := 8) (N := some 16) (v := ?_) (a' := ?_) #[true, true, true, true, true, true, true, true, true, false, false, false] rfl rfl (by kernel_rfl) (fun _ _ _ h => h) (Or.inl ⟨by rfl, ?_⟩) ?_ ?_
 rotate_left
 ·intro w'
  go_simp
  with_reducible rfl
 rotate_left
 ·simp only [Act.put, List.setIfInBounds_toArray, List.set_cons_zero, List.set_cons_succ, i64_w, i32_w]
  rfl
 refine one_ (i := 9) (N := some 17) #[true, true, true, true, true, true, true, true, true, true, false, false] rfl rfl (by kernel_rfl) (by decide) (fun K hK => ?_)
 refine goes_ Try.func73 (by kernel_rfl) rfl #[.slice A m c] (by rfl) rfl rfl (by simp only [List.map_toArray, List.map_cons, List.map_nil]; rfl) ?_
 with_reducible refine (slices_Clip.calls A m c _ hmc hm63).mono ?_
 rintro e w4 ⟨rfl, rfl⟩
 refine ⟨_, rfl, ?_⟩
 refine hK.out _ _ ⟨HY0.out, HY1.out, HX0.out⟩ (fun hHeld => ?_)
 clear hK K
 refine norm_ (a' := ?_) ?_ ?_
 rotate_left
 ·show Act.put _ (some 17) _ = _
  simp only [Act.put, List.setIfInBounds_toArray, List.set_cons_zero, List.set_cons_succ, i64_w, i32_w]
  rfl
 refine pure_ (i := 10) (N := some 18) (v := ?_) (a' := ?_) #[true, true, true, true, true, true, true, true, true, true, true, false] rfl rfl (by kernel_rfl) (fun _ _ _ h => h) (Or.inl ⟨by rfl, ?_⟩) ?_ ?_
 rotate_left
 ·intro w'
  go_simp
  with_reducible rfl
 rotate_left
 ·simp only [Act.put, List.setIfInBounds_toArray, List.set_cons_zero, List.set_cons_succ, i64_w, i32_w]
  rfl
 refine last_ (i := 11) (N := none) #[true, true, true, true, true, true, true, true, true, true, true, true] rfl rfl (by kernel_rfl) (by decide) (fun K hK => ?_)
 refine skip_ (w1 := ?_) (by rfl) rfl ?_ ?_
 rotate_left
 ·go_simp
  rfl
 refine hK.out _ _ ?_
 clear hK K
 refine done_ (by kernel_rfl) ?_
 obtain ⟨w5, e5⟩ : ∃ w5, w5 = w3.setCell ⟨W.heap.size, 0, none⟩ (.slice A m m) := ⟨_, rfl⟩
 have HZ1 := Aside0.mk (show w5.heap[W.heap.size]? = some (.cells #[.slice A m m, .slice A1 n1 c1] 59 (0, 0)) by rw [e5]; exact blk_put HBX.out.2.1 0 _ rfl)
 have HZ3 := Aside0.mk (show w5.heap[W.heap.size + 1 + 1]? = some (.cells #[.slice none 0 0, .slice none 0 0] 59 (0, 0)) by rw [e5]; exact (Below.heap_setCell w3 _ _ _ (by show W.heap.size + 1 + 1 ≠ W.heap.size; omega)).trans HBX.out.2.2.2)
 have HB5 := Aside0.mk (show Below W.heap.size W w5 by rw [e5]; exact ((Keeps.of_below HBX.out.1 (fun _ => False)).set (p := ⟨W.heap.size, 0, none⟩) (.inr (Nat.le_refl _)) _).belowF)
 rw [← e5]
 clear e5
 obtain ⟨x0, x1, p0, p1⟩ := blk_all2 HZ1.out
 obtain ⟨y0, y1, q0, q1⟩ := blk_all2 HZ3.out
 have hu59 := Try.underlying59
 go_wp2_with fail
 refine bodyPost_ret (results_cell_row rfl _ _ (W.heap.size + 1 + 1) 59 #[.slice A m m, .slice A1 n1 c1] (0, 0) _ rfl (by
  refine blk_put (cs := #[.slice A m m, .slice none 0 0]) ?_ _ _ rfl
  refine blk_put (cs := #[.slice none 0 0, .slice none 0 0]) ?_ _ _ rfl
  exact HZ3.out) hu59 rfl (by kernel_rfl)) rfl ?_
 refine ⟨rfl, ?_⟩
 have k0 := Keeps.of_below HB5.out (fun _ => False)
 have k1 := k0.set (p := ⟨W.heap.size + 1 + 1, 0, none⟩) (.inr (by show W.heap.size ≤ W.heap.size + 1 + 1; omega)) (.slice A m m)
 have k2 := k1.set (p := ⟨W.heap.size + 1 + 1, 1, none⟩) (.inr (by show W.heap.size ≤ W.heap.size + 1 + 1; omega)) (.slice A1 n1 c1)
 exact k2.belowF
set_option maxHeartbeats 4000000 in
set_option maxRecDepth 100000 in
theorem done.cut1 (A : Option Addr) (c : Nat) (l : List Int) (A1 : Option Addr) (n1 c1 : Nat) (m : Nat) (b : Int) (W : World) (ok : Nat → Prop) (h : (SideR (.slice A l.length c) l).P ok W) (hm : m ≤ l.length) (hl : l.length ≤ 65536) :
  Calls Try.prog 59 #[.agg #[.slice A1 n1 c1, .slice A l.length c], .agg #[.int .i64 1, .int .i64 (m : Int), .int .u8 b]] W fun e W' => e = .returned (.agg #[.slice A1 n1 c1, .slice A m m]) ∧ Below W.heap.size W W' := by
 obtain ⟨_, hlc, _⟩ := side_reads h
 have hmc : m ≤ c := Nat.le_trans hm hlc
 have hm63 : m ≤ 9223372036854775807 := by omega
 have hcut := hcutB A l.length c m hm hlc
 have hcb : decide ((0 : Int) ≤ (m : Int)) = true := decide_eq_true (by omega)
 clear h
 go_enter Try.func59, Try.ntmps59
 go_wp2_with fail
 obtain ⟨w3, e3⟩ : ∃ w3, w3 = (((W.alloc (.cells #[.slice A1 n1 c1, .slice A l.length c] 59)).alloc (.cells #[.int .i64 1, .int .i64 (m : Int), .int .u8 b] 84)).alloc (.cells #[.slice none 0 0, .slice none 0 0] 59)).drew := ⟨_, rfl⟩
 have HBX := Aside0.mk (three_boxes W _ _ _ _ e3)
 have HY0 := Aside0.mk (show w3.cell? ⟨W.heap.size + 1, 0, none⟩ = some (.int .i64 1) by rw [blk_cell HBX.out.2.2.1]; rfl)
 have HY1 := Aside0.mk (show w3.cell? ⟨W.heap.size + 1, 1, none⟩ = some (.int .i64 (m : Int)) by rw [blk_cell HBX.out.2.2.1]; rfl)
 have HX1 := Aside0.mk (show w3.cell? ⟨W.heap.size, 1, none⟩ = some (.slice A l.length c) by rw [blk_cell HBX.out.2.1]; rfl)
 have hfz : w3.frozen? ⟨W.heap.size, 1, none⟩ = false := blk_frozen HBX.out.2.1 1
 refine start_ (n := 12) (S := fun w' => w'.cell? ⟨W.heap.size + 1, 0, none⟩ = some (.int .i64 1) ∧ w'.cell? ⟨W.heap.size + 1, 1, none⟩ = some (.int .i64 (m : Int)) ∧ w'.cell? ⟨W.heap.size, 1, none⟩ = some (.slice A l.length c)) (ds := [11]) #[false, false, false, false, false, false, false, false, false, false, false, false] (by kernel_rfl) rfl rfl ⟨(by rw [← e3]; exact HY0.out), (by rw [← e3]; exact HY1.out), (by rw [← e3]; exact HX1.out)⟩ (fun hHeld => ?_)
 rw [← e3] at hHeld ⊢
 clear e3
 refine pure_ (i := 0) (N := some 8) (v := ?_) (a' := ?_) #[true, false, false, false, false, false, false, false, false, false, false, false] rfl rfl (by kernel_rfl) (fun _ _ _ h => h) (Or.inl ⟨by rfl, ?_⟩) ?_ ?_
 rotate_left
 ·intro w'
  go_simp
  with_reducible rfl
 rotate_left
 ·simp only [Act.put, List.setIfInBounds_toArray, List.set_cons_zero, List.set_cons_succ, i64_w, i32_w]
  rfl
 refine pure_ (i := 2) (N := some 10) (v := ?_) (a' := ?_) #[true, false, true, false, false, false, false, false, false, false, false, false] rfl rfl (by kernel_rfl) (fun _ _ _ h => h) (Or.inl ⟨by rfl, ?_⟩) ?_ ?_
 rotate_left
 ·intro w'
  go_simp
  with_reducible rfl
 rotate_left
 ·simp only [Act.put, List.setIfInBounds_toArray, List.set_cons_zero, List.set_cons_succ, i64_w, i32_w]
  rfl
 refine pure_ (i := 6) (N := some 14) (v := ?_) (a' := ?_) #[true, false, true, false, false, false, true, false, false, false, false, false] rfl rfl (by kernel_rfl) (fun _ _ _ h => h) (Or.inl ⟨by rfl, ?_⟩) ?_ ?_
 rotate_left
 ·intro w'
  go_simp
  with_reducible rfl
 rotate_left
 ·simp only [Act.put, List.setIfInBounds_toArray, List.set_cons_zero, List.set_cons_succ, i64_w, i32_w]
  rfl
 refine take_ (i := 1) (N := some 9) (v := ?_) (a' := ?_) #[true, true, true, false, false, false, true, false, false, false, false, false] rfl rfl (by kernel_rfl) (fun _ _ _ h => h) (Or.inl ⟨by rfl, ?_⟩) hHeld ?_ ?_
 rotate_left
 ·rintro w' ⟨s0, s1, s2⟩
  go_simp
  with_reducible rfl
 rotate_left
 ·simp only [Act.put, List.setIfInBounds_toArray, List.set_cons_zero, List.set_cons_succ, i64_w, i32_w]
  rfl
 refine take_ (i := 3) (N := some 11) (v := ?_) (a' := ?_) #[true, true, true, true, false, false, true, false, false, false, false, false] rfl rfl (by kernel_rfl) (fun _ _ _ h => h) (Or.inl ⟨by rfl, ?_⟩) hHeld ?_ ?_
 rotate_left
 ·rintro w' ⟨s0, s1, s2⟩
  go_simp
  with_reducible rfl
 rotate_left
 ·simp only [Act.put, List.setIfInBounds_toArray, List.set_cons_zero, List.set_cons_succ, i64_w, i32_w]
  rfl
 refine pure_ (i := 4) (N := some 12) (v := ?_) (a' := ?_) #[true, true, true, true, true, false, true, false, false, false, false, false] rfl rfl (by kernel_rfl) (fun _ _ _ h => h) (Or.inl ⟨by rfl, ?_⟩) ?_ ?_
 rotate_left
 ·intro w'
  go_simp
  with_reducible rfl
 rotate_left
 ·simp only [Act.put, List.setIfInBounds_toArray, List.set_cons_zero, List.set_cons_succ, i64_w, i32_w]
  rfl
 refine take_ (i := 5) (N := some 13) (v := ?_) (a' := ?_) #[true, true, true, true, true, true, true, false, false, false, false, false] rfl rfl (by kernel_rfl) (fun _ _ _ h => h) (Or.inl ⟨by rfl, ?_⟩) hHeld ?_ ?_
 rotate_left
 ·rintro w' ⟨s0, s1, s2⟩
  go_simp
  with_reducible rfl
 rotate_left
 ·simp only [Act.put, List.setIfInBounds_toArray, List.set_cons_zero, List.set_cons_succ, i64_w, i32_w]
  rfl
 refine take_ (i := 7) (N := some 15) (v := ?_) (a' := ?_) #[true, true, true, true, true, true, true, true, false, false, false, false] rfl rfl (by kernel_rfl) (fun _ _ _ h => h) (Or.inl ⟨by rfl, ?_⟩) hHeld ?_ ?_
 rotate_left
 ·rintro w' ⟨s0, s1, s2⟩
  go_simp
  with_reducible rfl
 rotate_left
 ·simp only [Act.put, List.setIfInBounds_toArray, List.set_cons_zero, List.set_cons_succ, i64_w, i32_w]
  rfl
 refine pure_ (i := 8) (N := some 16) (v := ?_) (a' := ?_) #[true, true, true, true, true, true, true, true, true, false, false, false] rfl rfl (by kernel_rfl) (fun _ _ _ h => h) (Or.inl ⟨by rfl, ?_⟩) ?_ ?_
 rotate_left
 ·intro w'
  go_simp
  with_reducible rfl
 rotate_left
 ·simp only [Act.put, List.setIfInBounds_toArray, List.set_cons_zero, List.set_cons_succ, i64_w, i32_w]
  rfl
 refine one_ (i := 9) (N := some 17) #[true, true, true, true, true, true, true, true, true, true, false, false] rfl rfl (by kernel_rfl) (by decide) (fun K hK => ?_)
 refine goes_ Try.func73 (by kernel_rfl) rfl #[.slice A m c] (by rfl) rfl rfl (by simp only [List.map_toArray, List.map_cons, List.map_nil]; rfl) ?_
 with_reducible refine (slices_Clip.calls A m c _ hmc hm63).mono ?_
 rintro e w4 ⟨rfl, rfl⟩
 refine ⟨_, rfl, ?_⟩
 refine hK.out _ _ ⟨HY0.out, HY1.out, HX1.out⟩ (fun hHeld => ?_)
 clear hK K
 refine norm_ (a' := ?_) ?_ ?_
 rotate_left
 ·show Act.put _ (some 17) _ = _
  simp only [Act.put, List.setIfInBounds_toArray, List.set_cons_zero, List.set_cons_succ, i64_w, i32_w]
  rfl
 refine pure_ (i := 10) (N := some 18) (v := ?_) (a' := ?_) #[true, true, true, true, true, true, true, true, true, true, true, false] rfl rfl (by kernel_rfl) (fun _ _ _ h => h) (Or.inl ⟨by rfl, ?_⟩) ?_ ?_
 rotate_left
 ·intro w'
  go_simp
  with_reducible rfl
 rotate_left
 ·simp only [Act.put, List.setIfInBounds_toArray, List.set_cons_zero, List.set_cons_succ, i64_w, i32_w]
  rfl
 refine last_ (i := 11) (N := none) #[true, true, true, true, true, true, true, true, true, true, true, true] rfl rfl (by kernel_rfl) (by decide) (fun K hK => ?_)
 refine skip_ (w1 := ?_) (by rfl) rfl ?_ ?_
 rotate_left
 ·go_simp
  rfl
 refine hK.out _ _ ?_
 clear hK K
 refine done_ (by kernel_rfl) ?_
 obtain ⟨w5, e5⟩ : ∃ w5, w5 = w3.setCell ⟨W.heap.size, 1, none⟩ (.slice A m m) := ⟨_, rfl⟩
 have HZ1 := Aside0.mk (show w5.heap[W.heap.size]? = some (.cells #[.slice A1 n1 c1, .slice A m m] 59 (0, 0)) by rw [e5]; exact blk_put HBX.out.2.1 1 _ rfl)
 have HZ3 := Aside0.mk (show w5.heap[W.heap.size + 1 + 1]? = some (.cells #[.slice none 0 0, .slice none 0 0] 59 (0, 0)) by rw [e5]; exact (Below.heap_setCell w3 _ _ _ (by show W.heap.size + 1 + 1 ≠ W.heap.size; omega)).trans HBX.out.2.2.2)
 have HB5 := Aside0.mk (show Below W.heap.size W w5 by rw [e5]; exact ((Keeps.of_below HBX.out.1 (fun _ => False)).set (p := ⟨W.heap.size, 1, none⟩) (.inr (Nat.le_refl _)) _).belowF)
 rw [← e5]
 clear e5
 obtain ⟨x0, x1, p0, p1⟩ := blk_all2 HZ1.out
 obtain ⟨y0, y1, q0, q1⟩ := blk_all2 HZ3.out
 have hu59 := Try.underlying59
 go_wp2_with fail
 refine bodyPost_ret (results_cell_row rfl _ _ (W.heap.size + 1 + 1) 59 #[.slice A1 n1 c1, .slice A m m] (0, 0) _ rfl (by
  refine blk_put (cs := #[.slice A1 n1 c1, .slice none 0 0]) ?_ _ _ rfl
  refine blk_put (cs := #[.slice none 0 0, .slice none 0 0]) ?_ _ _ rfl
  exact HZ3.out) hu59 rfl (by kernel_rfl)) rfl ?_
 refine ⟨rfl, ?_⟩
 have k0 := Keeps.of_below HB5.out (fun _ => False)
 have k1 := k0.set (p := ⟨W.heap.size + 1 + 1, 0, none⟩) (.inr (by show W.heap.size ≤ W.heap.size + 1 + 1; omega)) (.slice A1 n1 c1)
 have k2 := k1.set (p := ⟨W.heap.size + 1 + 1, 1, none⟩) (.inr (by show W.heap.size ≤ W.heap.size + 1 + 1; omega)) (.slice A m m)
 exact k2.belowF
set_option maxHeartbeats 4000000 in
set_option maxRecDepth 100000 in
theorem done.put0 (A : Option Addr) (c : Nat) (l : List Int) (A1 : Option Addr) (n1 c1 : Nat) (k b : Int) (W : World) (ok : Nat → Prop) (h : (Kd.int .u8).R 5 W 0 ok (.slice A l.length c) l) (hok : ∀ k, ok k → k < W.heap.size) (hk : k < 0) (hl : l.length ≤ 65536) :
  Calls Try.prog 59 #[.agg #[.slice A l.length c, .slice A1 n1 c1], .agg #[.int .i64 0, .int .i64 k, .int .u8 b]] W fun e W' => ∃ A9 c9, e = .returned (.agg #[.slice A9 (l.length + 1) c9, .slice A1 n1 c1]) ∧ Turned ok W W' (SideR (.slice A9 (l.length + 1) c9) (l ++ [b])) := by
 have hcb : decide ((0 : Int) ≤ k) = false := decide_eq_false (by omega)
 have HNO := Aside0.mk (show ∀ j, W.heap.size ≤ j → ¬ ok j from fun j hj hk2 => by have := hok j hk2; omega)
 have HH := Aside0.mk h
 clear h hok hk
 go_enter Try.func59, Try.ntmps59
 go_wp2_with fail
 obtain ⟨w3, e3⟩ : ∃ w3, w3 = (((W.alloc (.cells #[.slice A l.length c, .slice A1 n1 c1] 59)).alloc (.cells #[.int .i64 0, .int .i64 k, .int .u8 b] 84)).alloc (.cells #[.slice none 0 0, .slice none 0 0] 59)).drew := ⟨_, rfl⟩
 have HBX := Aside0.mk (three_boxes W _ _ _ _ e3)
 have HY0 := Aside0.mk (show w3.cell? ⟨W.heap.size + 1, 0, none⟩ = some (.int .i64 0) by rw [blk_cell HBX.out.2.2.1]; rfl)
 have HY2 := Aside0.mk (show w3.cell? ⟨W.heap.size + 1, 2, none⟩ = some (.int .u8 b) by rw [blk_cell HBX.out.2.2.1]; rfl)
 have HX0 := Aside0.mk (show w3.cell? ⟨W.heap.size, 0, none⟩ = some (.slice A l.length c) by rw [blk_cell HBX.out.2.1]; rfl)
 have HR3 := Aside0.mk (Kd.R_below HH.out HBX.out.1)
 have HLT := Aside0.mk (Kd.R_lt HH.out)
 refine start_ (n := 12) (S := fun w' => w'.cell? ⟨W.heap.size + 1, 0, none⟩ = some (.int .i64 0) ∧ w'.cell? ⟨W.heap.size + 1, 2, none⟩ = some (.int .u8 b) ∧ w'.cell? ⟨W.heap.size, 0, none⟩ = some (.slice A l.length c)) (ds := [11]) #[false, false, false, false, false, false, false, false, false, false, false, false] (by kernel_rfl) rfl rfl ⟨(by rw [← e3]; exact HY0.out), (by rw [← e3]; exact HY2.out), (by rw [← e3]; exact HX0.out)⟩ (fun hHeld => ?_)
 rw [← e3] at hHeld ⊢
 clear e3
 refine pure_ (i := 0) (N := some 19) (v := ?_) (a' := ?_) #[true, false, false, false, false, false, false, false, false, false, false, false] rfl rfl (by kernel_rfl) (fun _ _ _ h => h) (Or.inl ⟨by rfl, ?_⟩) ?_ ?_
 rotate_left
 ·intro w'
  go_simp
  with_reducible rfl
 rotate_left
 ·simp only [Act.put, List.setIfInBounds_toArray, List.set_cons_zero, List.set_cons_succ, i64_w, i32_w]
  rfl
 refine pure_ (i := 2) (N := some 21) (v := ?_) (a' := ?_) #[true, false, true, false, false, false, false, false, false, false, false, false] rfl rfl (by kernel_rfl) (fun _ _ _ h => h) (Or.inl ⟨by rfl, ?_⟩) ?_ ?_
 rotate_left
 ·intro w'
  go_simp
  with_reducible rfl
 rotate_left
 ·simp only [Act.put, List.setIfInBounds_toArray, List.set_cons_zero, List.set_cons_succ, i64_w, i32_w]
  rfl
 refine pure_ (i := 6) (N := some 25) (v := ?_) (a' := ?_) #[true, false, true, false, false, false, true, false, false, false, false, false] rfl rfl (by kernel_rfl) (fun _ _ _ h => h) (Or.inl ⟨by rfl, ?_⟩) ?_ ?_
 rotate_left
 ·intro w'
  go_simp
  with_reducible rfl
 rotate_left
 ·simp only [Act.put, List.setIfInBounds_toArray, List.set_cons_zero, List.set_cons_succ, i64_w, i32_w]
  rfl
 refine take_ (i := 1) (N := some 20) (v := ?_) (a' := ?_) #[true, true, true, false, false, false, true, false, false, false, false, false] rfl rfl (by kernel_rfl) (fun _ _ _ h => h) (Or.inl ⟨by rfl, ?_⟩) hHeld ?_ ?_
 rotate_left
 ·rintro w' ⟨s0, s1, s2⟩
  go_simp
  with_reducible rfl
 rotate_left
 ·simp only [Act.put, List.setIfInBounds_toArray, List.set_cons_zero, List.set_cons_succ, i64_w, i32_w]
  rfl
 refine take_ (i := 3) (N := some 22) (v := ?_) (a' := ?_) #[true, true, true, true, false, false, true, false, false, false, false, false] rfl rfl (by kernel_rfl) (fun _ _ _ h => h) (Or.inl ⟨by rfl, ?_⟩) hHeld ?_ ?_
 rotate_left
 ·rintro w' ⟨s0, s1, s2⟩
  go_simp
  with_reducible rfl
 rotate_left
 ·simp only [Act.put, List.setIfInBounds_toArray, List.set_cons_zero, List.set_cons_succ, i64_w, i32_w]
  rfl
 refine pure_ (i := 4) (N := some 23) (v := ?_) (a' := ?_) #[true, true, true, true, true, false, true, false, false, false, false, false] rfl rfl (by kernel_rfl) (fun _ _ _ h => h) (Or.inl ⟨by rfl, ?_⟩) ?_ ?_
 rotate_left
 ·intro w'
  go_simp
  with_reducible rfl
 rotate_left
 ·simp only [Act.put, List.setIfInBounds_toArray, List.set_cons_zero, List.set_cons_succ, i64_w, i32_w]
  rfl
 refine take_ (i := 5) (N := some 24) (v := ?_) (a' := ?_) #[true, true, true, true, true, true, true, false, false, false, false, false] rfl rfl (by kernel_rfl) (fun _ _ _ h => h) (Or.inl ⟨by rfl, ?_⟩) hHeld ?_ ?_
 rotate_left
 ·rintro w' ⟨s0, s1, s2⟩
  go_simp
  with_reducible rfl
 rotate_left
 ·simp only [Act.put, List.setIfInBounds_toArray, List.set_cons_zero, List.set_cons_succ, i64_w, i32_w]
  rfl
 refine take_ (i := 7) (N := some 26) (v := ?_) (a' := ?_) #[true, true, true, true, true, true, true, true, false, false, false, false] rfl rfl (by kernel_rfl) (fun _ _ _ h => h) (Or.inl ⟨by rfl, ?_⟩) hHeld ?_ ?_
 rotate_left
 ·rintro w' ⟨s0, s1, s2⟩
  go_simp
  with_reducible rfl
 rotate_left
 ·simp only [Act.put, List.setIfInBounds_toArray, List.set_cons_zero, List.set_cons_succ, i64_w, i32_w]
  rfl
 refine one_ (i := 8) (N := some 27) #[true, true, true, true, true, true, true, true, true, false, false, false] rfl rfl (by kernel_rfl) (by decide) (fun K hK => ?_)
 refine value_ (w1 := ?_) (v := ?_) (by rfl) rfl ?_ ?_
 rotate_left 2
 ·go_simp
  constructor
  ·rfl
  ·rfl
 refine hK.out _ _ ⟨(pw_cell_below (below_alloc (Below.refl _ _) _) HY0.out), (pw_cell_below (below_alloc (Below.refl _ _) _) HY2.out), (pw_cell_below (below_alloc (Below.refl _ _) _) HX0.out)⟩ (fun hHeld => ?_)
 clear hK K
 refine norm_ (a' := ?_) ?_ ?_
 rotate_left
 ·show Act.put _ (some 27) _ = _
  simp only [Act.put, List.setIfInBounds_toArray, List.set_cons_zero, List.set_cons_succ, i64_w, i32_w]
  rfl
 refine one_ (i := 9) (N := some 28) #[true, true, true, true, true, true, true, true, true, true, false, false] rfl rfl (by kernel_rfl) (by decide) (fun K hK => ?_)
 refine Kd.R_append_step (Kd.int .u8) (w0 := w3) 0 (by rfl) (.tmp 24) (.tmp 27) 30 5 (.int .u8 0) 1 rfl Try.underlying30 hinfo5 rfl (by decide) (by decide) (.slice A l.length c) l b [.int .u8 b] (fun k => ok k ∨ w3.heap.size ≤ k) (fun _ => False) rfl rfl rfl (fun _ hk => hk.elim) (fun _ hk => .inr hk) (Kd.R_mono HR3.out (fun _ hk => .inl hk)) (Below.refl _ _) (Nat.zero_le _) (by omega) ?_
 intro v1 w1 hR _ hg _
 have HR1 := Aside0.mk (show (Kd.int .u8).R 5 w1 0 (fun k => ok k ∨ w3.heap.size ≤ k) v1 (l ++ [b]) from hR)
 have HK1 := Aside0.mk (show Keeps w3 w1 ok from (Keeps.of_grown hg).mono (fun k _ hk => HR3.out.1 k hk.symm))
 obtain ⟨A9, c9, ev9⟩ := Kd.R_slice hR
 rw [show (l ++ [b]).length = l.length + 1 by simp] at ev9
 subst ev9
 have HG1 := Aside0.mk (show w1.heap[W.heap.size]? = some (.cells #[.slice A l.length c, .slice A1 n1 c1] 59 (0, 0)) from (HK1.out.block _ (blk_lt HBX.out.2.1) (HNO.out _ (Nat.le_refl _))).trans HBX.out.2.1)
 have HG3 := Aside0.mk (show w1.heap[W.heap.size + 1 + 1]? = some (.cells #[.slice none 0 0, .slice none 0 0] 59 (0, 0)) from (HK1.out.block _ (blk_lt HBX.out.2.2.2) (HNO.out _ (by omega))).trans HBX.out.2.2.2)
 have hfz1 : w1.frozen? ⟨W.heap.size, 0, none⟩ = false := blk_frozen HG1.out 0
 refine hK.out _ _ ⟨(hg.cell HY0.out (fun he => by have := HLT.out _ he.symm; simp only at this; omega)), (hg.cell HY2.out (fun he => by have := HLT.out _ he.symm; simp only at this; omega)), (hg.cell HX0.out (fun he => by have := HLT.out _ he.symm; simp only at this; omega))⟩ (fun hHeld => ?_)
 clear hK K
 refine norm_ (a' := ?_) ?_ ?_
 rotate_left
 ·show Act.put _ (some 28) _ = _
  simp only [Act.put, List.setIfInBounds_toArray, List.set_cons_zero, List.set_cons_succ, i64_w, i32_w]
  rfl
 refine pure_ (i := 10) (N := some 29) (v := ?_) (a' := ?_) #[true, true, true, true, true, true, true, true, true, true, true, false] rfl rfl (by kernel_rfl) (fun _ _ _ h => h) (Or.inl ⟨by rfl, ?_⟩) ?_ ?_
 rotate_left
 ·intro w'
  go_simp
  with_reducible rfl
 rotate_left
 ·simp only [Act.put, List.setIfInBounds_toArray, List.set_cons_zero, List.set_cons_succ, i64_w, i32_w]
  rfl
 refine last_ (i := 11) (N := none) #[true, true, true, true, true, true, true, true, true, true, true, true] rfl rfl (by kernel_rfl) (by decide) (fun K hK => ?_)
 refine skip_ (w1 := ?_) (by rfl) rfl ?_ ?_
 rotate_left
 ·go_simp
  rfl
 refine hK.out _ _ ?_
 clear hK K
 refine done_ (by kernel_rfl) ?_
 obtain ⟨w5, e5⟩ : ∃ w5, w5 = w1.setCell ⟨W.heap.size, 0, none⟩ (.slice A9 (l.length + 1) c9) := ⟨_, rfl⟩
 have HZ1 := Aside0.mk (show w5.heap[W.heap.size]? = some (.cells #[.slice A9 (l.length + 1) c9, .slice A1 n1 c1] 59 (0, 0)) by rw [e5]; exact blk_put HG1.out 0 _ rfl)
 have HZ3 := Aside0.mk (show w5.heap[W.heap.size + 1 + 1]? = some (.cells #[.slice none 0 0, .slice none 0 0] 59 (0, 0)) by rw [e5]; exact (Below.heap_setCell w1 _ _ _ (by show W.heap.size + 1 + 1 ≠ W.heap.size; omega)).trans HG3.out)
 have HK5 := Aside0.mk (show Keeps W w5 ok by rw [e5]; exact ((Keeps.of_below HBX.out.1 ok).then_ HK1.out (fun _ hk => .inl hk)).set (p := ⟨W.heap.size, 0, none⟩) (.inr (Nat.le_refl _)) _)
 have HR5 := Aside0.mk (show (Kd.int .u8).R 5 w5 0 (fun k => ok k ∨ w3.heap.size ≤ k) (.slice A9 (l.length + 1) c9) (l ++ [b]) by
  rw [e5]
  exact Kd.R_far HR1.out (p := ⟨W.heap.size, 0, none⟩) (fun k hk he => by
   have h3 := blk_lt HBX.out.2.2.2
   rcases hk with hk | hk
   ·exact HNO.out k (by show W.heap.size ≤ k; simp only at he; omega) hk
   ·simp only at he; omega) _)
 rw [← e5]
 clear e5
 obtain ⟨x0, x1, p0, p1⟩ := blk_all2 HZ1.out
 obtain ⟨y0, y1, q0, q1⟩ := blk_all2 HZ3.out
 have hu59 := Try.underlying59
 go_wp2_with fail
 refine bodyPost_ret (results_cell_row rfl _ _ (W.heap.size + 1 + 1) 59 #[.slice A9 (l.length + 1) c9, .slice A1 n1 c1] (0, 0) _ rfl (by
  refine blk_put (cs := #[.slice A9 (l.length + 1) c9, .slice none 0 0]) ?_ _ _ rfl
  refine blk_put (cs := #[.slice none 0 0, .slice none 0 0]) ?_ _ _ rfl
  exact HZ3.out) hu59 rfl (by kernel_rfl)) rfl ?_
 have hne : ∀ k, (ok k ∨ w3.heap.size ≤ k) → k ≠ W.heap.size + 1 + 1 := fun k hk he => by
  have h3 := blk_lt HBX.out.2.2.2
  rcases hk with hk | hk
  ·exact HNO.out k (by omega) hk
  ·omega
 have k1 := HK5.out.set (p := ⟨W.heap.size + 1 + 1, 0, none⟩) (.inr (by show W.heap.size ≤ W.heap.size + 1 + 1; omega)) (.slice A9 (l.length + 1) c9)
 have k2 := k1.set (p := ⟨W.heap.size + 1 + 1, 1, none⟩) (.inr (by show W.heap.size ≤ W.heap.size + 1 + 1; omega)) (.slice A1 n1 c1)
 have r1 := Kd.R_far HR5.out (p := ⟨W.heap.size + 1 + 1, 0, none⟩) hne (.slice A9 (l.length + 1) c9)
 have r2 := Kd.R_far r1 (p := ⟨W.heap.size + 1 + 1, 1, none⟩) hne (.slice A1 n1 c1)
 exact ⟨A9, c9, rfl, k2, .inl (Kd.R_mono r2 (fun k hk => hk.imp id (Nat.le_trans HBX.out.1.size)))⟩
set_option maxHeartbeats 4000000 in
set_option maxRecDepth 100000 in
theorem done.put1 (A : Option Addr) (c : Nat) (l : List Int) (A1 : Option Addr) (n1 c1 : Nat) (k b : Int) (W : World) (ok : Nat → Prop) (h : (Kd.int .u8).R 5 W 0 ok (.slice A l.length c) l) (hok : ∀ k, ok k → k < W.heap.size) (hk : k < 0) (hl : l.length ≤ 65536) :
  Calls Try.prog 59 #[.agg #[.slice A1 n1 c1, .slice A l.length c], .agg #[.int .i64 1, .int .i64 k, .int .u8 b]] W fun e W' => ∃ A9 c9, e = .returned (.agg #[.slice A1 n1 c1, .slice A9 (l.length + 1) c9]) ∧ Turned ok W W' (SideR (.slice A9 (l.length + 1) c9) (l ++ [b])) := by
 have hcb : decide ((0 : Int) ≤ k) = false := decide_eq_false (by omega)
 have HNO := Aside0.mk (show ∀ j, W.heap.size ≤ j → ¬ ok j from fun j hj hk2 => by have := hok j hk2; omega)
 have HH := Aside0.mk h
 clear h hok hk
 go_enter Try.func59, Try.ntmps59
 go_wp2_with fail
 obtain ⟨w3, e3⟩ : ∃ w3, w3 = (((W.alloc (.cells #[.slice A1 n1 c1, .slice A l.length c] 59)).alloc (.cells #[.int .i64 1, .int .i64 k, .int .u8 b] 84)).alloc (.cells #[.slice none 0 0, .slice none 0 0] 59)).drew := ⟨_, rfl⟩
 have HBX := Aside0.mk (three_boxes W _ _ _ _ e3)
 have HY0 := Aside0.mk (show w3.cell? ⟨W.heap.size + 1, 0, none⟩ = some (.int .i64 1) by rw [blk_cell HBX.out.2.2.1]; rfl)
 have HY2 := Aside0.mk (show w3.cell? ⟨W.heap.size + 1, 2, none⟩ = some (.int .u8 b) by rw [blk_cell HBX.out.2.2.1]; rfl)
 have HX1 := Aside0.mk (show w3.cell? ⟨W.heap.size, 1, none⟩ = some (.slice A l.length c) by rw [blk_cell HBX.out.2.1]; rfl)
 have HR3 := Aside0.mk (Kd.R_below HH.out HBX.out.1)
 have HLT := Aside0.mk (Kd.R_lt HH.out)
 refine start_ (n := 12) (S := fun w' => w'.cell? ⟨W.heap.size + 1, 0, none⟩ = some (.int .i64 1) ∧ w'.cell? ⟨W.heap.size + 1, 2, none⟩ = some (.int .u8 b) ∧ w'.cell? ⟨W.heap.size, 1, none⟩ = some (.slice A l.length c)) (ds := [11]) #[false, false, false, false, false, false, false, false, false, false, false, false] (by kernel_rfl) rfl rfl ⟨(by rw [← e3]; exact HY0.out), (by rw [← e3]; exact HY2.out), (by rw [← e3]; exact HX1.out)⟩ (fun hHeld => ?_)
 rw [← e3] at hHeld ⊢
 clear e3
 refine pure_ (i := 0) (N := some 19) (v := ?_) (a' := ?_) #[true, false, false, false, false, false, false, false, false, false, false, false] rfl rfl (by kernel_rfl) (fun _ _ _ h => h) (Or.inl ⟨by rfl, ?_⟩) ?_ ?_
 rotate_left
 ·intro w'
  go_simp
  with_reducible rfl
 rotate_left
 ·simp only [Act.put, List.setIfInBounds_toArray, List.set_cons_zero, List.set_cons_succ, i64_w, i32_w]
  rfl
 refine pure_ (i := 2) (N := some 21) (v := ?_) (a' := ?_) #[true, false, true, false, false, false, false, false, false, false, false, false] rfl rfl (by kernel_rfl) (fun _ _ _ h => h) (Or.inl ⟨by rfl, ?_⟩) ?_ ?_
 rotate_left
 ·intro w'
  go_simp
  with_reducible rfl
 rotate_left
 ·simp only [Act.put, List.setIfInBounds_toArray, List.set_cons_zero, List.set_cons_succ, i64_w, i32_w]
  rfl
 refine pure_ (i := 6) (N := some 25) (v := ?_) (a' := ?_) #[true, false, true, false, false, false, true, false, false, false, false, false] rfl rfl (by kernel_rfl) (fun _ _ _ h => h) (Or.inl ⟨by rfl, ?_⟩) ?_ ?_
 rotate_left
 ·intro w'
  go_simp
  with_reducible rfl
 rotate_left
 ·simp only [Act.put, List.setIfInBounds_toArray, List.set_cons_zero, List.set_cons_succ, i64_w, i32_w]
  rfl
 refine take_ (i := 1) (N := some 20) (v := ?_) (a' := ?_) #[true, true, true, false, false, false, true, false, false, false, false, false] rfl rfl (by kernel_rfl) (fun _ _ _ h => h) (Or.inl ⟨by rfl, ?_⟩) hHeld ?_ ?_
 rotate_left
 ·rintro w' ⟨s0, s1, s2⟩
  go_simp
  with_reducible rfl
 rotate_left
 ·simp only [Act.put, List.setIfInBounds_toArray, List.set_cons_zero, List.set_cons_succ, i64_w, i32_w]
  rfl
 refine take_ (i := 3) (N := some 22) (v := ?_) (a' := ?_) #[true, true, true, true, false, false, true, false, false, false, false, false] rfl rfl (by kernel_rfl) (fun _ _ _ h => h) (Or.inl ⟨by rfl, ?_⟩) hHeld ?_ ?_
 rotate_left
 ·rintro w' ⟨s0, s1, s2⟩
  go_simp
  with_reducible rfl
 rotate_left
 ·simp only [Act.put, List.setIfInBounds_toArray, List.set_cons_zero, List.set_cons_succ, i64_w, i32_w]
  rfl
 refine pure_ (i := 4) (N := some 23) (v := ?_) (a' := ?_) #[true, true, true, true, true, false, true, false, false, false, false, false] rfl rfl (by kernel_rfl) (fun _ _ _ h => h) (Or.inl ⟨by rfl, ?_⟩) ?_ ?_
 rotate_left
 ·intro w'
  go_simp
  with_reducible rfl
 rotate_left
 ·simp only [Act.put, List.setIfInBounds_toArray, List.set_cons_zero, List.set_cons_succ, i64_w, i32_w]
  rfl
 refine take_ (i := 5) (N := some 24) (v := ?_) (a' := ?_) #[true, true, true, true, true, true, true, false, false, false, false, false] rfl rfl (by kernel_rfl) (fun _ _ _ h => h) (Or.inl ⟨by rfl, ?_⟩) hHeld ?_ ?_
 rotate_left
 ·rintro w' ⟨s0, s1, s2⟩
  go_simp
  with_reducible rfl
 rotate_left
 ·simp only [Act.put, List.setIfInBounds_toArray, List.set_cons_zero, List.set_cons_succ, i64_w, i32_w]
  rfl
 refine take_ (i := 7) (N := some 26) (v := ?_) (a' := ?_) #[true, true, true, true, true, true, true, true, false, false, false, false] rfl rfl (by kernel_rfl) (fun _ _ _ h => h) (Or.inl ⟨by rfl, ?_⟩) hHeld ?_ ?_
 rotate_left
 ·rintro w' ⟨s0, s1, s2⟩
  go_simp
  with_reducible rfl
 rotate_left
 ·simp only [Act.put, List.setIfInBounds_toArray, List.set_cons_zero, List.set_cons_succ, i64_w, i32_w]
  rfl
 refine one_ (i := 8) (N := some 27) #[true, true, true, true, true, true, true, true, true, false, false, false] rfl rfl (by kernel_rfl) (by decide) (fun K hK => ?_)
 refine value_ (w1 := ?_) (v := ?_) (by rfl) rfl ?_ ?_
 rotate_left 2
 ·go_simp
  constructor
  ·rfl
  ·rfl
 refine hK.out _ _ ⟨(pw_cell_below (below_alloc (Below.refl _ _) _) HY0.out), (pw_cell_below (below_alloc (Below.refl _ _) _) HY2.out), (pw_cell_below (below_alloc (Below.refl _ _) _) HX1.out)⟩ (fun hHeld => ?_)
 clear hK K
 refine norm_ (a' := ?_) ?_ ?_
 rotate_left
 ·show Act.put _ (some 27) _ = _
  simp only [Act.put, List.setIfInBounds_toArray, List.set_cons_zero, List.set_cons_succ, i64_w, i32_w]
  rfl
 refine one_ (i := 9) (N := some 28) #[true, true, true, true, true, true, true, true, true, true, false, false] rfl rfl (by kernel_rfl) (by decide) (fun K hK => ?_)
 refine Kd.R_append_step (Kd.int .u8) (w0 := w3) 0 (by rfl) (.tmp 24) (.tmp 27) 30 5 (.int .u8 0) 1 rfl Try.underlying30 hinfo5 rfl (by decide) (by decide) (.slice A l.length c) l b [.int .u8 b] (fun k => ok k ∨ w3.heap.size ≤ k) (fun _ => False) rfl rfl rfl (fun _ hk => hk.elim) (fun _ hk => .inr hk) (Kd.R_mono HR3.out (fun _ hk => .inl hk)) (Below.refl _ _) (Nat.zero_le _) (by omega) ?_
 intro v1 w1 hR _ hg _
 have HR1 := Aside0.mk (show (Kd.int .u8).R 5 w1 0 (fun k => ok k ∨ w3.heap.size ≤ k) v1 (l ++ [b]) from hR)
 have HK1 := Aside0.mk (show Keeps w3 w1 ok from (Keeps.of_grown hg).mono (fun k _ hk => HR3.out.1 k hk.symm))
 obtain ⟨A9, c9, ev9⟩ := Kd.R_slice hR
 rw [show (l ++ [b]).length = l.length + 1 by simp] at ev9
 subst ev9
 have HG1 := Aside0.mk (show w1.heap[W.heap.size]? = some (.cells #[.slice A1 n1 c1, .slice A l.length c] 59 (0, 0)) from (HK1.out.block _ (blk_lt HBX.out.2.1) (HNO.out _ (Nat.le_refl _))).trans HBX.out.2.1)
 have HG3 := Aside0.mk (show w1.heap[W.heap.size + 1 + 1]? = some (.cells #[.slice none 0 0, .slice none 0 0] 59 (0, 0)) from (HK1.out.block _ (blk_lt HBX.out.2.2.2) (HNO.out _ (by omega))).trans HBX.out.2.2.2)
 have hfz1 : w1.frozen? ⟨W.heap.size, 1, none⟩ = false := blk_frozen HG1.out 1
 refine hK.out _ _ ⟨(hg.cell HY0.out (fun he => by have := HLT.out _ he.symm; simp only at this; omega)), (hg.cell HY2.out (fun he => by have := HLT.out _ he.symm; simp only at this; omega)), (hg.cell HX1.out (fun he => by have := HLT.out _ he.symm; simp only at this; omega))⟩ (fun hHeld => ?_)
 clear hK K
 refine norm_ (a' := ?_) ?_ ?_
 rotate_left
 ·show Act.put _ (some 28) _ = _
  simp only [Act.put, List.setIfInBounds_toArray, List.set_cons_zero, List.set_cons_succ, i64_w, i32_w]
  rfl
 refine pure_ (i := 10) (N := some 29) (v := ?_) (a' := ?_) #[true, true, true, true, true, true, true, true, true, true, true, false] rfl rfl (by kernel_rfl) (fun _ _ _ h => h) (Or.inl ⟨by rfl, ?_⟩) ?_ ?_
 rotate_left
 ·intro w'
  go_simp
  with_reducible rfl
 rotate_left
 ·simp only [Act.put, List.setIfInBounds_toArray, List.set_cons_zero, List.set_cons_succ, i64_w, i32_w]
  rfl
 refine last_ (i := 11) (N := none) #[true, true, true, true, true, true, true, true, true, true, true, true] rfl rfl (by kernel_rfl) (by decide) (fun K hK => ?_)
 refine skip_ (w1 := ?_) (by rfl) rfl ?_ ?_
 rotate_left
 ·go_simp
  rfl
 refine hK.out _ _ ?_
 clear hK K
 refine done_ (by kernel_rfl) ?_
 obtain ⟨w5, e5⟩ : ∃ w5, w5 = w1.setCell ⟨W.heap.size, 1, none⟩ (.slice A9 (l.length + 1) c9) := ⟨_, rfl⟩
 have HZ1 := Aside0.mk (show w5.heap[W.heap.size]? = some (.cells #[.slice A1 n1 c1, .slice A9 (l.length + 1) c9] 59 (0, 0)) by rw [e5]; exact blk_put HG1.out 1 _ rfl)
 have HZ3 := Aside0.mk (show w5.heap[W.heap.size + 1 + 1]? = some (.cells #[.slice none 0 0, .slice none 0 0] 59 (0, 0)) by rw [e5]; exact (Below.heap_setCell w1 _ _ _ (by show W.heap.size + 1 + 1 ≠ W.heap.size; omega)).trans HG3.out)
 have HK5 := Aside0.mk (show Keeps W w5 ok by rw [e5]; exact ((Keeps.of_below HBX.out.1 ok).then_ HK1.out (fun _ hk => .inl hk)).set (p := ⟨W.heap.size, 1, none⟩) (.inr (Nat.le_refl _)) _)
 have HR5 := Aside0.mk (show (Kd.int .u8).R 5 w5 0 (fun k => ok k ∨ w3.heap.size ≤ k) (.slice A9 (l.length + 1) c9) (l ++ [b]) by
  rw [e5]
  exact Kd.R_far HR1.out (p := ⟨W.heap.size, 1, none⟩) (fun k hk he => by
   have h3 := blk_lt HBX.out.2.2.2
   rcases hk with hk | hk
   ·exact HNO.out k (by show W.heap.size ≤ k; simp only at he; omega) hk
   ·simp only at he; omega) _)
 rw [← e5]
 clear e5
 obtain ⟨x0, x1, p0, p1⟩ := blk_all2 HZ1.out
 obtain ⟨y0, y1, q0, q1⟩ := blk_all2 HZ3.out
 have hu59 := Try.underlying59
 go_wp2_with fail
 refine bodyPost_ret (results_cell_row rfl _ _ (W.heap.size + 1 + 1) 59 #[.slice A1 n1 c1, .slice A9 (l.length + 1) c9] (0, 0) _ rfl (by
  refine blk_put (cs := #[.slice A1 n1 c1, .slice none 0 0]) ?_ _ _ rfl
  refine blk_put (cs := #[.slice none 0 0, .slice none 0 0]) ?_ _ _ rfl
  exact HZ3.out) hu59 rfl (by kernel_rfl)) rfl ?_
 have hne : ∀ k, (ok k ∨ w3.heap.size ≤ k) → k ≠ W.heap.size + 1 + 1 := fun k hk he => by
  have h3 := blk_lt HBX.out.2.2.2
  rcases hk with hk | hk
  ·exact HNO.out k (by omega) hk
  ·omega
 have k1 := HK5.out.set (p := ⟨W.heap.size + 1 + 1, 0, none⟩) (.inr (by show W.heap.size ≤ W.heap.size + 1 + 1; omega)) (.slice A1 n1 c1)
 have k2 := k1.set (p := ⟨W.heap.size + 1 + 1, 1, none⟩) (.inr (by show W.heap.size ≤ W.heap.size + 1 + 1; omega)) (.slice A9 (l.length + 1) c9)
 have r1 := Kd.R_far HR5.out (p := ⟨W.heap.size + 1 + 1, 0, none⟩) hne (.slice A1 n1 c1)
 have r2 := Kd.R_far r1 (p := ⟨W.heap.size + 1 + 1, 1, none⟩) hne (.slice A9 (l.length + 1) c9)
 exact ⟨A9, c9, rfl, k2, .inl (Kd.R_mono r2 (fun k hk => hk.imp id (Nat.le_trans HBX.out.1.size)))⟩
set_option maxHeartbeats 4000000 in
set_option maxRecDepth 100000 in
theorem done.put0c (ad : Addr) (l : List Int) (A1 : Option Addr) (n1 c1 : Nat) (k b : Int) (W : World) (ok : Nat → Prop) (h : Kd.F (Kd.int .u8) W ok (some ad) l.length l) (hok : ∀ k, ok k → k < W.heap.size) (hk : k < 0) (hl : l.length ≤ 65536) :
  Calls Try.prog 59 #[.agg #[.slice (some ad) l.length l.length, .slice A1 n1 c1], .agg #[.int .i64 0, .int .i64 k, .int .u8 b]] W fun e W' => ∃ A9 c9, e = .returned (.agg #[.slice A9 (l.length + 1) c9, .slice A1 n1 c1]) ∧ Turned ok W W' (SideR (.slice A9 (l.length + 1) c9) (l ++ [b])) := by
 have hcb : decide ((0 : Int) ≤ k) = false := decide_eq_false (by omega)
 have HNO := Aside0.mk (show ∀ j, W.heap.size ≤ j → ¬ ok j from fun j hj hk2 => by have := hok j hk2; omega)
 have HH := Aside0.mk h
 clear h hok hk
 go_enter Try.func59, Try.ntmps59
 go_wp2_with fail
 obtain ⟨w3, e3⟩ : ∃ w3, w3 = (((W.alloc (.cells #[.slice (some ad) l.length l.length, .slice A1 n1 c1] 59)).alloc (.cells #[.int .i64 0, .int .i64 k, .int .u8 b] 84)).alloc (.cells #[.slice none 0 0, .slice none 0 0] 59)).drew := ⟨_, rfl⟩
 have HBX := Aside0.mk (three_boxes W _ _ _ _ e3)
 have HY0 := Aside0.mk (show w3.cell? ⟨W.heap.size + 1, 0, none⟩ = some (.int .i64 0) by rw [blk_cell HBX.out.2.2.1]; rfl)
 have HY2 := Aside0.mk (show w3.cell? ⟨W.heap.size + 1, 2, none⟩ = some (.int .u8 b) by rw [blk_cell HBX.out.2.2.1]; rfl)
 have HX0 := Aside0.mk (show w3.cell? ⟨W.heap.size, 0, none⟩ = some (.slice (some ad) l.length l.length) by rw [blk_cell HBX.out.2.1]; rfl)
 have HC3 := Aside0.mk (Kd.C_below (Kd.F_now HH.out) HBX.out.1)
 refine start_ (n := 12) (S := fun w' => w'.cell? ⟨W.heap.size + 1, 0, none⟩ = some (.int .i64 0) ∧ w'.cell? ⟨W.heap.size + 1, 2, none⟩ = some (.int .u8 b) ∧ w'.cell? ⟨W.heap.size, 0, none⟩ = some (.slice (some ad) l.length l.length)) (ds := [11]) #[false, false, false, false, false, false, false, false, false, false, false, false] (by kernel_rfl) rfl rfl ⟨(by rw [← e3]; exact HY0.out), (by rw [← e3]; exact HY2.out), (by rw [← e3]; exact HX0.out)⟩ (fun hHeld => ?_)
 rw [← e3] at hHeld ⊢
 clear e3
 refine pure_ (i := 0) (N := some 19) (v := ?_) (a' := ?_) #[true, false, false, false, false, false, false, false, false, false, false, false] rfl rfl (by kernel_rfl) (fun _ _ _ h => h) (Or.inl ⟨by rfl, ?_⟩) ?_ ?_
 rotate_left
 ·intro w'
  go_simp
  with_reducible rfl
 rotate_left
 ·simp only [Act.put, List.setIfInBounds_toArray, List.set_cons_zero, List.set_cons_succ, i64_w, i32_w]
  rfl
 refine pure_ (i := 2) (N := some 21) (v := ?_) (a' := ?_) #[true, false, true, false, false, false, false, false, false, false, false, false] rfl rfl (by kernel_rfl) (fun _ _ _ h => h) (Or.inl ⟨by rfl, ?_⟩) ?_ ?_
 rotate_left
 ·intro w'
  go_simp
  with_reducible rfl
 rotate_left
 ·simp only [Act.put, List.setIfInBounds_toArray, List.set_cons_zero, List.set_cons_succ, i64_w, i32_w]
  rfl
 refine pure_ (i := 6) (N := some 25) (v := ?_) (a' := ?_) #[true, false, true, false, false, false, true, false, false, false, false, false] rfl rfl (by kernel_rfl) (fun _ _ _ h => h) (Or.inl ⟨by rfl, ?_⟩) ?_ ?_
 rotate_left
 ·intro w'
  go_simp
  with_reducible rfl
 rotate_left
 ·simp only [Act.put, List.setIfInBounds_toArray, List.set_cons_zero, List.set_cons_succ, i64_w, i32_w]
  rfl
 refine take_ (i := 1) (N := some 20) (v := ?_) (a' := ?_) #[true, true, true, false, false, false, true, false, false, false, false, false] rfl rfl (by kernel_rfl) (fun _ _ _ h => h) (Or.inl ⟨by rfl, ?_⟩) hHeld ?_ ?_
 rotate_left
 ·rintro w' ⟨s0, s1, s2⟩
  go_simp
  with_reducible rfl
 rotate_left
 ·simp only [Act.put, List.setIfInBounds_toArray, List.set_cons_zero, List.set_cons_succ, i64_w, i32_w]
  rfl
 refine take_ (i := 3) (N := some 22) (v := ?_) (a' := ?_) #[true, true, true, true, false, false, true, false, false, false, false, false] rfl rfl (by kernel_rfl) (fun _ _ _ h => h) (Or.inl ⟨by rfl, ?_⟩) hHeld ?_ ?_
 rotate_left
 ·rintro w' ⟨s0, s1, s2⟩
  go_simp
  with_reducible rfl
 rotate_left
 ·simp only [Act.put, List.setIfInBounds_toArray, List.set_cons_zero, List.set_cons_succ, i64_w, i32_w]
  rfl
 refine pure_ (i := 4) (N := some 23) (v := ?_) (a' := ?_) #[true, true, true, true, true, false, true, false, false, false, false, false] rfl rfl (by kernel_rfl) (fun _ _ _ h => h) (Or.inl ⟨by rfl, ?_⟩) ?_ ?_
 rotate_left
 ·intro w'
  go_simp
  with_reducible rfl
 rotate_left
 ·simp only [Act.put, List.setIfInBounds_toArray, List.set_cons_zero, List.set_cons_succ, i64_w, i32_w]
  rfl
 refine take_ (i := 5) (N := some 24) (v := ?_) (a' := ?_) #[true, true, true, true, true, true, true, false, false, false, false, false] rfl rfl (by kernel_rfl) (fun _ _ _ h => h) (Or.inl ⟨by rfl, ?_⟩) hHeld ?_ ?_
 rotate_left
 ·rintro w' ⟨s0, s1, s2⟩
  go_simp
  with_reducible rfl
 rotate_left
 ·simp only [Act.put, List.setIfInBounds_toArray, List.set_cons_zero, List.set_cons_succ, i64_w, i32_w]
  rfl
 refine take_ (i := 7) (N := some 26) (v := ?_) (a' := ?_) #[true, true, true, true, true, true, true, true, false, false, false, false] rfl rfl (by kernel_rfl) (fun _ _ _ h => h) (Or.inl ⟨by rfl, ?_⟩) hHeld ?_ ?_
 rotate_left
 ·rintro w' ⟨s0, s1, s2⟩
  go_simp
  with_reducible rfl
 rotate_left
 ·simp only [Act.put, List.setIfInBounds_toArray, List.set_cons_zero, List.set_cons_succ, i64_w, i32_w]
  rfl
 refine one_ (i := 8) (N := some 27) #[true, true, true, true, true, true, true, true, true, false, false, false] rfl rfl (by kernel_rfl) (by decide) (fun K hK => ?_)
 refine value_ (w1 := ?_) (v := ?_) (by rfl) rfl ?_ ?_
 rotate_left 2
 ·go_simp
  constructor
  ·rfl
  ·rfl
 refine hK.out _ _ ⟨(pw_cell_below (below_alloc (Below.refl _ _) _) HY0.out), (pw_cell_below (below_alloc (Below.refl _ _) _) HY2.out), (pw_cell_below (below_alloc (Below.refl _ _) _) HX0.out)⟩ (fun hHeld => ?_)
 clear hK K
 refine norm_ (a' := ?_) ?_ ?_
 rotate_left
 ·show Act.put _ (some 27) _ = _
  simp only [Act.put, List.setIfInBounds_toArray, List.set_cons_zero, List.set_cons_succ, i64_w, i32_w]
  rfl
 refine one_ (i := 9) (N := some 28) #[true, true, true, true, true, true, true, true, true, true, false, false] rfl rfl (by kernel_rfl) (by decide) (fun K hK => ?_)
 refine clip_append_step (W := w3) (by rfl) (.tmp 24) (.tmp 27) 30 5 rfl Try.underlying30 hinfo5 ad l b rfl rfl HC3.out (by omega) ?_
 intro v1 w1 hR hb1
 have HR1 := Aside0.mk (show (Kd.int .u8).R 5 w1 0 (fun k => ok k ∨ w3.heap.size ≤ k) v1 (l ++ [b]) from Kd.R_mono hR (fun k hk => .inr hk))
 have HK1 := Aside0.mk (show Keeps w3 w1 ok from Keeps.of_below hb1 _)
 obtain ⟨A9, c9, ev9⟩ := Kd.R_slice hR
 rw [show (l ++ [b]).length = l.length + 1 by simp] at ev9
 subst ev9
 have HG1 := Aside0.mk (show w1.heap[W.heap.size]? = some (.cells #[.slice (some ad) l.length l.length, .slice A1 n1 c1] 59 (0, 0)) from (HK1.out.block _ (blk_lt HBX.out.2.1) (HNO.out _ (Nat.le_refl _))).trans HBX.out.2.1)
 have HG3 := Aside0.mk (show w1.heap[W.heap.size + 1 + 1]? = some (.cells #[.slice none 0 0, .slice none 0 0] 59 (0, 0)) from (HK1.out.block _ (blk_lt HBX.out.2.2.2) (HNO.out _ (by omega))).trans HBX.out.2.2.2)
 have hfz1 : w1.frozen? ⟨W.heap.size, 0, none⟩ = false := blk_frozen HG1.out 0
 refine hK.out _ _ ⟨(pw_cell_below hb1 HY0.out), (pw_cell_below hb1 HY2.out), (pw_cell_below hb1 HX0.out)⟩ (fun hHeld => ?_)
 clear hK K
 refine norm_ (a' := ?_) ?_ ?_
 rotate_left
 ·show Act.put _ (some 28) _ = _
  simp only [Act.put, List.setIfInBounds_toArray, List.set_cons_zero, List.set_cons_succ, i64_w, i32_w]
  rfl
 refine pure_ (i := 10) (N := some 29) (v := ?_) (a' := ?_) #[true, true, true, true, true, true, true, true, true, true, true, false] rfl rfl (by kernel_rfl) (fun _ _ _ h => h) (Or.inl ⟨by rfl, ?_⟩) ?_ ?_
 rotate_left
 ·intro w'
  go_simp
  with_reducible rfl
 rotate_left
 ·simp only [Act.put, List.setIfInBounds_toArray, List.set_cons_zero, List.set_cons_succ, i64_w, i32_w]
  rfl
 refine last_ (i := 11) (N := none) #[true, true, true, true, true, true, true, true, true, true, true, true] rfl rfl (by kernel_rfl) (by decide) (fun K hK => ?_)
 refine skip_ (w1 := ?_) (by rfl) rfl ?_ ?_
 rotate_left
 ·go_simp
  rfl
 refine hK.out _ _ ?_
 clear hK K
 refine done_ (by kernel_rfl) ?_
 obtain ⟨w5, e5⟩ : ∃ w5, w5 = w1.setCell ⟨W.heap.size, 0, none⟩ (.slice A9 (l.length + 1) c9) := ⟨_, rfl⟩
 have HZ1 := Aside0.mk (show w5.heap[W.heap.size]? = some (.cells #[.slice A9 (l.length + 1) c9, .slice A1 n1 c1] 59 (0, 0)) by rw [e5]; exact blk_put HG1.out 0 _ rfl)
 have HZ3 := Aside0.mk (show w5.heap[W.heap.size + 1 + 1]? = some (.cells #[.slice none 0 0, .slice none 0 0] 59 (0, 0)) by rw [e5]; exact (Below.heap_setCell w1 _ _ _ (by show W.heap.size + 1 + 1 ≠ W.heap.size; omega)).trans HG3.out)
 have HK5 := Aside0.mk (show Keeps W w5 ok by rw [e5]; exact ((Keeps.of_below HBX.out.1 ok).then_ HK1.out (fun _ hk => .inl hk)).set (p := ⟨W.heap.size, 0, none⟩) (.inr (Nat.le_refl _)) _)
 have HR5 := Aside0.mk (show (Kd.int .u8).R 5 w5 0 (fun k => ok k ∨ w3.heap.size ≤ k) (.slice A9 (l.length + 1) c9) (l ++ [b]) by
  rw [e5]
  exact Kd.R_far HR1.out (p := ⟨W.heap.size, 0, none⟩) (fun k hk he => by
   have h3 := blk_lt HBX.out.2.2.2
   rcases hk with hk | hk
   ·exact HNO.out k (by show W.heap.size ≤ k; simp only at he; omega) hk
   ·simp only at he; omega) _)
 rw [← e5]
 clear e5
 obtain ⟨x0, x1, p0, p1⟩ := blk_all2 HZ1.out
 obtain ⟨y0, y1, q0, q1⟩ := blk_all2 HZ3.out
 have hu59 := Try.underlying59
 go_wp2_with fail
 refine bodyPost_ret (results_cell_row rfl _ _ (W.heap.size + 1 + 1) 59 #[.slice A9 (l.length + 1) c9, .slice A1 n1 c1] (0, 0) _ rfl (by
  refine blk_put (cs := #[.slice A9 (l.length + 1) c9, .slice none 0 0]) ?_ _ _ rfl
  refine blk_put (cs := #[.slice none 0 0, .slice none 0 0]) ?_ _ _ rfl
  exact HZ3.out) hu59 rfl (by kernel_rfl)) rfl ?_
 have hne : ∀ k, (ok k ∨ w3.heap.size ≤ k) → k ≠ W.heap.size + 1 + 1 := fun k hk he => by
  have h3 := blk_lt HBX.out.2.2.2
  rcases hk with hk | hk
  ·exact HNO.out k (by omega) hk
  ·omega
 have k1 := HK5.out.set (p := ⟨W.heap.size + 1 + 1, 0, none⟩) (.inr (by show W.heap.size ≤ W.heap.size + 1 + 1; omega)) (.slice A9 (l.length + 1) c9)
 have k2 := k1.set (p := ⟨W.heap.size + 1 + 1, 1, none⟩) (.inr (by show W.heap.size ≤ W.heap.size + 1 + 1; omega)) (.slice A1 n1 c1)
 have r1 := Kd.R_far HR5.out (p := ⟨W.heap.size + 1 + 1, 0, none⟩) hne (.slice A9 (l.length + 1) c9)
 have r2 := Kd.R_far r1 (p := ⟨W.heap.size + 1 + 1, 1, none⟩) hne (.slice A1 n1 c1)
 exact ⟨A9, c9, rfl, k2, .inl (Kd.R_mono r2 (fun k hk => hk.imp id (Nat.le_trans HBX.out.1.size)))⟩
set_option maxHeartbeats 4000000 in
set_option maxRecDepth 100000 in
theorem done.put1c (ad : Addr) (l : List Int) (A1 : Option Addr) (n1 c1 : Nat) (k b : Int) (W : World) (ok : Nat → Prop) (h : Kd.F (Kd.int .u8) W ok (some ad) l.length l) (hok : ∀ k, ok k → k < W.heap.size) (hk : k < 0) (hl : l.length ≤ 65536) :
  Calls Try.prog 59 #[.agg #[.slice A1 n1 c1, .slice (some ad) l.length l.length], .agg #[.int .i64 1, .int .i64 k, .int .u8 b]] W fun e W' => ∃ A9 c9, e = .returned (.agg #[.slice A1 n1 c1, .slice A9 (l.length + 1) c9]) ∧ Turned ok W W' (SideR (.slice A9 (l.length + 1) c9) (l ++ [b])) := by
 have hcb : decide ((0 : Int) ≤ k) = false := decide_eq_false (by omega)
 have HNO := Aside0.mk (show ∀ j, W.heap.size ≤ j → ¬ ok j from fun j hj hk2 => by have := hok j hk2; omega)
 have HH := Aside0.mk h
 clear h hok hk
 go_enter Try.func59, Try.ntmps59
 go_wp2_with fail
 obtain ⟨w3, e3⟩ : ∃ w3, w3 = (((W.alloc (.cells #[.slice A1 n1 c1, .slice (some ad) l.length l.length] 59)).alloc (.cells #[.int .i64 1, .int .i64 k, .int .u8 b] 84)).alloc (.cells #[.slice none 0 0, .slice none 0 0] 59)).drew := ⟨_, rfl⟩
 have HBX := Aside0.mk (three_boxes W _ _ _ _ e3)
 have HY0 := Aside0.mk (show w3.cell? ⟨W.heap.size + 1, 0, none⟩ = some (.int .i64 1) by rw [blk_cell HBX.out.2.2.1]; rfl)
 have HY2 := Aside0.mk (show w3.cell? ⟨W.heap.size + 1, 2, none⟩ = some (.int .u8 b) by rw [blk_cell HBX.out.2.2.1]; rfl)
 have HX1 := Aside0.mk (show w3.cell? ⟨W.heap.size, 1, none⟩ = some (.slice (some ad) l.length l.length) by rw [blk_cell HBX.out.2.1]; rfl)
 have HC3 := Aside0.mk (Kd.C_below (Kd.F_now HH.out) HBX.out.1)
 refine start_ (n := 12) (S := fun w' => w'.cell? ⟨W.heap.size + 1, 0, none⟩ = some (.int .i64 1) ∧ w'.cell? ⟨W.heap.size + 1, 2, none⟩ = some (.int .u8 b) ∧ w'.cell? ⟨W.heap.size, 1, none⟩ = some (.slice (some ad) l.length l.length)) (ds := [11]) #[false, false, false, false, false, false, false, false, false, false, false, false] (by kernel_rfl) rfl rfl ⟨(by rw [← e3]; exact HY0.out), (by rw [← e3]; exact HY2.out), (by rw [← e3]; exact HX1.out)⟩ (fun hHeld => ?_)
 rw [← e3] at hHeld ⊢
 clear e3
 refine pure_ (i := 0) (N := some 19) (v := ?_) (a' := ?_) #[true, false, false, false, false, false, false, false, false, false, false, false] rfl rfl (by kernel_rfl) (fun _ _ _ h => h) (Or.inl ⟨by rfl, ?_⟩) ?_ ?_
 rotate_left
 ·intro w'
  go_simp
  with_reducible rfl
 rotate_left
 ·simp only [Act.put, List.setIfInBounds_toArray, List.set_cons_zero, List.set_cons_succ, i64_w, i32_w]
  rfl
 refine pure_ (i := 2) (N := some 21) (v := ?_) (a' := ?_) #[true, false, true, false, false, false, false, false, false, false, false, false] rfl rfl (by kernel_rfl) (fun _ _ _ h => h) (Or.inl ⟨by rfl, ?_⟩) ?_ ?_
 rotate_left
 ·intro w'
  go_simp
  with_reducible rfl
 rotate_left
 ·simp only [Act.put, List.setIfInBounds_toArray, List.set_cons_zero, List.set_cons_succ, i64_w, i32_w]
  rfl
 refine pure_ (i := 6) (N := some 25) (v := ?_) (a' := ?_) #[true, false, true, false, false, false, true, false, false, false, false, false] rfl rfl (by kernel_rfl) (fun _ _ _ h => h) (Or.inl ⟨by rfl, ?_⟩) ?_ ?_
 rotate_left
 ·intro w'
  go_simp
  with_reducible rfl
 rotate_left
 ·simp only [Act.put, List.setIfInBounds_toArray, List.set_cons_zero, List.set_cons_succ, i64_w, i32_w]
  rfl
 refine take_ (i := 1) (N := some 20) (v := ?_) (a' := ?_) #[true, true, true, false, false, false, true, false, false, false, false, false] rfl rfl (by kernel_rfl) (fun _ _ _ h => h) (Or.inl ⟨by rfl, ?_⟩) hHeld ?_ ?_
 rotate_left
 ·rintro w' ⟨s0, s1, s2⟩
  go_simp
  with_reducible rfl
 rotate_left
 ·simp only [Act.put, List.setIfInBounds_toArray, List.set_cons_zero, List.set_cons_succ, i64_w, i32_w]
  rfl
 refine take_ (i := 3) (N := some 22) (v := ?_) (a' := ?_) #[true, true, true, true, false, false, true, false, false, false, false, false] rfl rfl (by kernel_rfl) (fun _ _ _ h => h) (Or.inl ⟨by rfl, ?_⟩) hHeld ?_ ?_
 rotate_left
 ·rintro w' ⟨s0, s1, s2⟩
  go_simp
  with_reducible rfl
 rotate_left
 ·simp only [Act.put, List.setIfInBounds_toArray, List.set_cons_zero, List.set_cons_succ, i64_w, i32_w]
  rfl
 refine pure_ (i := 4) (N := some 23) (v := ?_) (a' := ?_) #[true, true, true, true, true, false, true, false, false, false, false, false] rfl rfl (by kernel_rfl) (fun _ _ _ h => h) (Or.inl ⟨by rfl, ?_⟩) ?_ ?_
 rotate_left
 ·intro w'
  go_simp
  with_reducible rfl
 rotate_left
 ·simp only [Act.put, List.setIfInBounds_toArray, List.set_cons_zero, List.set_cons_succ, i64_w, i32_w]
  rfl
 refine take_ (i := 5) (N := some 24) (v := ?_) (a' := ?_) #[true, true, true, true, true, true, true, false, false, false, false, false] rfl rfl (by kernel_rfl) (fun _ _ _ h => h) (Or.inl ⟨by rfl, ?_⟩) hHeld ?_ ?_
 rotate_left
 ·rintro w' ⟨s0, s1, s2⟩
  go_simp
  with_reducible rfl
 rotate_left
 ·simp only [Act.put, List.setIfInBounds_toArray, List.set_cons_zero, List.set_cons_succ, i64_w, i32_w]
  rfl
 refine take_ (i := 7) (N := some 26) (v := ?_) (a' := ?_) #[true, true, true, true, true, true, true, true, false, false, false, false] rfl rfl (by kernel_rfl) (fun _ _ _ h => h) (Or.inl ⟨by rfl, ?_⟩) hHeld ?_ ?_
 rotate_left
 ·rintro w' ⟨s0, s1, s2⟩
  go_simp
  with_reducible rfl
 rotate_left
 ·simp only [Act.put, List.setIfInBounds_toArray, List.set_cons_zero, List.set_cons_succ, i64_w, i32_w]
  rfl
 refine one_ (i := 8) (N := some 27) #[true, true, true, true, true, true, true, true, true, false, false, false] rfl rfl (by kernel_rfl) (by decide) (fun K hK => ?_)
 refine value_ (w1 := ?_) (v := ?_) (by rfl) rfl ?_ ?_
 rotate_left 2
 ·go_simp
  constructor
  ·rfl
  ·rfl
 refine hK.out _ _ ⟨(pw_cell_below (below_alloc (Below.refl _ _) _) HY0.out), (pw_cell_below (below_alloc (Below.refl _ _) _) HY2.out), (pw_cell_below (below_alloc (Below.refl _ _) _) HX1.out)⟩ (fun hHeld => ?_)
 clear hK K
 refine norm_ (a' := ?_) ?_ ?_
 rotate_left
 ·show Act.put _ (some 27) _ = _
  simp only [Act.put, List.setIfInBounds_toArray, List.set_cons_zero, List.set_cons_succ, i64_w, i32_w]
  rfl
 refine one_ (i := 9) (N := some 28) #[true, true, true, true, true, true, true, true, true, true, false, false] rfl rfl (by kernel_rfl) (by decide) (fun K hK => ?_)
 refine clip_append_step (W := w3) (by rfl) (.tmp 24) (.tmp 27) 30 5 rfl Try.underlying30 hinfo5 ad l b rfl rfl HC3.out (by omega) ?_
 intro v1 w1 hR hb1
 have HR1 := Aside0.mk (show (Kd.int .u8).R 5 w1 0 (fun k => ok k ∨ w3.heap.size ≤ k) v1 (l ++ [b]) from Kd.R_mono hR (fun k hk => .inr hk))
 have HK1 := Aside0.mk (show Keeps w3 w1 ok from Keeps.of_below hb1 _)
 obtain ⟨A9, c9, ev9⟩ := Kd.R_slice hR
 rw [show (l ++ [b]).length = l.length + 1 by simp] at ev9
 subst ev9
 have HG1 := Aside0.mk (show w1.heap[W.heap.size]? = some (.cells #[.slice A1 n1 c1, .slice (some ad) l.length l.length] 59 (0, 0)) from (HK1.out.block _ (blk_lt HBX.out.2.1) (HNO.out _ (Nat.le_refl _))).trans HBX.out.2.1)
 have HG3 := Aside0.mk (show w1.heap[W.heap.size + 1 + 1]? = some (.cells #[.slice none 0 0, .slice none 0 0] 59 (0, 0)) from (HK1.out.block _ (blk_lt HBX.out.2.2.2) (HNO.out _ (by omega))).trans HBX.out.2.2.2)
 have hfz1 : w1.frozen? ⟨W.heap.size, 1, none⟩ = false := blk_frozen HG1.out 1
 refine hK.out _ _ ⟨(pw_cell_below hb1 HY0.out), (pw_cell_below hb1 HY2.out), (pw_cell_below hb1 HX1.out)⟩ (fun hHeld => ?_)
 clear hK K
 refine norm_ (a' := ?_) ?_ ?_
 rotate_left
 ·show Act.put _ (some 28) _ = _
  simp only [Act.put, List.setIfInBounds_toArray, List.set_cons_zero, List.set_cons_succ, i64_w, i32_w]
  rfl
 refine pure_ (i := 10) (N := some 29) (v := ?_) (a' := ?_) #[true, true, true, true, true, true, true, true, true, true, true, false] rfl rfl (by kernel_rfl) (fun _ _ _ h => h) (Or.inl ⟨by rfl, ?_⟩) ?_ ?_
 rotate_left
 ·intro w'
  go_simp
  with_reducible rfl
 rotate_left
 ·simp only [Act.put, List.setIfInBounds_toArray, List.set_cons_zero, List.set_cons_succ, i64_w, i32_w]
  rfl
 refine last_ (i := 11) (N := none) #[true, true, true, true, true, true, true, true, true, true, true, true] rfl rfl (by kernel_rfl) (by decide) (fun K hK => ?_)
 refine skip_ (w1 := ?_) (by rfl) rfl ?_ ?_
 rotate_left
 ·go_simp
  rfl
 refine hK.out _ _ ?_
 clear hK K
 refine done_ (by kernel_rfl) ?_
 obtain ⟨w5, e5⟩ : ∃ w5, w5 = w1.setCell ⟨W.heap.size, 1, none⟩ (.slice A9 (l.length + 1) c9) := ⟨_, rfl⟩
 have HZ1 := Aside0.mk (show w5.heap[W.heap.size]? = some (.cells #[.slice A1 n1 c1, .slice A9 (l.length + 1) c9] 59 (0, 0)) by rw [e5]; exact blk_put HG1.out 1 _ rfl)
 have HZ3 := Aside0.mk (show w5.heap[W.heap.size + 1 + 1]? = some (.cells #[.slice none 0 0, .slice none 0 0] 59 (0, 0)) by rw [e5]; exact (Below.heap_setCell w1 _ _ _ (by show W.heap.size + 1 + 1 ≠ W.heap.size; omega)).trans HG3.out)
 have HK5 := Aside0.mk (show Keeps W w5 ok by rw [e5]; exact ((Keeps.of_below HBX.out.1 ok).then_ HK1.out (fun _ hk => .inl hk)).set (p := ⟨W.heap.size, 1, none⟩) (.inr (Nat.le_refl _)) _)
 have HR5 := Aside0.mk (show (Kd.int .u8).R 5 w5 0 (fun k => ok k ∨ w3.heap.size ≤ k) (.slice A9 (l.length + 1) c9) (l ++ [b]) by
  rw [e5]
  exact Kd.R_far HR1.out (p := ⟨W.heap.size, 1, none⟩) (fun k hk he => by
   have h3 := blk_lt HBX.out.2.2.2
   rcases hk with hk | hk
   ·exact HNO.out k (by show W.heap.size ≤ k; simp only at he; omega) hk
   ·simp only at he; omega) _)
 rw [← e5]
 clear e5
 obtain ⟨x0, x1, p0, p1⟩ := blk_all2 HZ1.out
 obtain ⟨y0, y1, q0, q1⟩ := blk_all2 HZ3.out
 have hu59 := Try.underlying59
 go_wp2_with fail
 refine bodyPost_ret (results_cell_row rfl _ _ (W.heap.size + 1 + 1) 59 #[.slice A1 n1 c1, .slice A9 (l.length + 1) c9] (0, 0) _ rfl (by
  refine blk_put (cs := #[.slice A1 n1 c1, .slice none 0 0]) ?_ _ _ rfl
  refine blk_put (cs := #[.slice none 0 0, .slice none 0 0]) ?_ _ _ rfl
  exact HZ3.out) hu59 rfl (by kernel_rfl)) rfl ?_
 have hne : ∀ k, (ok k ∨ w3.heap.size ≤ k) → k ≠ W.heap.size + 1 + 1 := fun k hk he => by
  have h3 := blk_lt HBX.out.2.2.2
  rcases hk with hk | hk
  ·exact HNO.out k (by omega) hk
  ·omega
 have k1 := HK5.out.set (p := ⟨W.heap.size + 1 + 1, 0, none⟩) (.inr (by show W.heap.size ≤ W.heap.size + 1 + 1; omega)) (.slice A1 n1 c1)
 have k2 := k1.set (p := ⟨W.heap.size + 1 + 1, 1, none⟩) (.inr (by show W.heap.size ≤ W.heap.size + 1 + 1; omega)) (.slice A9 (l.length + 1) c9)
 have r1 := Kd.R_far HR5.out (p := ⟨W.heap.size + 1 + 1, 0, none⟩) hne (.slice A1 n1 c1)
 have r2 := Kd.R_far r1 (p := ⟨W.heap.size + 1 + 1, 1, none⟩) hne (.slice A9 (l.length + 1) c9)
 exact ⟨A9, c9, rfl, k2, .inl (Kd.R_mono r2 (fun k hk => hk.imp id (Nat.le_trans HBX.out.1.size)))⟩
end Go.Proofs.Ytmfmoddaejoekaa.P
