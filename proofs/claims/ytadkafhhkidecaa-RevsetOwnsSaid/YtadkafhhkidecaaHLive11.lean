/- Contract, typed by hand and by a program: the law's examples: all hold. -/
import Derived.Test.YtadkafhhkidecaaHLike
set_option linter.unusedVariables false
set_option linter.unusedSimpArgs false
namespace Go.Proofs.Ytadkafhhkidecaa.P
open Go.RowKit Go.Proofs.YtadkafhhkidecaaW.PrintWords Go.Proofs.YtadkafhhkidecaaW.PrintLast Go.Proofs.YtadkafhhkidecaaW.PrintMore
theorem blk_lit_C {W : World} {b : Nat} {e : TypeId} {xs : List Int} {cs : Array Value} (h : W.heap[b]? = some (.cells cs e (0, 0))) (hcs : cs = (nums .i64 xs).toArray) (hm : xs.length ≤ 1000) : (Kd.int .i64).C W (some ⟨b, 0, none⟩) xs.length xs := by
  subst hcs
  refine ⟨rfl, by omega, fun _ => ⟨_, rfl, fun j p hj => ⟨[.int .i64 p], rfl, rfl, fun i u hu => ?_⟩⟩⟩
  match i, hu with
  | 0, hu =>
    cases hu
    have e2 : j * (Kd.int .i64).sz + 0 = j := Nat.mul_one j
    rw [e2, add_plain, blk_cell h]
    simp [nums, hj]
theorem blk_rows2_C {W : World} {g : Nat} {T : TypeId} {A B : Option Addr} {c c' : Nat} {a b : List Int} (hh : W.heap[g]? = some (.cells #[.slice A a.length c, .slice B b.length c'] T (0, 0))) (ha : (Kd.int .i64).C W A a.length a) (hc : a.length ≤ c) (hb : (Kd.int .i64).C W B b.length b) (hc' : b.length ≤ c') :
    (Kd.slice 3 (Kd.int .i64)).C W (some ⟨g, 0, none⟩) ([a, b] : List (List Int)).length [a, b] := by
  refine ⟨rfl, by simp, fun _ => ⟨_, rfl, fun j p hj => ?_⟩⟩
  match j, hj with
  | 0, hj =>
    cases hj
    refine ⟨[.slice A a.length c], rfl, ⟨A, c, rfl, hc, ha⟩, fun i u hu => ?_⟩
    match i, hu with
    | 0, hu =>
      cases hu
      rw [add_plain, blk_cell hh]
      rfl
  | 1, hj =>
    cases hj
    refine ⟨[.slice B b.length c'], rfl, ⟨B, c', rfl, hc', hb⟩, fun i u hu => ?_⟩
    match i, hu with
    | 0, hu =>
      cases hu
      rw [add_plain, blk_cell hh]
      rfl
/-- The set so far. -/
def Lv (w W : World) (g : Nat) (L : List (List Int)) : Prop := (PSet g L).P (fun k => w.heap.size ≤ k) W ∧ Below w.heap.size w W
theorem Lv.on {w W W' : World} {g : Nat} {L : List (List Int)} (h : Lv w W g L) (hb : Below W.heap.size W W') : Lv w W' g L := ⟨(PSet g L).on h.1 hb, below_step h.2 hb⟩
theorem Lv.turned {w W W' : World} {g : Nat} {L L' : List (List Int)} (h : Lv w W g L) (ht : Turned (fun k => w.heap.size ≤ k ∧ k < W.heap.size) W W' (PSet g L')) : Lv w W' g L' :=
  ⟨(PSet g L').mono (fun k hk => hk.elim (·.1) (fun h2 => Nat.le_trans h.2.size h2)) ht.2, ((Keeps.of_below h.2 (fun _ => False)).then_ ht.1 (fun k hk => .inr hk.1)).belowF⟩
theorem Lv.P {w W : World} {g : Nat} {L : List (List Int)} (h : Lv w W g L) : (PSet g L).P (fun k => w.heap.size ≤ k ∧ k < W.heap.size) W := (PSet g L).bound h.1
theorem lv_add {w W : World} {g : Nat} {L L' : List (List Int)} (h : Lv w W g L) (hL : Good L) (d s n : Int) (hn : addN L d s = n) (hl : addL L d s = L') :
    Calls Try.prog 21 #[.pointer (some ⟨g, 0, none⟩), .agg #[.int .i64 d, .int .i64 s]] W fun e W' => e = .returned (.int .i64 n) ∧ Lv w W' g L' :=
  (revset_Set_Add.all g L hL d s W _ h.P).mono fun e W' hh => ⟨by rw [← hn]; exact hh.1, h.turned (by rw [← hl]; exact ⟨hh.2.1, hh.2.2⟩)⟩
theorem lv_merge {w W : World} {g : Nat} {L L' : List (List Int)} (h : Lv w W g L) (hL : Good L) (p q x n : Int) (hn : mergeN [p, q] [[], [x]] L = n) (hl : mergeL [p, q] [[], [x]] L = L') :
    Calls Try.prog 20 #[.pointer (some ⟨g, 0, none⟩), .slice (some ⟨W.heap.size, 0, none⟩) 2 2, .slice (some ⟨W.heap.size + 2, 0, none⟩) 2 2] (((W.alloc (.cells #[.int .i64 p, .int .i64 q] 3)).alloc (.cells #[.int .i64 x] 3)).alloc (.cells #[.slice none 0 0, .slice (some ⟨W.heap.size + 1, 0, none⟩) 1 1] 30)) fun e W' => e = .returned (.int .i64 n) ∧ Lv w W' g L' := by
  obtain ⟨W1, e1⟩ : ∃ W1, W1 = (((W.alloc (.cells #[.int .i64 p, .int .i64 q] 3)).alloc (.cells #[.int .i64 x] 3)).alloc (.cells #[.slice none 0 0, .slice (some ⟨W.heap.size + 1, 0, none⟩) 1 1] 30)) := ⟨_, rfl⟩
  have hb : Below W.heap.size W W1 := by rw [e1]; exact below_alloc (below_alloc (below_alloc (Below.refl _ _) _) _) _
  have y0 := heap_alloc_new W (.cells #[.int .i64 p, .int .i64 q] 3)
  have y1 := heap_alloc_new (W.alloc (.cells #[.int .i64 p, .int .i64 q] 3)) (.cells #[.int .i64 x] 3)
  have y2 := heap_alloc_new ((W.alloc (.cells #[.int .i64 p, .int .i64 q] 3)).alloc (.cells #[.int .i64 x] 3)) (.cells #[.slice none 0 0, .slice (some ⟨W.heap.size + 1, 0, none⟩) 1 1] 30)
  rw [World.heap_size_alloc_] at y1
  rw [World.heap_size_alloc_, World.heap_size_alloc_] at y2
  have x0 : W1.heap[W.heap.size]? = some (.cells #[.int .i64 p, .int .i64 q] 3 (0, 0)) := by
    rw [e1]
    exact ((below_alloc (below_alloc (Below.refl _ _) _) _).block W.heap.size (blk_lt y0)).trans y0
  have x1 : W1.heap[W.heap.size + 1]? = some (.cells #[.int .i64 x] 3 (0, 0)) := by
    rw [e1]
    exact ((below_alloc (Below.refl _ _) _).block (W.heap.size + 1) (blk_lt y1)).trans y1
  have x2 : W1.heap[W.heap.size + 2]? = some (.cells #[.slice none 0 0, .slice (some ⟨W.heap.size + 1, 0, none⟩) 1 1] 30 (0, 0)) := by
    rw [e1]
    exact y2
  rw [← e1]
  have h1 := (PSet g L).on h.P hb
  have hk : ∀ {W' : World}, Keeps W1 W' (fun k => w.heap.size ≤ k ∧ k < W.heap.size) → ∀ k, W.heap.size ≤ k → ∀ o, W1.heap[k]? = some o → W'.heap[k]? = some o := fun {W'} hk2 k hk3 o ho => (hk2.block k (blk_lt ho) (by omega)).trans ho
  exact (revset_Merge.calls g L hL (some ⟨W.heap.size, 0, none⟩) 2 [p, q] (some ⟨W.heap.size + 2, 0, none⟩) 2 [[], [x]] W1 _ h1
    (fun W' hk2 => blk_lit_C (hk hk2 _ (Nat.le_refl _) _ x0) rfl (by simp)) (Nat.le_refl _)
    (fun W' hk2 => blk_rows2_C (c := 0) (hk hk2 _ (by omega) _ x2) (Kd.C_nil _ _) (Nat.le_refl _) (blk_lit_C (hk hk2 _ (by omega) _ x1) rfl (by simp)) (Nat.le_refl _)) (Nat.le_refl _)
    (by simp) (by simp)).mono fun e W' hh => ⟨by rw [← hn]; exact hh.1, (h.on hb).turned (by rw [← hl]; exact ⟨hh.2.1.mono (fun k _ hk => ⟨hk.1, Nat.lt_of_lt_of_le hk.2 hb.size⟩), (PSet g _).mono (fun k hk => hk.imp (fun h2 => ⟨h2.1, Nat.lt_of_lt_of_le h2.2 hb.size⟩) id) hh.2.2⟩)⟩
def lv0 : List (List Int) := List.replicate 16 []
def lv1 : List (List Int) := addL lv0 2 5
def lv2 : List (List Int) := addL lv1 2 3
def lv3 : List (List Int) := mergeL [0, 2] [[], [9]] lv2
def lv4 : List (List Int) := mergeL [0, 7] [[], [8]] lv3
theorem lv0_good : Good lv0 := good_new
theorem lv1_good : Good lv1 := lv0_good.add 2 5
theorem lv2_good : Good lv2 := lv1_good.add 2 3
theorem lv3_good : Good lv3 := lv2_good.merge [0, 2] [[], [9]] 16
theorem lv4_good : Good lv4 := lv3_good.merge [0, 7] [[], [8]] 16
set_option maxHeartbeats 4000000 in
set_option maxRecDepth 100000 in
theorem lives.calls (w : World) :
    Calls Try.prog 14 #[] w fun e w' => e = .returned (.bool true) ∧ Below w.heap.size w w' := by
  go_enter Try.func14, Try.ntmps14
  go_wp2_with fail
  refine (revset_New.calls w).mono ?_
  rintro e w1 ⟨g, rfl, hP, hB⟩
  have HV := Aside0.mk (show Lv w w1 g lv0 from ⟨hP, hB⟩)
  clear hP hB
  go_wp2_with fail
  refine (lv_add HV.out lv0_good 2 5 0 (by decide +kernel) rfl).mono ?_
  rintro e w2 ⟨rfl, hv⟩
  replace HV := Aside0.mk (show Lv w w2 g lv1 from hv)
  clear hv
  go_wp2_with fail
  refine (lv_add HV.out lv1_good 2 3 0 (by decide +kernel) rfl).mono ?_
  rintro e w3 ⟨rfl, hv⟩
  replace HV := Aside0.mk (show Lv w w3 g lv2 from hv)
  clear hv
  go_wp2_with fail
  refine (revset_Set_Row.all g lv2 lv2_good 2 w3 _ HV.out.P).mono ?_
  rintro e w4 ⟨v, rfl, hR, hB⟩
  rw [show rowN lv2 2 = [5, 3] by decide +kernel] at hR
  obtain ⟨A4, c4, ev⟩ := Kd.R_slice hR
  subst ev
  have HR4 := Aside0.mk (Kd.R_reads' hR)
  replace HV := Aside0.mk (HV.out.on hB)
  clear hR hB
  go_wp2_with fail
  refine (Same11.calls A4 c4 [5, 3] (some ⟨w4.heap.size, 0, none⟩) 2 [5, 3] (w4.alloc (.cells #[.int .i64 5, .int .i64 3] 3)) (Kd.C_alloc HR4.out.2.2 _) HR4.out.2.1 (lit_C' (k := .i64) w4 (w4.heap.size) (by simp) 3 [5, 3] _ rfl (by decide)) (by decide) (by decide)).mono ?_
  rintro e w_ ⟨rfl, ⟨n4, rfl⟩⟩
  rw [decide_eq_true (rfl : ([5, 3] : List Int) = [5, 3])]
  obtain ⟨w5, e5⟩ : ∃ w5, w5 = World.drewN (w4.alloc (.cells #[.int .i64 5, .int .i64 3] 3)) n4 := ⟨_, rfl⟩
  rw [← e5]
  replace HV := Aside0.mk (HV.out.on (W' := w5) (by rw [e5]; exact pw_below_drewN (below_alloc (Below.refl _ _) _) _))
  clear e5 HR4
  go_wp2_with fail
  refine (revset_Set_Vector.calls g lv2 lv2_good w5 _ HV.out.P).mono ?_
  rintro e w6 ⟨v, rfl, hR, hB⟩
  rw [show vectorS lv2 = [0, 2] by decide +kernel] at hR
  obtain ⟨A6, c6, ev⟩ := Kd.V_slice hR
  subst ev
  have HR6 := Aside0.mk (Kd.V_reads' hR)
  replace HV := Aside0.mk (HV.out.on hB)
  clear hR hB
  go_wp2_with fail
  refine (Same11.calls A6 c6 [0, 2] (some ⟨w6.heap.size, 0, none⟩) 2 [0, 2] (w6.alloc (.cells #[.int .i64 0, .int .i64 2] 3)) (Kd.C_alloc HR6.out.2.2 _) HR6.out.2.1 (lit_C' (k := .i64) w6 (w6.heap.size) (by simp) 3 [0, 2] _ rfl (by decide)) (by decide) (by decide)).mono ?_
  rintro e w_ ⟨rfl, ⟨n6, rfl⟩⟩
  rw [decide_eq_true (rfl : ([0, 2] : List Int) = [0, 2])]
  obtain ⟨w7, e7⟩ : ∃ w7, w7 = World.drewN (w6.alloc (.cells #[.int .i64 0, .int .i64 2] 3)) n6 := ⟨_, rfl⟩
  rw [← e7]
  replace HV := Aside0.mk (HV.out.on (W' := w7) (by rw [e7]; exact pw_below_drewN (below_alloc (Below.refl _ _) _) _))
  clear e7 HR6
  go_wp2_with fail
  refine (revset_Delta.calls g lv2 lv2_good (some ⟨w7.heap.size, 0, none⟩) 2 [0, 1] (w7.alloc (.cells #[.int .i64 0, .int .i64 1] 3)) _ ((PSet g lv2).on HV.out.P (below_alloc (Below.refl _ _) _)) (lit_C' (k := .i64) w7 (w7.heap.size) (by simp) 3 [0, 1] _ rfl (by decide)) (Nat.le_refl _)).mono ?_
  rintro e w8 ⟨v, rfl, hR, hB⟩
  rw [show deltaS lv2 [0, 1] = [[], [3]] by decide +kernel] at hR
  obtain ⟨A8, c8, ev⟩ := Kd.R_slice hR
  subst ev
  have HR8 := Aside0.mk (Kd.R_reads' hR)
  replace HV := Aside0.mk (HV.out.on (below_step (below_alloc (Below.refl _ _) _) hB))
  clear hR hB
  go_wp2_with fail
  refine (SameRows.self A8 c8 (some ⟨w8.heap.size + 1, 0, none⟩) 2 [[], [3]] ((w8.alloc (.cells #[.int .i64 3] 3)).alloc (.cells #[.slice none 0 0, .slice (some ⟨w8.heap.size, 0, none⟩) 1 1] 30)) (Kd.C_alloc (Kd.C_alloc HR8.out.2.2 _) _) HR8.out.2.1 ?cR (Nat.le_refl _) (by decide) (by decide)).mono ?_
  case cR =>
    have := rows2_C (e := 3) (w8.alloc (.cells #[.int .i64 3] 3)) 30 (A := none) (c := 0) (a := []) (Kd.C_nil (Kd.int .i64) _) (Nat.le_refl _) (lit_C' (k := .i64) w8 (w8.heap.size) (by simp) 3 [3] _ rfl (by decide)) (Nat.le_refl _)
    simpa using this
  rintro e w_ ⟨rfl, ⟨n8, rfl⟩⟩
  obtain ⟨w9, e9⟩ : ∃ w9, w9 = World.drewN ((w8.alloc (.cells #[.int .i64 3] 3)).alloc (.cells #[.slice none 0 0, .slice (some ⟨w8.heap.size, 0, none⟩) 1 1] 30)) n8 := ⟨_, rfl⟩
  rw [← e9]
  replace HV := Aside0.mk (HV.out.on (W' := w9) (by rw [e9]; exact pw_below_drewN (below_alloc (below_alloc (Below.refl _ _) _) _) _))
  clear e9 HR8
  go_wp2_with fail
  refine (lv_merge HV.out lv2_good 0 2 9 1 (by decide +kernel) rfl).mono ?_
  rintro e w10 ⟨rfl, hv⟩
  replace HV := Aside0.mk (show Lv w w10 g lv3 from hv)
  clear hv
  go_wp2_with fail
  refine (lv_merge HV.out lv3_good 0 7 8 0 (by decide +kernel) rfl).mono ?_
  rintro e w11 ⟨rfl, hv⟩
  replace HV := Aside0.mk (show Lv w w11 g lv4 from hv)
  clear hv
  go_wp2_with fail
  refine (revset_Set_Has.all g lv4 lv4_good 2 9 w11 _ HV.out.P).mono ?_
  rintro e w12 ⟨rfl, hB⟩
  rw [show hasS lv4 2 9 = true by decide +kernel]
  replace HV := Aside0.mk (HV.out.on hB)
  clear hB
  go_wp2_with fail
  refine (lv_add HV.out lv4_good 2 9 14 (by decide +kernel) rfl).mono ?_
  rintro e w13 ⟨rfl, hv⟩
  have HB := Aside0.mk hv.2
  clear hv HV
  go_wp2_with fail
  go_ret
  exact ⟨rfl, HB.out⟩
end Go.Proofs.Ytadkafhhkidecaa.P
