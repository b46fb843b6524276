/- The document's example of leases: what the law's lives answers. Typed by hand and by a program (gen_l13.py). -/
import Derived.Test.YtpdcmdofojckdaaDoorHLaw13
set_option linter.unusedVariables false
set_option linter.unusedSimpArgs false
namespace Go.Proofs.YtpdcmdofojckdaaDoor.P
open Go.RowKit Go.Proofs.YtpdcmdofojckdaaDoor.Pure Go.Proofs.YtpdcmdofojckdaaDoorW.PrintWords Go.Proofs.YtpdcmdofojckdaaDoorW.PrintLast Go.Proofs.YtpdcmdofojckdaaDoorW.PrintMore
def cA : CS := ⟨⟨2, 1⟩, ⟨#[97]⟩, 1, ⟨#[97, 110, 110]⟩, ⟨⟨#[]⟩, ⟨#[]⟩⟩, ⟨⟨#[]⟩, ⟨#[]⟩⟩⟩
def bA : Bk := learnB (bk0 1) 2 [cA] 10
theorem ex1 : learnE (bk0 1) 2 [cA] 10 = 0 := by decide +kernel
theorem ex2 : heldL bA 65 = [⟨cA, 66⟩] := by kernel_rfl
theorem ex3 : untilR bA [⟨1, 9⟩, ⟨2, 1⟩] 20 = (66, 0) := by kernel_rfl
theorem ex4 : learnE bA 2 [] 9 = 1 := by decide +kernel
theorem ex5 : heldL bA 66 = [] := by kernel_rfl
theorem ex6 : freshB bA 2 57 = true := by decide +kernel
theorem ex7 : freshB bA 2 58 = false := by decide +kernel
theorem goodA : Good13 bA := (good0 (by decide)).learn 2 [cA] 10
def encI (x : SD) : List Value := [.int .i64 x.f0, .int .i64 x.f1]
theorem flatI : Flat k36 encI where
  len _ := rfl
  one x v hv := by
    simp only [encI, List.mem_cons, List.not_mem_nil, or_false] at hv
    rcases hv with rfl | rfl <;> rfl
  M {w base ok x cs} := ⟨fun h => k36_openM h, fun h => by rw [h]; exact k36_mkM w base ok x⟩
theorem lit_cred {W : World} {b : Nat} {x : CS} (h : W.heap[b]? = some (.cells (cellsC x).toArray 40 (0, 0))) : k40.C W (some ⟨b, 0, none⟩) 1 [x] := by
  have h1 : k40.R 40 W 0 (fun _ => True) (.slice (some ⟨b, 0, none⟩) ([x] : List CS).length 1) [x] := flat_R (cap := 1) flatC trivial (Nat.zero_le _) h (Nat.le_refl 1) (by decide) rfl (fun j y i u hy hu => by
    match j, hy with
    | 0, hy =>
      cases hy
      rw [show 0 * k40.sz + i = i by omega]
      have hu' : (cellsC x)[i]? = some u := hu
      simpa using hu')
  exact (Kd.R_reads' h1).2.2
theorem lit_ids {W : World} {b : Nat} {x y : SD} (h : W.heap[b]? = some (.cells #[.int .i64 x.f0, .int .i64 x.f1, .int .i64 y.f0, .int .i64 y.f1] 36 (0, 0))) : k36.C W (some ⟨b, 0, none⟩) 2 [x, y] := by
  have h1 : k36.R 36 W 0 (fun _ => True) (.slice (some ⟨b, 0, none⟩) ([x, y] : List SD).length 2) [x, y] := flat_R (cap := 2) flatI trivial (Nat.zero_le _) h (Nat.le_refl 2) (by decide) rfl (fun j z i u hz hu => by
    have hi : i < 2 := (List.getElem?_eq_some_iff.1 hu).1
    match j, hz with
    | 0, hz =>
      cases hz
      match i, hi, hu with
      | 0, _, hu => exact hu
      | 1, _, hu => exact hu
    | 1, hz =>
      cases hz
      match i, hi, hu with
      | 0, _, hu => exact hu
      | 1, _, hu => exact hu)
  exact (Kd.R_reads' h1).2.2
theorem row_at10 {w0 W : World} {S : Nat → Prop} {Rs : List Res} {ad : Addr} {n c : Nat} {L : List SH} {x : SH} (h : St w0 S W Rs) (i : Nat) (hi : Rs[i]? = some (Res.row k42 42 (.slice (some ad) n c) L)) (j : Nat) (hj : j < L.length) (hx : L.getD j default = x) : At10 W (ad.add (j * 10)) x := by
  obtain ⟨ok, hR⟩ := h.get i hi
  have hR' : k42.R 42 W 0 ok (.slice (some ad) n c) L := hR
  obtain ⟨ad', e, hy⟩ := at_held (Kd.R_reads' hR').2.2 j hj
  cases e
  rw [hx] at hy
  exact hy
theorem row_at0 {w0 W : World} {S : Nat → Prop} {Rs : List Res} {ad : Addr} {n c : Nat} {L : List SH} {x : SH} (h : St w0 S W Rs) (i : Nat) (hi : Rs[i]? = some (Res.row k42 42 (.slice (some ad) n c) L)) (hj : 0 < L.length) (hx : L.getD 0 default = x) : At10 W ad x := by
  have h1 := row_at10 h i hi 0 hj hx
  have h2 : ad.add (0 * 10) = ad := by unfold Addr.add; split <;> simp_all
  rwa [h2] at h1
set_option maxHeartbeats 16000000 in
set_option maxRecDepth 100000 in
theorem lives.calls (W : World) : Calls Tryd.prog 8 #[] W fun e W' => e = .returned (.bool true) ∧ Below W.heap.size W W' := by
  have HST0 := Aside0.mk (show St W (fun _ => False) W [Res.any] from (law_stQ (w := W) (Q := fun _ => True) (fun _ _ => trivial)).elim fun Fo h => h.2.less fun i R' hi => by
    match i, hi with
    | 0, hi => cases hi; exact ⟨_, rfl, fun _ _ => trivial⟩)
  have hu1 := Tryd.underlying40
  have hu2 := Tryd.underlying36
  have hu3 := Tryd.underlying42
  go_enter Tryd.func8, Tryd.ntmps8
  go_wp2_with fail
  refine (newP_at HST0.out 1 (by decide)).mono ?_
  rintro e w1 ⟨g, rfl, h1⟩
  have HST1 := Aside0.mk (show St W (fun _ => False) w1 [Res.any, PBook g (bk0 1)] from h1)
  clear h1 HST0
  go_wp2_with fail
  obtain ⟨bc, ebc⟩ : ∃ bc, bc = w1.heap.size := ⟨_, rfl⟩
  obtain ⟨w2, e2⟩ : ∃ w2, w2 = (w1.alloc (.cells (cellsC cA).toArray 40)).alloc (.cells (cellsC cA).toArray 40) := ⟨_, rfl⟩
  have hs : (w1.alloc (.cells (cellsC cA).toArray 40)).heap.size = bc + 1 := by rw [ebc]; simp
  have h2 := blk_add HST1.out (.cells (cellsC cA).toArray 40)
  have h3 := blk_add h2 (.cells (cellsC cA).toArray 40)
  rw [hs, ← e2, ← ebc] at h3
  have h4 : St W (fun _ => False) w2 [Res.any, PBook g (bk0 1), Res.blk bc (.cells (cellsC cA).toArray 40 (0, 0)), Res.blk (bc + 1) (.cells (cellsC cA).toArray 40 (0, 0))] := h3
  have HL := Aside0.mk (learnP_at h4 1 rfl (by decide) (good0 (by decide)) 2 (l := [cA]) (n := 1) (c := 1) 10 rfl (lit_cred (blk_see h4 3 rfl)) (by decide))
  have e2' : (w1.alloc (.cells #[.int .i64 2, .int .i64 1, .string ⟨#[97]⟩, .int .i64 1, .string ⟨#[97, 110, 110]⟩, .string ⟨#[]⟩, .string ⟨#[]⟩, .string ⟨#[]⟩, .string ⟨#[]⟩] 40)).alloc (.cells #[.int .i64 2, .int .i64 1, .string ⟨#[97]⟩, .int .i64 1, .string ⟨#[97, 110, 110]⟩, .string ⟨#[]⟩, .string ⟨#[]⟩, .string ⟨#[]⟩, .string ⟨#[]⟩] 40) = w2 := e2.symm
  rw [e2', ← ebc]
  clear h2 h3 h4 hs e2 e2' HST1 ebc
  refine HL.out.mono ?_
  rintro e w3 ⟨rfl, h3⟩
  rw [ex1]
  have HST3 := Aside0.mk (show St W (fun _ => False) w3 [Res.any, PBook g bA, Res.blk bc (.cells (cellsC cA).toArray 40 (0, 0)), Res.blk (bc + 1) (.cells (cellsC cA).toArray 40 (0, 0))] from h3)
  clear h3 HL
  go_wp2_with fail
  refine (heldP_at HST3.out 1 rfl goodA 65).mono ?_
  rintro e w4 ⟨A, c, rfl, hc, hC, h4⟩
  rw [ex2] at hc hC h4 ⊢
  have HST4 := Aside0.mk h4
  obtain ⟨ad, rfl, hx⟩ := at_held hC 0 (by decide)
  have hc1 : (1 : Int) ≤ (c : Int) := by have : ([⟨cA, 66⟩] : List SH).length ≤ c := hc; simp at this; omega
  clear h4 hC hx hc HST3
  go_wp2_with fail
  obtain ⟨w5, e5⟩ : ∃ w5, w5 = w4.alloc (.cells #[.int .i64 1, .int .i64 9, .int .i64 2, .int .i64 1] 36) := ⟨_, rfl⟩
  obtain ⟨bi, ebi⟩ : ∃ bi, bi = w4.heap.size := ⟨_, rfl⟩
  have h5 := blk_add HST4.out (.cells #[.int .i64 1, .int .i64 9, .int .i64 2, .int .i64 1] 36)
  rw [← e5, ← ebi] at h5
  have HU := Aside0.mk (untilP_at h5 1 rfl goodA (ids := [⟨1, 9⟩, ⟨2, 1⟩]) (c := 2) 20 (lit_ids (x := ⟨1, 9⟩) (y := ⟨2, 1⟩) (blk_see h5 5 rfl)) (Nat.le_refl 2) (by decide))
  rw [ex3] at HU
  rw [← e5, ← ebi]
  clear h5 e5 ebi HST4
  refine HU.out.mono ?_
  rintro e w6 ⟨rfl, h6⟩
  have HST6 := Aside0.mk (show St W (fun _ => False) w6 [Res.any, PBook g bA, Res.blk bc (.cells (cellsC cA).toArray 40 (0, 0)), Res.blk (bc + 1) (.cells (cellsC cA).toArray 40 (0, 0)), Res.row k42 42 (.slice (some ad) ([⟨cA, 66⟩] : List SH).length c) [⟨cA, 66⟩], Res.blk bi (.cells #[.int .i64 1, .int .i64 9, .int .i64 2, .int .i64 1] 36 (0, 0))] from h6)
  clear h6 HU
  go_wp2_with fail
  refine (learnP_at HST6.out 1 rfl (by decide) goodA 2 (A := none) (l := []) (n := 0) (c := 0) 9 rfl (Kd.C_nil _ _) (by decide)).mono ?_
  rintro e w7 ⟨rfl, h7⟩
  rw [ex4]
  rw [learnB_ne (by rw [ex4]; decide)] at h7
  have HST7 := Aside0.mk (show St W (fun _ => False) w7 [Res.any, PBook g bA, Res.blk bc (.cells (cellsC cA).toArray 40 (0, 0)), Res.blk (bc + 1) (.cells (cellsC cA).toArray 40 (0, 0)), Res.row k42 42 (.slice (some ad) ([⟨cA, 66⟩] : List SH).length c) [⟨cA, 66⟩], Res.blk bi (.cells #[.int .i64 1, .int .i64 9, .int .i64 2, .int .i64 1] 36 (0, 0))] from h7)
  clear h7 HST6
  have HN := Aside0.mk (fun W Rs (h : St W (fun _ => False) W Rs) => newP_no h 0 (by decide))
  go_wp2_with fail
  obtain ⟨w7a, e7⟩ : ∃ x, x = w7 := ⟨_, rfl⟩
  rw [← e7] at HST7 ⊢
  clear e7
  obtain ⟨w8, e_w8⟩ : ∃ w_, w_ = World.drew w7a := ⟨_, rfl⟩
  have HBw8 := Aside0.mk (show Below (World.heap w7a).size w7a w8 by rw [e_w8]; exact below_drew (Below.refl _ _))
  have HST8 := Aside0.mk (HST7.out.on HBw8.out)
  refine start_ (n := 54) (S := fun w' => w'.cell? ad = some (.int .i64 2) ∧ w'.cell? ⟨ad.block, ad.off + 1, none⟩ = some (.int .i64 1) ∧ w'.cell? ⟨ad.block, ad.off + 2, none⟩ = some (.string ⟨#[97]⟩) ∧ w'.cell? ⟨ad.block, ad.off + 3, none⟩ = some (.int .i64 1) ∧ w'.cell? ⟨ad.block, ad.off + 4, none⟩ = some (.string ⟨#[97, 110, 110]⟩) ∧ w'.cell? ⟨ad.block, ad.off + 5, none⟩ = some (.string ⟨#[]⟩) ∧ w'.cell? ⟨ad.block, ad.off + 6, none⟩ = some (.string ⟨#[]⟩) ∧ w'.cell? ⟨ad.block, ad.off + 7, none⟩ = some (.string ⟨#[]⟩) ∧ w'.cell? ⟨ad.block, ad.off + 8, none⟩ = some (.string ⟨#[]⟩) ∧ w'.cell? ⟨ad.block, ad.off + 9, none⟩ = some (.int .i64 66) ∧ w'.cell? ⟨bc, 0, none⟩ = some (.int .i64 2) ∧ w'.cell? ⟨bc, 1, none⟩ = some (.int .i64 1) ∧ w'.cell? ⟨bc, 2, none⟩ = some (.string ⟨#[97]⟩) ∧ w'.cell? ⟨bc, 3, none⟩ = some (.int .i64 1) ∧ w'.cell? ⟨bc, 4, none⟩ = some (.string ⟨#[97, 110, 110]⟩) ∧ w'.cell? ⟨bc, 5, none⟩ = some (.string ⟨#[]⟩) ∧ w'.cell? ⟨bc, 6, none⟩ = some (.string ⟨#[]⟩) ∧ w'.cell? ⟨bc, 7, none⟩ = some (.string ⟨#[]⟩) ∧ w'.cell? ⟨bc, 8, none⟩ = some (.string ⟨#[]⟩)) (ds := []) #[false, false, false, false, false, false, false, false, false, false, false, false, false, false, false, false, false, false, false, false, false, false, false, false, false, false, false, false, false, false, false, false, false, false, false, false, false, false, false, false, false, false, false, false, false, false, false, false, false, false, false, false, false, false] (by kernel_rfl) rfl rfl ⟨(by rw [← e_w8]; exact (row_at0 (x := ⟨cA, 66⟩) HST8.out 4 rfl (by decide) rfl).1), (by rw [← e_w8]; exact (row_at0 (x := ⟨cA, 66⟩) HST8.out 4 rfl (by decide) rfl).2.1), (by rw [← e_w8]; exact (row_at0 (x := ⟨cA, 66⟩) HST8.out 4 rfl (by decide) rfl).2.2.1), (by rw [← e_w8]; exact (row_at0 (x := ⟨cA, 66⟩) HST8.out 4 rfl (by decide) rfl).2.2.2.1), (by rw [← e_w8]; exact (row_at0 (x := ⟨cA, 66⟩) HST8.out 4 rfl (by decide) rfl).2.2.2.2.1), (by rw [← e_w8]; exact (row_at0 (x := ⟨cA, 66⟩) HST8.out 4 rfl (by decide) rfl).2.2.2.2.2.1), (by rw [← e_w8]; exact (row_at0 (x := ⟨cA, 66⟩) HST8.out 4 rfl (by decide) rfl).2.2.2.2.2.2.1), (by rw [← e_w8]; exact (row_at0 (x := ⟨cA, 66⟩) HST8.out 4 rfl (by decide) rfl).2.2.2.2.2.2.2.1), (by rw [← e_w8]; exact (row_at0 (x := ⟨cA, 66⟩) HST8.out 4 rfl (by decide) rfl).2.2.2.2.2.2.2.2.1), (by rw [← e_w8]; exact (row_at0 (x := ⟨cA, 66⟩) HST8.out 4 rfl (by decide) rfl).2.2.2.2.2.2.2.2.2), (by rw [← e_w8]; exact (cell_blk (blk_see HST8.out 2 rfl) 0 rfl)), (by rw [← e_w8]; exact (cell_blk (blk_see HST8.out 2 rfl) 1 rfl)), (by rw [← e_w8]; exact (cell_blk (blk_see HST8.out 2 rfl) 2 rfl)), (by rw [← e_w8]; exact (cell_blk (blk_see HST8.out 2 rfl) 3 rfl)), (by rw [← e_w8]; exact (cell_blk (blk_see HST8.out 2 rfl) 4 rfl)), (by rw [← e_w8]; exact (cell_blk (blk_see HST8.out 2 rfl) 5 rfl)), (by rw [← e_w8]; exact (cell_blk (blk_see HST8.out 2 rfl) 6 rfl)), (by rw [← e_w8]; exact (cell_blk (blk_see HST8.out 2 rfl) 7 rfl)), (by rw [← e_w8]; exact (cell_blk (blk_see HST8.out 2 rfl) 8 rfl))⟩ (fun hHeld => ?_)
  rw [← e_w8] at hHeld ⊢
  clear e_w8
  refine pure_ (i := 0) (N := some 29) (v := ?_) (a' := ?_) #[true, false, false, false, false, false, false, false, false, false, false, false, false, false, false, false, false, false, false, false, false, false, false, false, false, false, false, false, false, false, false, false, false, false, false, false, false, false, false, false, false, false, false, false, false, false, false, false, false, false, false, false, false, false] rfl rfl (by kernel_rfl) (fun _ _ _ h => h) (Or.inl ⟨by rfl, ?_⟩) ?_ ?_
  rotate_left
  · intro w'
    go_simp
    with_reducible rfl
  rotate_left
  · simp only [Act.put, List.setIfInBounds_toArray, List.set_cons_zero, List.set_cons_succ, i64_w, i32_w]
    rfl
  refine pure_ (i := 1) (N := some 30) (v := ?_) (a' := ?_) #[true, true, false, false, false, false, false, false, false, false, false, false, false, false, false, false, false, false, false, false, false, false, false, false, false, false, false, false, false, false, false, false, false, false, false, false, false, false, false, false, false, false, false, false, false, false, false, false, false, false, false, false, false, false] rfl rfl (by kernel_rfl) (fun _ _ _ h => h) (Or.inl ⟨by rfl, ?_⟩) ?_ ?_
  rotate_left
  · intro w'
    go_simp
    with_reducible rfl
  rotate_left
  · simp only [Act.put, List.setIfInBounds_toArray, List.set_cons_zero, List.set_cons_succ, i64_w, i32_w]
    rfl
  refine pure_ (i := 2) (N := some 31) (v := ?_) (a' := ?_) #[true, true, true, false, false, false, false, false, false, false, false, false, false, false, false, false, false, false, false, false, false, false, false, false, false, false, false, false, false, false, false, false, false, false, false, false, false, false, false, false, false, false, false, false, false, false, false, false, false, false, false, false, false, false] rfl rfl (by kernel_rfl) (fun _ _ _ h => h) (Or.inl ⟨by rfl, ?_⟩) ?_ ?_
  rotate_left
  · intro w'
    go_simp
    with_reducible rfl
  rotate_left
  · simp only [Act.put, List.setIfInBounds_toArray, List.set_cons_zero, List.set_cons_succ, i64_w, i32_w]
    rfl
  refine pure_ (i := 3) (N := some 32) (v := ?_) (a' := ?_) #[true, true, true, true, false, false, false, false, false, false, false, false, false, false, false, false, false, false, false, false, false, false, false, false, false, false, false, false, false, false, false, false, false, false, false, false, false, false, false, false, false, false, false, false, false, false, false, false, false, false, false, false, false, false] rfl rfl (by kernel_rfl) (fun _ _ _ h => h) (Or.inl ⟨by rfl, ?_⟩) ?_ ?_
  rotate_left
  · intro w'
    go_simp
    with_reducible rfl
  rotate_left
  · simp only [Act.put, List.setIfInBounds_toArray, List.set_cons_zero, List.set_cons_succ, i64_w, i32_w]
    rfl
  refine pure_ (i := 4) (N := some 33) (v := ?_) (a' := ?_) #[true, true, true, true, true, false, false, false, false, false, false, false, false, false, false, false, false, false, false, false, false, false, false, false, false, false, false, false, false, false, false, false, false, false, false, false, false, false, false, false, false, false, false, false, false, false, false, false, false, false, false, false, false, false] rfl rfl (by kernel_rfl) (fun _ _ _ h => h) (Or.inl ⟨by rfl, ?_⟩) ?_ ?_
  rotate_left
  · intro w'
    go_simp
    with_reducible rfl
  rotate_left
  · simp only [Act.put, List.setIfInBounds_toArray, List.set_cons_zero, List.set_cons_succ, i64_w, i32_w]
    rfl
  refine pure_ (i := 5) (N := some 34) (v := ?_) (a' := ?_) #[true, true, true, true, true, true, false, false, false, false, false, false, false, false, false, false, false, false, false, false, false, false, false, false, false, false, false, false, false, false, false, false, false, false, false, false, false, false, false, false, false, false, false, false, false, false, false, false, false, false, false, false, false, false] rfl rfl (by kernel_rfl) (fun _ _ _ h => h) (Or.inl ⟨by rfl, ?_⟩) ?_ ?_
  rotate_left
  · intro w'
    go_simp
    with_reducible rfl
  rotate_left
  · simp only [Act.put, List.setIfInBounds_toArray, List.set_cons_zero, List.set_cons_succ, i64_w, i32_w]
    rfl
  refine pure_ (i := 6) (N := some 35) (v := ?_) (a' := ?_) #[true, true, true, true, true, true, true, false, false, false, false, false, false, false, false, false, false, false, false, false, false, false, false, false, false, false, false, false, false, false, false, false, false, false, false, false, false, false, false, false, false, false, false, false, false, false, false, false, false, false, false, false, false, false] rfl rfl (by kernel_rfl) (fun _ _ _ h => h) (Or.inl ⟨by rfl, ?_⟩) ?_ ?_
  rotate_left
  · intro w'
    go_simp
    with_reducible rfl
  rotate_left
  · simp only [Act.put, List.setIfInBounds_toArray, List.set_cons_zero, List.set_cons_succ, i64_w, i32_w]
    rfl
  refine pure_ (i := 7) (N := some 36) (v := ?_) (a' := ?_) #[true, true, true, true, true, true, true, true, false, false, false, false, false, false, false, false, false, false, false, false, false, false, false, false, false, false, false, false, false, false, false, false, false, false, false, false, false, false, false, false, false, false, false, false, false, false, false, false, false, false, false, false, false, false] rfl rfl (by kernel_rfl) (fun _ _ _ h => h) (Or.inl ⟨by rfl, ?_⟩) ?_ ?_
  rotate_left
  · intro w'
    go_simp
    with_reducible rfl
  rotate_left
  · simp only [Act.put, List.setIfInBounds_toArray, List.set_cons_zero, List.set_cons_succ, i64_w, i32_w]
    rfl
  refine pure_ (i := 8) (N := some 37) (v := ?_) (a' := ?_) #[true, true, true, true, true, true, true, true, true, false, false, false, false, false, false, false, false, false, false, false, false, false, false, false, false, false, false, false, false, false, false, false, false, false, false, false, false, false, false, false, false, false, false, false, false, false, false, false, false, false, false, false, false, false] rfl rfl (by kernel_rfl) (fun _ _ _ h => h) (Or.inl ⟨by rfl, ?_⟩) ?_ ?_
  rotate_left
  · intro w'
    go_simp
    with_reducible rfl
  rotate_left
  · simp only [Act.put, List.setIfInBounds_toArray, List.set_cons_zero, List.set_cons_succ, i64_w, i32_w]
    rfl
  refine pure_ (i := 9) (N := some 38) (v := ?_) (a' := ?_) #[true, true, true, true, true, true, true, true, true, true, false, false, false, false, false, false, false, false, false, false, false, false, false, false, false, false, false, false, false, false, false, false, false, false, false, false, false, false, false, false, false, false, false, false, false, false, false, false, false, false, false, false, false, false] rfl rfl (by kernel_rfl) (fun _ _ _ h => h) (Or.inl ⟨by rfl, ?_⟩) ?_ ?_
  rotate_left
  · intro w'
    go_simp
    with_reducible rfl
  rotate_left
  · simp only [Act.put, List.setIfInBounds_toArray, List.set_cons_zero, List.set_cons_succ, i64_w, i32_w]
    rfl
  refine pure_ (i := 10) (N := some 39) (v := ?_) (a' := ?_) #[true, true, true, true, true, true, true, true, true, true, true, false, false, false, false, false, false, false, false, false, false, false, false, false, false, false, false, false, false, false, false, false, false, false, false, false, false, false, false, false, false, false, false, false, false, false, false, false, false, false, false, false, false, false] rfl rfl (by kernel_rfl) (fun _ _ _ h => h) (Or.inl ⟨by rfl, ?_⟩) ?_ ?_
  rotate_left
  · intro w'
    go_simp
    with_reducible rfl
  rotate_left
  · simp only [Act.put, List.setIfInBounds_toArray, List.set_cons_zero, List.set_cons_succ, i64_w, i32_w]
    rfl
  refine take_ (i := 11) (N := some 40) (v := ?_) (a' := ?_) #[true, true, true, true, true, true, true, true, true, true, true, true, false, false, false, false, false, false, false, false, false, false, false, false, false, false, false, false, false, false, false, false, false, false, false, false, false, false, false, false, false, false, false, false, false, false, false, false, false, false, false, false, false, false] rfl rfl (by kernel_rfl) (fun _ _ _ h => h) (Or.inl ⟨by rfl, ?_⟩) hHeld ?_ ?_
  rotate_left
  · rintro w' ⟨s0, s1, s2, s3, s4, s5, s6, s7, s8, s9, s10, s11, s12, s13, s14, s15, s16, s17, s18⟩
    go_simp
    with_reducible rfl
  rotate_left
  · simp only [Act.put, List.setIfInBounds_toArray, List.set_cons_zero, List.set_cons_succ, i64_w, i32_w]
    rfl
  refine take_ (i := 12) (N := some 41) (v := ?_) (a' := ?_) #[true, true, true, true, true, true, true, true, true, true, true, true, true, false, false, false, false, false, false, false, false, false, false, false, false, false, false, false, false, false, false, false, false, false, false, false, false, false, false, false, false, false, false, false, false, false, false, false, false, false, false, false, false, false] rfl rfl (by kernel_rfl) (fun _ _ _ h => h) (Or.inl ⟨by rfl, ?_⟩) hHeld ?_ ?_
  rotate_left
  · rintro w' ⟨s0, s1, s2, s3, s4, s5, s6, s7, s8, s9, s10, s11, s12, s13, s14, s15, s16, s17, s18⟩
    go_simp
    with_reducible rfl
  rotate_left
  · simp only [Act.put, List.setIfInBounds_toArray, List.set_cons_zero, List.set_cons_succ, i64_w, i32_w]
    rfl
  refine pure_ (i := 13) (N := some 42) (v := ?_) (a' := ?_) #[true, true, true, true, true, true, true, true, true, true, true, true, true, true, false, false, false, false, false, false, false, false, false, false, false, false, false, false, false, false, false, false, false, false, false, false, false, false, false, false, false, false, false, false, false, false, false, false, false, false, false, false, false, false] rfl rfl (by kernel_rfl) (fun _ _ _ h => h) (Or.inl ⟨by rfl, ?_⟩) ?_ ?_
  rotate_left
  · intro w'
    go_simp
    with_reducible rfl
  rotate_left
  · simp only [Act.put, List.setIfInBounds_toArray, List.set_cons_zero, List.set_cons_succ, i64_w, i32_w]
    rfl
  refine pure_ (i := 14) (N := some 43) (v := ?_) (a' := ?_) #[true, true, true, true, true, true, true, true, true, true, true, true, true, true, true, false, false, false, false, false, false, false, false, false, false, false, false, false, false, false, false, false, false, false, false, false, false, false, false, false, false, false, false, false, false, false, false, false, false, false, false, false, false, false] rfl rfl (by kernel_rfl) (fun _ _ _ h => h) (Or.inl ⟨by rfl, ?_⟩) ?_ ?_
  rotate_left
  · intro w'
    go_simp
    with_reducible rfl
  rotate_left
  · simp only [Act.put, List.setIfInBounds_toArray, List.set_cons_zero, List.set_cons_succ, i64_w, i32_w]
    rfl
  refine pure_ (i := 15) (N := some 44) (v := ?_) (a' := ?_) #[true, true, true, true, true, true, true, true, true, true, true, true, true, true, true, true, false, false, false, false, false, false, false, false, false, false, false, false, false, false, false, false, false, false, false, false, false, false, false, false, false, false, false, false, false, false, false, false, false, false, false, false, false, false] rfl rfl (by kernel_rfl) (fun _ _ _ h => h) (Or.inl ⟨by rfl, ?_⟩) ?_ ?_
  rotate_left
  · intro w'
    go_simp
    with_reducible rfl
  rotate_left
  · simp only [Act.put, List.setIfInBounds_toArray, List.set_cons_zero, List.set_cons_succ, i64_w, i32_w]
    rfl
  refine pure_ (i := 16) (N := some 45) (v := ?_) (a' := ?_) #[true, true, true, true, true, true, true, true, true, true, true, true, true, true, true, true, true, false, false, false, false, false, false, false, false, false, false, false, false, false, false, false, false, false, false, false, false, false, false, false, false, false, false, false, false, false, false, false, false, false, false, false, false, false] rfl rfl (by kernel_rfl) (fun _ _ _ h => h) (Or.inl ⟨by rfl, ?_⟩) ?_ ?_
  rotate_left
  · intro w'
    go_simp
    with_reducible rfl
  rotate_left
  · simp only [Act.put, List.setIfInBounds_toArray, List.set_cons_zero, List.set_cons_succ, i64_w, i32_w]
    rfl
  refine pure_ (i := 17) (N := some 46) (v := ?_) (a' := ?_) #[true, true, true, true, true, true, true, true, true, true, true, true, true, true, true, true, true, true, false, false, false, false, false, false, false, false, false, false, false, false, false, false, false, false, false, false, false, false, false, false, false, false, false, false, false, false, false, false, false, false, false, false, false, false] rfl rfl (by kernel_rfl) (fun _ _ _ h => h) (Or.inl ⟨by rfl, ?_⟩) ?_ ?_
  rotate_left
  · intro w'
    go_simp
    with_reducible rfl
  rotate_left
  · simp only [Act.put, List.setIfInBounds_toArray, List.set_cons_zero, List.set_cons_succ, i64_w, i32_w]
    rfl
  refine pure_ (i := 18) (N := some 47) (v := ?_) (a' := ?_) #[true, true, true, true, true, true, true, true, true, true, true, true, true, true, true, true, true, true, true, false, false, false, false, false, false, false, false, false, false, false, false, false, false, false, false, false, false, false, false, false, false, false, false, false, false, false, false, false, false, false, false, false, false, false] rfl rfl (by kernel_rfl) (fun _ _ _ h => h) (Or.inl ⟨by rfl, ?_⟩) ?_ ?_
  rotate_left
  · intro w'
    go_simp
    with_reducible rfl
  rotate_left
  · simp only [Act.put, List.setIfInBounds_toArray, List.set_cons_zero, List.set_cons_succ, i64_w, i32_w]
    rfl
  refine take_ (i := 19) (N := some 48) (v := ?_) (a' := ?_) #[true, true, true, true, true, true, true, true, true, true, true, true, true, true, true, true, true, true, true, true, false, false, false, false, false, false, false, false, false, false, false, false, false, false, false, false, false, false, false, false, false, false, false, false, false, false, false, false, false, false, false, false, false, false] rfl rfl (by kernel_rfl) (fun _ _ _ h => h) (Or.inl ⟨by rfl, ?_⟩) hHeld ?_ ?_
  rotate_left
  · rintro w' ⟨s0, s1, s2, s3, s4, s5, s6, s7, s8, s9, s10, s11, s12, s13, s14, s15, s16, s17, s18⟩
    go_simp
    with_reducible rfl
  rotate_left
  · simp only [Act.put, List.setIfInBounds_toArray, List.set_cons_zero, List.set_cons_succ, i64_w, i32_w]
    rfl
  refine pure_ (i := 20) (N := some 49) (v := ?_) (a' := ?_) #[true, true, true, true, true, true, true, true, true, true, true, true, true, true, true, true, true, true, true, true, true, false, false, false, false, false, false, false, false, false, false, false, false, false, false, false, false, false, false, false, false, false, false, false, false, false, false, false, false, false, false, false, false, false] rfl rfl (by kernel_rfl) (fun _ _ _ h => h) (Or.inl ⟨by rfl, ?_⟩) ?_ ?_
  rotate_left
  · intro w'
    go_simp
    with_reducible rfl
  rotate_left
  · simp only [Act.put, List.setIfInBounds_toArray, List.set_cons_zero, List.set_cons_succ, i64_w, i32_w]
    rfl
  refine pure_ (i := 21) (N := some 50) (v := ?_) (a' := ?_) #[true, true, true, true, true, true, true, true, true, true, true, true, true, true, true, true, true, true, true, true, true, true, false, false, false, false, false, false, false, false, false, false, false, false, false, false, false, false, false, false, false, false, false, false, false, false, false, false, false, false, false, false, false, false] rfl rfl (by kernel_rfl) (fun _ _ _ h => h) (Or.inl ⟨by rfl, ?_⟩) ?_ ?_
  rotate_left
  · intro w'
    go_simp
    with_reducible rfl
  rotate_left
  · simp only [Act.put, List.setIfInBounds_toArray, List.set_cons_zero, List.set_cons_succ, i64_w, i32_w]
    rfl
  refine pure_ (i := 22) (N := some 51) (v := ?_) (a' := ?_) #[true, true, true, true, true, true, true, true, true, true, true, true, true, true, true, true, true, true, true, true, true, true, true, false, false, false, false, false, false, false, false, false, false, false, false, false, false, false, false, false, false, false, false, false, false, false, false, false, false, false, false, false, false, false] rfl rfl (by kernel_rfl) (fun _ _ _ h => h) (Or.inl ⟨by rfl, ?_⟩) ?_ ?_
  rotate_left
  · intro w'
    go_simp
    with_reducible rfl
  rotate_left
  · simp only [Act.put, List.setIfInBounds_toArray, List.set_cons_zero, List.set_cons_succ, i64_w, i32_w]
    rfl
  refine pure_ (i := 23) (N := some 52) (v := ?_) (a' := ?_) #[true, true, true, true, true, true, true, true, true, true, true, true, true, true, true, true, true, true, true, true, true, true, true, true, false, false, false, false, false, false, false, false, false, false, false, false, false, false, false, false, false, false, false, false, false, false, false, false, false, false, false, false, false, false] rfl rfl (by kernel_rfl) (fun _ _ _ h => h) (Or.inl ⟨by rfl, ?_⟩) ?_ ?_
  rotate_left
  · intro w'
    go_simp
    with_reducible rfl
  rotate_left
  · simp only [Act.put, List.setIfInBounds_toArray, List.set_cons_zero, List.set_cons_succ, i64_w, i32_w]
    rfl
  refine one_ (i := 24) (N := some 53) #[true, true, true, true, true, true, true, true, true, true, true, true, true, true, true, true, true, true, true, true, true, true, true, true, true, false, false, false, false, false, false, false, false, false, false, false, false, false, false, false, false, false, false, false, false, false, false, false, false, false, false, false, false, false] rfl rfl (by kernel_rfl) (by decide) (fun K hK => ?_)
  refine goes_ Tryd.func11 (by kernel_rfl) rfl #[.pointer (some ⟨g, 0, none⟩), .int .i64 66] (by rfl) rfl rfl (by simp only [List.map_toArray, List.map_cons, List.map_nil]; rfl) ?_
  with_reducible refine (heldP_at HST8.out 1 rfl goodA 66).mono ?_
  rintro e w9 ⟨A9, c9, rfl, hc9, hC9, h9⟩
  rw [ex5] at h9 ⊢
  have HST9 := Aside0.mk h9
  clear h9 hC9 hc9
  refine ⟨_, rfl, ?_⟩
  refine hK.out _ _ ⟨(row_at0 (x := ⟨cA, 66⟩) HST9.out 4 rfl (by decide) rfl).1, (row_at0 (x := ⟨cA, 66⟩) HST9.out 4 rfl (by decide) rfl).2.1, (row_at0 (x := ⟨cA, 66⟩) HST9.out 4 rfl (by decide) rfl).2.2.1, (row_at0 (x := ⟨cA, 66⟩) HST9.out 4 rfl (by decide) rfl).2.2.2.1, (row_at0 (x := ⟨cA, 66⟩) HST9.out 4 rfl (by decide) rfl).2.2.2.2.1, (row_at0 (x := ⟨cA, 66⟩) HST9.out 4 rfl (by decide) rfl).2.2.2.2.2.1, (row_at0 (x := ⟨cA, 66⟩) HST9.out 4 rfl (by decide) rfl).2.2.2.2.2.2.1, (row_at0 (x := ⟨cA, 66⟩) HST9.out 4 rfl (by decide) rfl).2.2.2.2.2.2.2.1, (row_at0 (x := ⟨cA, 66⟩) HST9.out 4 rfl (by decide) rfl).2.2.2.2.2.2.2.2.1, (row_at0 (x := ⟨cA, 66⟩) HST9.out 4 rfl (by decide) rfl).2.2.2.2.2.2.2.2.2, (cell_blk (blk_see HST9.out 2 rfl) 0 rfl), (cell_blk (blk_see HST9.out 2 rfl) 1 rfl), (cell_blk (blk_see HST9.out 2 rfl) 2 rfl), (cell_blk (blk_see HST9.out 2 rfl) 3 rfl), (cell_blk (blk_see HST9.out 2 rfl) 4 rfl), (cell_blk (blk_see HST9.out 2 rfl) 5 rfl), (cell_blk (blk_see HST9.out 2 rfl) 6 rfl), (cell_blk (blk_see HST9.out 2 rfl) 7 rfl), (cell_blk (blk_see HST9.out 2 rfl) 8 rfl)⟩ (fun hHeld => ?_)
  clear hK K
  refine norm_ (a' := ?_) ?_ ?_
  rotate_left
  · show Act.put _ (some 53) _ = _
    simp only [Act.put, List.setIfInBounds_toArray, List.set_cons_zero, List.set_cons_succ, i64_w, i32_w]
    rfl
  refine pure_ (i := 25) (N := some 54) (v := ?_) (a' := ?_) #[true, true, true, true, true, true, true, true, true, true, true, true, true, true, true, true, true, true, true, true, true, true, true, true, true, true, false, false, false, false, false, false, false, false, false, false, false, false, false, false, false, false, false, false, false, false, false, false, false, false, false, false, false, false] rfl rfl (by kernel_rfl) (fun _ _ _ h => h) (Or.inl ⟨by rfl, ?_⟩) ?_ ?_
  rotate_left
  · intro w'
    go_simp
    with_reducible rfl
  rotate_left
  · simp only [Act.put, List.setIfInBounds_toArray, List.set_cons_zero, List.set_cons_succ, i64_w, i32_w]
    rfl
  refine pure_ (i := 26) (N := some 55) (v := ?_) (a' := ?_) #[true, true, true, true, true, true, true, true, true, true, true, true, true, true, true, true, true, true, true, true, true, true, true, true, true, true, true, false, false, false, false, false, false, false, false, false, false, false, false, false, false, false, false, false, false, false, false, false, false, false, false, false, false, false] rfl rfl (by kernel_rfl) (fun _ _ _ h => h) (Or.inl ⟨by rfl, ?_⟩) ?_ ?_
  rotate_left
  · intro w'
    go_simp
    with_reducible rfl
  rotate_left
  · simp only [Act.put, List.setIfInBounds_toArray, List.set_cons_zero, List.set_cons_succ, i64_w, i32_w]
    rfl
  refine pure_ (i := 27) (N := some 56) (v := ?_) (a' := ?_) #[true, true, true, true, true, true, true, true, true, true, true, true, true, true, true, true, true, true, true, true, true, true, true, true, true, true, true, true, false, false, false, false, false, false, false, false, false, false, false, false, false, false, false, false, false, false, false, false, false, false, false, false, false, false] rfl rfl (by kernel_rfl) (fun _ _ _ h => h) (Or.inl ⟨by rfl, ?_⟩) ?_ ?_
  rotate_left
  · intro w'
    go_simp
    with_reducible rfl
  rotate_left
  · simp only [Act.put, List.setIfInBounds_toArray, List.set_cons_zero, List.set_cons_succ, i64_w, i32_w]
    rfl
  refine pure_ (i := 28) (N := some 57) (v := ?_) (a' := ?_) #[true, true, true, true, true, true, true, true, true, true, true, true, true, true, true, true, true, true, true, true, true, true, true, true, true, true, true, true, true, false, false, false, false, false, false, false, false, false, false, false, false, false, false, false, false, false, false, false, false, false, false, false, false, false] rfl rfl (by kernel_rfl) (fun _ _ _ h => h) (Or.inl ⟨by rfl, ?_⟩) ?_ ?_
  rotate_left
  · intro w'
    go_simp
    with_reducible rfl
  rotate_left
  · simp only [Act.put, List.setIfInBounds_toArray, List.set_cons_zero, List.set_cons_succ, i64_w, i32_w]
    rfl
  refine pure_ (i := 29) (N := some 58) (v := ?_) (a' := ?_) #[true, true, true, true, true, true, true, true, true, true, true, true, true, true, true, true, true, true, true, true, true, true, true, true, true, true, true, true, true, true, false, false, false, false, false, false, false, false, false, false, false, false, false, false, false, false, false, false, false, false, false, false, false, false] rfl rfl (by kernel_rfl) (fun _ _ _ h => h) (Or.inl ⟨by rfl, ?_⟩) ?_ ?_
  rotate_left
  · intro w'
    go_simp
    with_reducible rfl
  rotate_left
  · simp only [Act.put, List.setIfInBounds_toArray, List.set_cons_zero, List.set_cons_succ, i64_w, i32_w]
    rfl
  refine one_ (i := 30) (N := some 59) #[true, true, true, true, true, true, true, true, true, true, true, true, true, true, true, true, true, true, true, true, true, true, true, true, true, true, true, true, true, true, true, false, false, false, false, false, false, false, false, false, false, false, false, false, false, false, false, false, false, false, false, false, false, false] rfl rfl (by kernel_rfl) (by decide) (fun K hK => ?_)
  refine goes_ Tryd.func13 (by kernel_rfl) rfl #[.pointer (some ⟨g, 0, none⟩), .int .i64 2, .int .i64 57] (by rfl) rfl rfl (by simp only [List.map_toArray, List.map_cons, List.map_nil]; rfl) ?_
  with_reducible refine (freshP_at HST9.out 1 rfl goodA 2 57).mono ?_
  rintro e w10 ⟨rfl, h10⟩
  rw [ex6]
  have HST10 := Aside0.mk h10
  clear h10
  refine ⟨_, rfl, ?_⟩
  refine hK.out _ _ ⟨(row_at0 (x := ⟨cA, 66⟩) HST10.out 4 rfl (by decide) rfl).1, (row_at0 (x := ⟨cA, 66⟩) HST10.out 4 rfl (by decide) rfl).2.1, (row_at0 (x := ⟨cA, 66⟩) HST10.out 4 rfl (by decide) rfl).2.2.1, (row_at0 (x := ⟨cA, 66⟩) HST10.out 4 rfl (by decide) rfl).2.2.2.1, (row_at0 (x := ⟨cA, 66⟩) HST10.out 4 rfl (by decide) rfl).2.2.2.2.1, (row_at0 (x := ⟨cA, 66⟩) HST10.out 4 rfl (by decide) rfl).2.2.2.2.2.1, (row_at0 (x := ⟨cA, 66⟩) HST10.out 4 rfl (by decide) rfl).2.2.2.2.2.2.1, (row_at0 (x := ⟨cA, 66⟩) HST10.out 4 rfl (by decide) rfl).2.2.2.2.2.2.2.1, (row_at0 (x := ⟨cA, 66⟩) HST10.out 4 rfl (by decide) rfl).2.2.2.2.2.2.2.2.1, (row_at0 (x := ⟨cA, 66⟩) HST10.out 4 rfl (by decide) rfl).2.2.2.2.2.2.2.2.2, (cell_blk (blk_see HST10.out 2 rfl) 0 rfl), (cell_blk (blk_see HST10.out 2 rfl) 1 rfl), (cell_blk (blk_see HST10.out 2 rfl) 2 rfl), (cell_blk (blk_see HST10.out 2 rfl) 3 rfl), (cell_blk (blk_see HST10.out 2 rfl) 4 rfl), (cell_blk (blk_see HST10.out 2 rfl) 5 rfl), (cell_blk (blk_see HST10.out 2 rfl) 6 rfl), (cell_blk (blk_see HST10.out 2 rfl) 7 rfl), (cell_blk (blk_see HST10.out 2 rfl) 8 rfl)⟩ (fun hHeld => ?_)
  clear hK K
  refine norm_ (a' := ?_) ?_ ?_
  rotate_left
  · show Act.put _ (some 59) _ = _
    simp only [Act.put, List.setIfInBounds_toArray, List.set_cons_zero, List.set_cons_succ, i64_w, i32_w]
    rfl
  refine pure_ (i := 31) (N := some 60) (v := ?_) (a' := ?_) #[true, true, true, true, true, true, true, true, true, true, true, true, true, true, true, true, true, true, true, true, true, true, true, true, true, true, true, true, true, true, true, true, false, false, false, false, false, false, false, false, false, false, false, false, false, false, false, false, false, false, false, false, false, false] rfl rfl (by kernel_rfl) (fun _ _ _ h => h) (Or.inl ⟨by rfl, ?_⟩) ?_ ?_
  rotate_left
  · intro w'
    go_simp
    with_reducible rfl
  rotate_left
  · simp only [Act.put, List.setIfInBounds_toArray, List.set_cons_zero, List.set_cons_succ, i64_w, i32_w]
    rfl
  refine pure_ (i := 32) (N := some 61) (v := ?_) (a' := ?_) #[true, true, true, true, true, true, true, true, true, true, true, true, true, true, true, true, true, true, true, true, true, true, true, true, true, true, true, true, true, true, true, true, true, false, false, false, false, false, false, false, false, false, false, false, false, false, false, false, false, false, false, false, false, false] rfl rfl (by kernel_rfl) (fun _ _ _ h => h) (Or.inl ⟨by rfl, ?_⟩) ?_ ?_
  rotate_left
  · intro w'
    go_simp
    with_reducible rfl
  rotate_left
  · simp only [Act.put, List.setIfInBounds_toArray, List.set_cons_zero, List.set_cons_succ, i64_w, i32_w]
    rfl
  refine pure_ (i := 33) (N := some 62) (v := ?_) (a' := ?_) #[true, true, true, true, true, true, true, true, true, true, true, true, true, true, true, true, true, true, true, true, true, true, true, true, true, true, true, true, true, true, true, true, true, true, false, false, false, false, false, false, false, false, false, false, false, false, false, false, false, false, false, false, false, false] rfl rfl (by kernel_rfl) (fun _ _ _ h => h) (Or.inl ⟨by rfl, ?_⟩) ?_ ?_
  rotate_left
  · intro w'
    go_simp
    with_reducible rfl
  rotate_left
  · simp only [Act.put, List.setIfInBounds_toArray, List.set_cons_zero, List.set_cons_succ, i64_w, i32_w]
    rfl
  refine one_ (i := 34) (N := some 63) #[true, true, true, true, true, true, true, true, true, true, true, true, true, true, true, true, true, true, true, true, true, true, true, true, true, true, true, true, true, true, true, true, true, true, true, false, false, false, false, false, false, false, false, false, false, false, false, false, false, false, false, false, false, false] rfl rfl (by kernel_rfl) (by decide) (fun K hK => ?_)
  refine goes_ Tryd.func13 (by kernel_rfl) rfl #[.pointer (some ⟨g, 0, none⟩), .int .i64 2, .int .i64 58] (by rfl) rfl rfl (by simp only [List.map_toArray, List.map_cons, List.map_nil]; rfl) ?_
  with_reducible refine (freshP_at HST10.out 1 rfl goodA 2 58).mono ?_
  rintro e w11 ⟨rfl, h11⟩
  rw [ex7]
  have HST11 := Aside0.mk h11
  clear h11
  refine ⟨_, rfl, ?_⟩
  refine hK.out _ _ ⟨(row_at0 (x := ⟨cA, 66⟩) HST11.out 4 rfl (by decide) rfl).1, (row_at0 (x := ⟨cA, 66⟩) HST11.out 4 rfl (by decide) rfl).2.1, (row_at0 (x := ⟨cA, 66⟩) HST11.out 4 rfl (by decide) rfl).2.2.1, (row_at0 (x := ⟨cA, 66⟩) HST11.out 4 rfl (by decide) rfl).2.2.2.1, (row_at0 (x := ⟨cA, 66⟩) HST11.out 4 rfl (by decide) rfl).2.2.2.2.1, (row_at0 (x := ⟨cA, 66⟩) HST11.out 4 rfl (by decide) rfl).2.2.2.2.2.1, (row_at0 (x := ⟨cA, 66⟩) HST11.out 4 rfl (by decide) rfl).2.2.2.2.2.2.1, (row_at0 (x := ⟨cA, 66⟩) HST11.out 4 rfl (by decide) rfl).2.2.2.2.2.2.2.1, (row_at0 (x := ⟨cA, 66⟩) HST11.out 4 rfl (by decide) rfl).2.2.2.2.2.2.2.2.1, (row_at0 (x := ⟨cA, 66⟩) HST11.out 4 rfl (by decide) rfl).2.2.2.2.2.2.2.2.2, (cell_blk (blk_see HST11.out 2 rfl) 0 rfl), (cell_blk (blk_see HST11.out 2 rfl) 1 rfl), (cell_blk (blk_see HST11.out 2 rfl) 2 rfl), (cell_blk (blk_see HST11.out 2 rfl) 3 rfl), (cell_blk (blk_see HST11.out 2 rfl) 4 rfl), (cell_blk (blk_see HST11.out 2 rfl) 5 rfl), (cell_blk (blk_see HST11.out 2 rfl) 6 rfl), (cell_blk (blk_see HST11.out 2 rfl) 7 rfl), (cell_blk (blk_see HST11.out 2 rfl) 8 rfl)⟩ (fun hHeld => ?_)
  clear hK K
  refine norm_ (a' := ?_) ?_ ?_
  rotate_left
  · show Act.put _ (some 63) _ = _
    simp only [Act.put, List.setIfInBounds_toArray, List.set_cons_zero, List.set_cons_succ, i64_w, i32_w]
    rfl
  refine pure_ (i := 35) (N := some 64) (v := ?_) (a' := ?_) #[true, true, true, true, true, true, true, true, true, true, true, true, true, true, true, true, true, true, true, true, true, true, true, true, true, true, true, true, true, true, true, true, true, true, true, true, false, false, false, false, false, false, false, false, false, false, false, false, false, false, false, false, false, false] rfl rfl (by kernel_rfl) (fun _ _ _ h => h) (Or.inl ⟨by rfl, ?_⟩) ?_ ?_
  rotate_left
  · intro w'
    go_simp
    with_reducible rfl
  rotate_left
  · simp only [Act.put, List.setIfInBounds_toArray, List.set_cons_zero, List.set_cons_succ, i64_w, i32_w]
    rfl
  refine pure_ (i := 36) (N := some 65) (v := ?_) (a' := ?_) #[true, true, true, true, true, true, true, true, true, true, true, true, true, true, true, true, true, true, true, true, true, true, true, true, true, true, true, true, true, true, true, true, true, true, true, true, true, false, false, false, false, false, false, false, false, false, false, false, false, false, false, false, false, false] rfl rfl (by kernel_rfl) (fun _ _ _ h => h) (Or.inl ⟨by rfl, ?_⟩) ?_ ?_
  rotate_left
  · intro w'
    go_simp
    with_reducible rfl
  rotate_left
  · simp only [Act.put, List.setIfInBounds_toArray, List.set_cons_zero, List.set_cons_succ, i64_w, i32_w]
    rfl
  refine pure_ (i := 37) (N := some 66) (v := ?_) (a' := ?_) #[true, true, true, true, true, true, true, true, true, true, true, true, true, true, true, true, true, true, true, true, true, true, true, true, true, true, true, true, true, true, true, true, true, true, true, true, true, true, false, false, false, false, false, false, false, false, false, false, false, false, false, false, false, false] rfl rfl (by kernel_rfl) (fun _ _ _ h => h) (Or.inl ⟨by rfl, ?_⟩) ?_ ?_
  rotate_left
  · intro w'
    go_simp
    with_reducible rfl
  rotate_left
  · simp only [Act.put, List.setIfInBounds_toArray, List.set_cons_zero, List.set_cons_succ, i64_w, i32_w]
    rfl
  refine pure_ (i := 38) (N := some 67) (v := ?_) (a' := ?_) #[true, true, true, true, true, true, true, true, true, true, true, true, true, true, true, true, true, true, true, true, true, true, true, true, true, true, true, true, true, true, true, true, true, true, true, true, true, true, true, false, false, false, false, false, false, false, false, false, false, false, false, false, false, false] rfl rfl (by kernel_rfl) (fun _ _ _ h => h) (Or.inl ⟨by rfl, ?_⟩) ?_ ?_
  rotate_left
  · intro w'
    go_simp
    with_reducible rfl
  rotate_left
  · simp only [Act.put, List.setIfInBounds_toArray, List.set_cons_zero, List.set_cons_succ, i64_w, i32_w]
    rfl
  refine pure_ (i := 39) (N := some 68) (v := ?_) (a' := ?_) #[true, true, true, true, true, true, true, true, true, true, true, true, true, true, true, true, true, true, true, true, true, true, true, true, true, true, true, true, true, true, true, true, true, true, true, true, true, true, true, true, false, false, false, false, false, false, false, false, false, false, false, false, false, false] rfl rfl (by kernel_rfl) (fun _ _ _ h => h) (Or.inl ⟨by rfl, ?_⟩) ?_ ?_
  rotate_left
  · intro w'
    go_simp
    with_reducible rfl
  rotate_left
  · simp only [Act.put, List.setIfInBounds_toArray, List.set_cons_zero, List.set_cons_succ, i64_w, i32_w]
    rfl
  refine pure_ (i := 40) (N := some 69) (v := ?_) (a' := ?_) #[true, true, true, true, true, true, true, true, true, true, true, true, true, true, true, true, true, true, true, true, true, true, true, true, true, true, true, true, true, true, true, true, true, true, true, true, true, true, true, true, true, false, false, false, false, false, false, false, false, false, false, false, false, false] rfl rfl (by kernel_rfl) (fun _ _ _ h => h) (Or.inl ⟨by rfl, ?_⟩) ?_ ?_
  rotate_left
  · intro w'
    go_simp
    with_reducible rfl
  rotate_left
  · simp only [Act.put, List.setIfInBounds_toArray, List.set_cons_zero, List.set_cons_succ, i64_w, i32_w]
    rfl
  refine pure_ (i := 41) (N := some 70) (v := ?_) (a' := ?_) #[true, true, true, true, true, true, true, true, true, true, true, true, true, true, true, true, true, true, true, true, true, true, true, true, true, true, true, true, true, true, true, true, true, true, true, true, true, true, true, true, true, true, false, false, false, false, false, false, false, false, false, false, false, false] rfl rfl (by kernel_rfl) (fun _ _ _ h => h) (Or.inl ⟨by rfl, ?_⟩) ?_ ?_
  rotate_left
  · intro w'
    go_simp
    with_reducible rfl
  rotate_left
  · simp only [Act.put, List.setIfInBounds_toArray, List.set_cons_zero, List.set_cons_succ, i64_w, i32_w]
    rfl
  refine pure_ (i := 42) (N := some 71) (v := ?_) (a' := ?_) #[true, true, true, true, true, true, true, true, true, true, true, true, true, true, true, true, true, true, true, true, true, true, true, true, true, true, true, true, true, true, true, true, true, true, true, true, true, true, true, true, true, true, true, false, false, false, false, false, false, false, false, false, false, false] rfl rfl (by kernel_rfl) (fun _ _ _ h => h) (Or.inl ⟨by rfl, ?_⟩) ?_ ?_
  rotate_left
  · intro w'
    go_simp
    with_reducible rfl
  rotate_left
  · simp only [Act.put, List.setIfInBounds_toArray, List.set_cons_zero, List.set_cons_succ, i64_w, i32_w]
    rfl
  refine pure_ (i := 43) (N := some 72) (v := ?_) (a' := ?_) #[true, true, true, true, true, true, true, true, true, true, true, true, true, true, true, true, true, true, true, true, true, true, true, true, true, true, true, true, true, true, true, true, true, true, true, true, true, true, true, true, true, true, true, true, false, false, false, false, false, false, false, false, false, false] rfl rfl (by kernel_rfl) (fun _ _ _ h => h) (Or.inl ⟨by rfl, ?_⟩) ?_ ?_
  rotate_left
  · intro w'
    go_simp
    with_reducible rfl
  rotate_left
  · simp only [Act.put, List.setIfInBounds_toArray, List.set_cons_zero, List.set_cons_succ, i64_w, i32_w]
    rfl
  refine pure_ (i := 44) (N := some 73) (v := ?_) (a' := ?_) #[true, true, true, true, true, true, true, true, true, true, true, true, true, true, true, true, true, true, true, true, true, true, true, true, true, true, true, true, true, true, true, true, true, true, true, true, true, true, true, true, true, true, true, true, true, false, false, false, false, false, false, false, false, false] rfl rfl (by kernel_rfl) (fun _ _ _ h => h) (Or.inl ⟨by rfl, ?_⟩) ?_ ?_
  rotate_left
  · intro w'
    go_simp
    with_reducible rfl
  rotate_left
  · simp only [Act.put, List.setIfInBounds_toArray, List.set_cons_zero, List.set_cons_succ, i64_w, i32_w]
    rfl
  refine pure_ (i := 45) (N := some 74) (v := ?_) (a' := ?_) #[true, true, true, true, true, true, true, true, true, true, true, true, true, true, true, true, true, true, true, true, true, true, true, true, true, true, true, true, true, true, true, true, true, true, true, true, true, true, true, true, true, true, true, true, true, true, false, false, false, false, false, false, false, false] rfl rfl (by kernel_rfl) (fun _ _ _ h => h) (Or.inl ⟨by rfl, ?_⟩) ?_ ?_
  rotate_left
  · intro w'
    go_simp
    with_reducible rfl
  rotate_left
  · simp only [Act.put, List.setIfInBounds_toArray, List.set_cons_zero, List.set_cons_succ, i64_w, i32_w]
    rfl
  refine pure_ (i := 46) (N := some 75) (v := ?_) (a' := ?_) #[true, true, true, true, true, true, true, true, true, true, true, true, true, true, true, true, true, true, true, true, true, true, true, true, true, true, true, true, true, true, true, true, true, true, true, true, true, true, true, true, true, true, true, true, true, true, true, false, false, false, false, false, false, false] rfl rfl (by kernel_rfl) (fun _ _ _ h => h) (Or.inl ⟨by rfl, ?_⟩) ?_ ?_
  rotate_left
  · intro w'
    go_simp
    with_reducible rfl
  rotate_left
  · simp only [Act.put, List.setIfInBounds_toArray, List.set_cons_zero, List.set_cons_succ, i64_w, i32_w]
    rfl
  refine pure_ (i := 47) (N := some 76) (v := ?_) (a' := ?_) #[true, true, true, true, true, true, true, true, true, true, true, true, true, true, true, true, true, true, true, true, true, true, true, true, true, true, true, true, true, true, true, true, true, true, true, true, true, true, true, true, true, true, true, true, true, true, true, true, false, false, false, false, false, false] rfl rfl (by kernel_rfl) (fun _ _ _ h => h) (Or.inl ⟨by rfl, ?_⟩) ?_ ?_
  rotate_left
  · intro w'
    go_simp
    with_reducible rfl
  rotate_left
  · simp only [Act.put, List.setIfInBounds_toArray, List.set_cons_zero, List.set_cons_succ, i64_w, i32_w]
    rfl
  refine pure_ (i := 48) (N := some 77) (v := ?_) (a' := ?_) #[true, true, true, true, true, true, true, true, true, true, true, true, true, true, true, true, true, true, true, true, true, true, true, true, true, true, true, true, true, true, true, true, true, true, true, true, true, true, true, true, true, true, true, true, true, true, true, true, true, false, false, false, false, false] rfl rfl (by kernel_rfl) (fun _ _ _ h => h) (Or.inl ⟨by rfl, ?_⟩) ?_ ?_
  rotate_left
  · intro w'
    go_simp
    with_reducible rfl
  rotate_left
  · simp only [Act.put, List.setIfInBounds_toArray, List.set_cons_zero, List.set_cons_succ, i64_w, i32_w]
    rfl
  refine pure_ (i := 49) (N := some 78) (v := ?_) (a' := ?_) #[true, true, true, true, true, true, true, true, true, true, true, true, true, true, true, true, true, true, true, true, true, true, true, true, true, true, true, true, true, true, true, true, true, true, true, true, true, true, true, true, true, true, true, true, true, true, true, true, true, true, false, false, false, false] rfl rfl (by kernel_rfl) (fun _ _ _ h => h) (Or.inl ⟨by rfl, ?_⟩) ?_ ?_
  rotate_left
  · intro w'
    go_simp
    with_reducible rfl
  rotate_left
  · simp only [Act.put, List.setIfInBounds_toArray, List.set_cons_zero, List.set_cons_succ, i64_w, i32_w]
    rfl
  refine one_ (i := 50) (N := some 79) #[true, true, true, true, true, true, true, true, true, true, true, true, true, true, true, true, true, true, true, true, true, true, true, true, true, true, true, true, true, true, true, true, true, true, true, true, true, true, true, true, true, true, true, true, true, true, true, true, true, true, true, false, false, false] rfl rfl (by kernel_rfl) (by decide) (fun K hK => ?_)
  refine goes_ Tryd.func7 (by kernel_rfl) rfl #[.int .i64 0] (by rfl) rfl rfl (by simp only [List.map_toArray, List.map_cons, List.map_nil]; rfl) ?_
  with_reducible refine (newP_no HST11.out 0 (by decide)).mono ?_
  rintro e w12 ⟨rfl, h12⟩
  have HST12 := Aside0.mk h12
  clear h12
  refine ⟨_, rfl, ?_⟩
  refine hK.out _ _ ⟨(row_at0 (x := ⟨cA, 66⟩) HST12.out 4 rfl (by decide) rfl).1, (row_at0 (x := ⟨cA, 66⟩) HST12.out 4 rfl (by decide) rfl).2.1, (row_at0 (x := ⟨cA, 66⟩) HST12.out 4 rfl (by decide) rfl).2.2.1, (row_at0 (x := ⟨cA, 66⟩) HST12.out 4 rfl (by decide) rfl).2.2.2.1, (row_at0 (x := ⟨cA, 66⟩) HST12.out 4 rfl (by decide) rfl).2.2.2.2.1, (row_at0 (x := ⟨cA, 66⟩) HST12.out 4 rfl (by decide) rfl).2.2.2.2.2.1, (row_at0 (x := ⟨cA, 66⟩) HST12.out 4 rfl (by decide) rfl).2.2.2.2.2.2.1, (row_at0 (x := ⟨cA, 66⟩) HST12.out 4 rfl (by decide) rfl).2.2.2.2.2.2.2.1, (row_at0 (x := ⟨cA, 66⟩) HST12.out 4 rfl (by decide) rfl).2.2.2.2.2.2.2.2.1, (row_at0 (x := ⟨cA, 66⟩) HST12.out 4 rfl (by decide) rfl).2.2.2.2.2.2.2.2.2, (cell_blk (blk_see HST12.out 2 rfl) 0 rfl), (cell_blk (blk_see HST12.out 2 rfl) 1 rfl), (cell_blk (blk_see HST12.out 2 rfl) 2 rfl), (cell_blk (blk_see HST12.out 2 rfl) 3 rfl), (cell_blk (blk_see HST12.out 2 rfl) 4 rfl), (cell_blk (blk_see HST12.out 2 rfl) 5 rfl), (cell_blk (blk_see HST12.out 2 rfl) 6 rfl), (cell_blk (blk_see HST12.out 2 rfl) 7 rfl), (cell_blk (blk_see HST12.out 2 rfl) 8 rfl)⟩ (fun hHeld => ?_)
  clear hK K
  refine norm_ (a' := ?_) ?_ ?_
  rotate_left
  · show Act.put _ (some 79) _ = _
    simp only [Act.put, List.setIfInBounds_toArray, List.set_cons_zero, List.set_cons_succ, i64_w, i32_w]
    rfl
  refine pure_ (i := 51) (N := some 80) (v := ?_) (a' := ?_) #[true, true, true, true, true, true, true, true, true, true, true, true, true, true, true, true, true, true, true, true, true, true, true, true, true, true, true, true, true, true, true, true, true, true, true, true, true, true, true, true, true, true, true, true, true, true, true, true, true, true, true, true, false, false] rfl rfl (by kernel_rfl) (fun _ _ _ h => h) (Or.inl ⟨by rfl, ?_⟩) ?_ ?_
  rotate_left
  · intro w'
    go_simp
    with_reducible rfl
  rotate_left
  · simp only [Act.put, List.setIfInBounds_toArray, List.set_cons_zero, List.set_cons_succ, i64_w, i32_w]
    rfl
  refine pure_ (i := 52) (N := some 81) (v := ?_) (a' := ?_) #[true, true, true, true, true, true, true, true, true, true, true, true, true, true, true, true, true, true, true, true, true, true, true, true, true, true, true, true, true, true, true, true, true, true, true, true, true, true, true, true, true, true, true, true, true, true, true, true, true, true, true, true, true, false] rfl rfl (by kernel_rfl) (fun _ _ _ h => h) (Or.inl ⟨by rfl, ?_⟩) ?_ ?_
  rotate_left
  · intro w'
    go_simp
    with_reducible rfl
  rotate_left
  · simp only [Act.put, List.setIfInBounds_toArray, List.set_cons_zero, List.set_cons_succ, i64_w, i32_w]
    rfl
  refine pure_ (i := 53) (N := some 0) (v := ?_) (a' := ?_) #[true, true, true, true, true, true, true, true, true, true, true, true, true, true, true, true, true, true, true, true, true, true, true, true, true, true, true, true, true, true, true, true, true, true, true, true, true, true, true, true, true, true, true, true, true, true, true, true, true, true, true, true, true, true] rfl rfl (by kernel_rfl) (fun _ _ _ h => h) (Or.inl ⟨by rfl, ?_⟩) ?_ ?_
  rotate_left
  · intro w'
    go_simp
    with_reducible rfl
  rotate_left
  · simp only [Act.put, List.setIfInBounds_toArray, List.set_cons_zero, List.set_cons_succ, i64_w, i32_w]
    rfl
  refine done_ (by kernel_rfl) ?_
  go_wp2_with fail
  go_ret
  exact ⟨by simp, HST12.out.below⟩
end Go.Proofs.YtpdcmdofojckdaaDoor.P
