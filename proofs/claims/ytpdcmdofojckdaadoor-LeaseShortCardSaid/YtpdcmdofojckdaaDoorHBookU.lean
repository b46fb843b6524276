/- Contracts, typed by hand: the program's book: Until, Stale: their closures, slices.IndexFunc, slices.ContainsFunc. -/
import Derived.Test.YtpdcmdofojckdaaDoorHBookL
import Derived.Test.YtpdcmdofojckdaaDoorP13
set_option linter.unusedVariables false
set_option linter.unusedSimpArgs false
namespace Go.Proofs.YtpdcmdofojckdaaDoor.P
open Go.RowKit Go.Proofs.YtpdcmdofojckdaaDoor.Pure Go.Proofs.YtpdcmdofojckdaaDoorW.PrintWords Go.Proofs.YtpdcmdofojckdaaDoorW.PrintLast Go.Proofs.YtpdcmdofojckdaaDoorW.PrintMore
theorem cell_lt13 {W : World} {p : Addr} {u : Value} (h : W.cell? p = some u) : p.block < W.heap.size := by
  apply Nat.lt_of_not_le
  intro hn
  have h2 : W.heap[p.block]? = none := Array.getElem?_eq_none hn
  simp [World.cell?, h2] at h
set_option maxHeartbeats 4000000 in
set_option maxRecDepth 100000 in
theorem closU.calls (h : SH) (b : Nat) (id : SD) (W : World) (h0 : W.cell? ⟨b, 0, none⟩ = some (.int .i64 id.f0)) (h1 : W.cell? ⟨b, 1, none⟩ = some (.int .i64 id.f1)) :
    Calls Tryd.prog 31 #[.agg #[.int .i64 h.f0.f0.f0, .int .i64 h.f0.f0.f1, .string h.f0.f1, .int .i64 h.f0.f2, .string h.f0.f3, .string h.f0.f4.f0, .string h.f0.f4.f1, .string h.f0.f5.f0, .string h.f0.f5.f1, .int .i64 h.f1], .pointer (some ⟨b, 0, none⟩)] W fun e W' => e = .returned (.bool (isD id h)) ∧ Below W.heap.size W W' := by
  have hu1 := Tryd.underlying40
  have hu2 := Tryd.underlying36
  have hu3 := Tryd.underlying42
  have hb : b < W.heap.size := cell_lt13 h0
  have HB := Aside0.mk (below_alloc (Below.refl W.heap.size W) (.cells (cellsH h).toArray 42))
  unfold isD
  cases e1 : (h.f0.f0.f0 == id.f0) with
  | true =>
    cases e2 : (h.f0.f0.f1 == id.f1) with
    | true =>
      go_enter Tryd.func31, Tryd.ntmps31
      go_wp2_with fail
      go_ret
      exact ⟨rfl, HB.out⟩
    | false =>
      go_enter Tryd.func31, Tryd.ntmps31
      go_wp2_with fail
      go_ret
      exact ⟨rfl, HB.out⟩
  | false =>
    go_enter Tryd.func31, Tryd.ntmps31
    go_wp2_with fail
    go_ret
    exact ⟨rfl, HB.out⟩
/-- The place of the first that is so, or -1. -/
def FindI {α : Type} [Inhabited α] (p : α → Bool) (L : List α) (r : Int) : Prop := match L.find? p with
  | none => r = -1
  | some h => ∃ i : Nat, i < L.length ∧ r = (i : Int) ∧ L.getD i default = h
theorem find_drop {α : Type} [Inhabited α] {p : α → Bool} {L : List α} {i : Nat} (h : i < L.length) : (L.drop i).find? p = if p (L.getD i default) then some (L.getD i default) else (L.drop (i + 1)).find? p := by
  have e : L.getD i default = L[i] := by rw [List.getD_eq_getElem?_getD, List.getElem?_eq_getElem h]; rfl
  rw [List.drop_eq_getElem_cons h, List.find?_cons, e]
  cases p L[i] <;> rfl
set_option maxHeartbeats 4000000 in
set_option maxRecDepth 100000 in
theorem indexU.calls (A : Option Addr) (c : Nat) (L : List SH) (b : Nat) (id : SD) (W : World) (hC : k42.C W A L.length L) (hc : L.length ≤ c) (hl : L.length ≤ 1000) (h0 : W.cell? ⟨b, 0, none⟩ = some (.int .i64 id.f0)) (h1 : W.cell? ⟨b, 1, none⟩ = some (.int .i64 id.f1)) :
    Calls Tryd.prog 30 #[.slice A L.length c, .func (.func 31) #[] #[.pointer (some ⟨b, 0, none⟩)]] W fun e W' => ∃ r, e = .returned (.int .i64 r) ∧ FindI (isD id) L r ∧ Below W.heap.size W W' := by
  have HC := Aside0.mk hC
  have H0 := Aside0.mk h0
  have H1 := Aside0.mk h1
  obtain ⟨n, en⟩ : ∃ n, L.length = n := ⟨_, rfl⟩
  rw [en] at hC hc hl HC ⊢
  have HEN := Aside0.mk en
  clear hC h0 h1 en
  go_enter Tryd.func30, Tryd.ntmps30
  go_wp2_with fail
  go_loopw [8] (fun s8 wr => ∃ i : Nat, i ≤ n ∧ s8 = .int .i64 (i : Int) ∧ Aside0 (L.find? (isD id) = (L.drop i).find? (isD id)) ∧ Aside0 (Below W.heap.size W wr)) (fun s8 _ => (n - (intOf s8).toNat))
  case atStart => exact ⟨0, by omega, rfl, ⟨rfl⟩, ⟨Below.refl _ _⟩⟩
  case round =>
    obtain ⟨i, hi, rfl, HF, HB⟩ := hrel
    by_cases hlt : i < n
    · have b1 : decide ((i : Int) < (n : Int)) = true := decide_eq_true (by omega)
      have b2 : decide (i < n) = true := decide_eq_true hlt
      obtain ⟨ad, rfl, hx⟩ := at_held (Kd.C_below HC.out HB.out) i hlt
      have hfd := find_drop (p := isD id) (show i < L.length by rw [HEN.out]; exact hlt)
      obtain ⟨h, eh⟩ : ∃ h, L.getD i default = h := ⟨_, rfl⟩
      rw [eh] at hx hfd
      have HEH := Aside0.mk eh
      have HFD := Aside0.mk hfd
      obtain ⟨hx0, hx1, hx2, hx3, hx4, hx5, hx6, hx7, hx8, hx9⟩ := hx
      have HCL := Aside0.mk (closU.calls h b id wr (pw_cell_below HB.out H0.out) (pw_cell_below HB.out H1.out))
      obtain ⟨t, et⟩ : ∃ t, isD id h = t := ⟨_, rfl⟩
      rw [et] at HCL HFD
      clear hfd eh et
      go_wp2_with fail
      refine HCL.out.mono ?_
      rintro e w' ⟨rfl, hB⟩
      have HB2 := Aside0.mk (below_step HB.out hB)
      clear hB hx0 hx1 hx2 hx3 hx4 hx5 hx6 hx7 hx8 hx9
      cases t with
      | true =>
        go_wp2_with fail
        go_ret
        refine ⟨_, rfl, ?_, HB2.out⟩
        unfold FindI
        rw [HF.out, HFD.out]
        exact ⟨i, by rw [HEN.out]; exact hlt, rfl, HEH.out⟩
      | false =>
        go_wp2_with fail
        go_roundw
        case rel => exact ⟨i + 1, by omega, by simp, ⟨HF.out.trans HFD.out⟩, HB2⟩
        case measure => simp [intOf]; omega
    · have e : i = n := by omega
      subst e
      have b1 : decide ((i : Int) < (i : Int)) = false := decide_eq_false (by omega)
      have b2 : decide (i < i) = false := decide_eq_false (by omega)
      go_wp2_with fail
      go_ret
      refine ⟨_, rfl, ?_, HB.out⟩
      unfold FindI
      rw [HF.out, List.drop_eq_nil_of_le (by rw [HEN.out]; exact Nat.le_refl _)]
      rfl
theorem infoI : (Tryd.prog.info? 3).map (fun i => (i.zero, i.size, i.bytes)) = some (some (.int .i64 0), 1, 8) := by kernel_rfl
abbrev RowI (w0 W : World) (v : Value) (xs : List Int) : Prop := (Kd.int .i64).R 3 W w0.heap.size (fun k => w0.heap.size ≤ k) v xs
theorem app_i64 {ops : Array Oper} {rest : List Oper} {o : Oper} {a : Act} {Q : Exit → Act → World → Prop} {w0 W : World} (hgd : o.guard = none) (s x : Operand) (ho : o.op = .call { callee := .builtin .append, args := #[s, x], argTypes := #[66, 66] }) (v : Value) (xs : List Int) (n : Int)
    (hs : a.eval s = v) (hx : a.eval x = .slice (some ⟨W.heap.size, 0, none⟩) 1 1) (HO : RowI w0 W v xs) (HB : Below w0.heap.size w0 W) (hl : xs.length ≤ 100000)
    (K : ∀ v1 w1, RowI w0 w1 v1 (xs ++ [n]) → Below w0.heap.size w0 w1 → wpList Tryd.prog ops Q rest (a.put o.dst v1) w1) :
    wpList Tryd.prog ops Q (o :: rest) a (W.alloc (.cells #[.int .i64 n] 3)) :=
  Kd.R_append (Kd.int .i64) (w0 := w0) (W := W) w0.heap.size hgd s x 66 3 (.int .i64 0) 8 ho Tryd.underlying66 infoI rfl (by decide) (by omega) v xs n [.int .i64 n] (fun k => w0.heap.size ≤ k) (fun _ => False) hs hx
    rfl (fun _ hk => hk.elim) (fun k hk => Nat.le_trans HB.size hk) HO HB HB.size (by omega) (fun v1 w1 h1 h2 _ _ => K v1 w1 h1 h2)
theorem least_snoc (xs : List Int) (n : Int) : leastT (xs ++ [n]) = if tickT n < leastT xs then tickT n else leastT xs := by
  unfold leastT
  rw [List.foldl_append]
  rfl
theorem at_id {W : World} {A : Option Addr} {n : Nat} {xs : List SD} (hC : k36.C W A n xs) (j : Nat) (hj : j < n) : ∃ ad, A = some ad ∧ W.cell? (ad.add (j * 2)) = some (.int .i64 (xs.getD j default).f0) ∧ W.cell? ⟨(ad.add (j * 2)).block, (ad.add (j * 2)).off + 1, none⟩ = some (.int .i64 (xs.getD j default).f1) := by
  obtain ⟨ad, e, h⟩ := at_T36 hC (j : Int) (by omega) (by omega)
  rw [Int.toNat_natCast] at h
  exact ⟨ad, e, h⟩
theorem until_drop {L : List SH} {own : Int} {ids : List SD} {m : Int} {j : Nat} (h : j < ids.length) : untilG L own (ids.drop j) m = if (ids.getD j default).f0 = own then untilG L own (ids.drop (j + 1)) m else match L.find? (isD (ids.getD j default)) with
    | none => (0, 13)
    | some h => untilG L own (ids.drop (j + 1)) (if h.f1 < m then h.f1 else m) := by
  have e : ids.getD j default = ids[j] := by rw [List.getD_eq_getElem?_getD, List.getElem?_eq_getElem h]; rfl
  rw [List.drop_eq_getElem_cons h, e, untilG]
  rfl
set_option maxHeartbeats 8000000 in
set_option maxRecDepth 100000 in
theorem bookUntil.calls (g : Nat) (B : Bk) (hG : Good13 B) (A : Option Addr) (c : Nat) (ids : List SD) (now : Int) (W : World) (ok : Nat → Prop) (hP : (PBook g B).P ok W) (hC : k36.C W A ids.length ids) (hc : ids.length ≤ c) (hl : ids.length ≤ 1000) :
    Calls Tryd.prog 17 #[.pointer (some ⟨g, 0, none⟩), .slice A ids.length c, .int .i64 now] W fun e W' => e = .returned (.tuple #[.int .i64 (untilR B ids now).1, .int .i64 (untilR B ids now).2]) ∧ Below W.heap.size W W' := by
  obtain ⟨_, _, _, _, hc0, _⟩ := pbook_open hP
  have HC0 := Aside0.mk hc0
  have HC := Aside0.mk hC
  have HHD := Aside0.mk (bookHeld.calls g B hG now W ok hP)
  have HLL := Aside0.mk (heldL_length hG now)
  have HUT := Aside0.mk (heldL_until hG now)
  have hru : untilR B ids now = untilG (heldL B now) B.own (ids.drop 0) (leastT []) := rfl
  obtain ⟨LL, eL⟩ : ∃ LL, heldL B now = LL := ⟨_, rfl⟩
  obtain ⟨o, eo⟩ : ∃ o, B.own = o := ⟨_, rfl⟩
  obtain ⟨R, eR⟩ : ∃ R, untilR B ids now = R := ⟨_, rfl⟩
  rw [eR, eL, eo] at hru
  rw [eL] at HHD HLL HUT
  rw [eo] at HC0
  rw [eR]
  have HRU := Aside0.mk hru
  clear hc0 hP hC hru eL eo eR
  obtain ⟨n, en⟩ : ∃ n, ids.length = n := ⟨_, rfl⟩
  rw [en] at HC hc hl ⊢
  have HEN := Aside0.mk en
  clear en
  have hu2 := Tryd.underlying36
  have hu3 := Tryd.underlying42
  go_enter Tryd.func17, Tryd.ntmps17
  go_wp2_with fail
  refine HHD.out.mono ?_
  rintro e wa ⟨v, rfl, hR, hB⟩
  obtain ⟨A9, c9, rfl, hc9, hC9⟩ := Kd.R_reads hR
  have HB := Aside0.mk hB
  have HC9 := Aside0.mk hC9
  have HCI := Aside0.mk (Kd.C_below HC.out hB)
  have HCO := Aside0.mk (pw_cell_below hB HC0.out)
  clear hR hC9 hB HC HC0 HHD
  obtain ⟨ln, eln⟩ : ∃ ln, LL.length = ln := ⟨_, rfl⟩
  have HLN := Aside0.mk eln
  rw [eln] at hc9 ⊢
  clear eln
  go_wp2_with fail
  go_loopw [8, 18] (fun s8 s18 wr => ∃ (j : Nat) (xs : List Int), j ≤ n ∧ s18 = .int .i64 (j : Int) ∧ Aside0 (R = untilG LL o (ids.drop j) (leastT xs)) ∧ Aside0 (xs.length ≤ j) ∧ Aside0 (RowI wa wr s8 xs) ∧ Aside0 (Below wa.heap.size wa wr)) (fun _ s18 _ => (n - (intOf s18).toNat))
  case atStart => exact ⟨0, [], by omega, rfl, HRU, ⟨by simp⟩, ⟨Kd.R_nil _ _ _ _ _⟩, ⟨Below.refl _ _⟩⟩
  case round =>
    obtain ⟨j, xs, hj, rfl, HX, HXL, HR, HBR⟩ := hrel
    clear HRU
    by_cases hlt : j < n
    · have b1 : decide ((j : Int) < (n : Int)) = true := decide_eq_true (by omega)
      have b2 : decide (j < n) = true := decide_eq_true hlt
      obtain ⟨ad, rfl, hx0, hx1⟩ := at_id (Kd.C_below HCI.out HBR.out) j hlt
      have hud := until_drop (L := LL) (own := o) (m := leastT xs) (show j < ids.length by rw [HEN.out]; exact hlt)
      obtain ⟨id, eid⟩ : ∃ id, ids.getD j default = id := ⟨_, rfl⟩
      rw [eid] at hx0 hx1 hud
      have HUD := Aside0.mk hud
      have HEI := Aside0.mk eid
      have HBX := Aside0.mk (blk_new wr (.cells #[.int .i64 id.f0, .int .i64 id.f1] 36))
      have HBB := Aside0.mk (below_alloc HBR.out (.cells #[.int .i64 id.f0, .int .i64 id.f1] 36))
      have HRA := Aside0.mk (Kd.R_alloc HR.out (.cells #[.int .i64 id.f0, .int .i64 id.f1] 36))
      obtain ⟨bx, ebx⟩ : ∃ bx, bx = wr.heap.size := ⟨_, rfl⟩
      obtain ⟨w4, e4⟩ : ∃ w4, w4 = wr.alloc (.cells #[.int .i64 id.f0, .int .i64 id.f1] 36) := ⟨_, rfl⟩
      clear hud eid
      by_cases ho : id.f0 = o
      · have hob : (id.f0 == o) = true := by simp [ho]
        rw [if_pos ho] at HUD
        clear ho
        go_wp2_with fail
        rw [← ebx, ← e4] at HBX ⊢
        rw [← e4] at HBB HRA
        clear hx0 hx1 HBR HR e4 ebx
        obtain ⟨w5, e_w5⟩ : ∃ w_, w_ = World.drew w4 := ⟨_, rfl⟩
        have HBw5 := Aside0.mk (show Below (World.heap w4).size w4 w5 by rw [e_w5]; exact below_drew (Below.refl _ _))
        refine start_ (n := 7) (S := fun w' => w'.cell? ⟨bx, 0, none⟩ = some (.int .i64 id.f0) ∧ w'.cell? ⟨g, 0, none⟩ = some (.int .i64 o)) (ds := []) #[false, false, false, false, false, false, false] (by kernel_rfl) rfl rfl ⟨(by rw [← e_w5]; exact (cell_blk (blk_below HBX.out HBw5.out) 0 rfl)), (by rw [← e_w5]; exact (pw_cell_below (below_step HBB.out HBw5.out) HCO.out))⟩ (fun hHeld => ?_)
        rw [← e_w5] at hHeld ⊢
        clear e_w5
        refine pure_ (i := 0) (N := some 22) (v := ?_) (a' := ?_) #[true, false, false, false, false, false, false] rfl rfl (by kernel_rfl) (fun _ _ _ h => h) (Or.inl ⟨by rfl, ?_⟩) ?_ ?_
        rotate_left
        · intro w'
          go_simp
          with_reducible rfl
        rotate_left
        · simp only [Act.put, List.setIfInBounds_toArray, List.set_cons_zero, List.set_cons_succ, i64_w, i32_w]
          rfl
        refine pure_ (i := 2) (N := some 24) (v := ?_) (a' := ?_) #[true, false, true, false, false, false, false] rfl rfl (by kernel_rfl) (fun _ _ _ h => h) (Or.inl ⟨by rfl, ?_⟩) ?_ ?_
        rotate_left
        · intro w'
          go_simp
          with_reducible rfl
        rotate_left
        · simp only [Act.put, List.setIfInBounds_toArray, List.set_cons_zero, List.set_cons_succ, i64_w, i32_w]
          rfl
        refine pure_ (i := 3) (N := some 25) (v := ?_) (a' := ?_) #[true, false, true, true, false, false, false] rfl rfl (by kernel_rfl) (fun _ _ _ h => h) (Or.inl ⟨by rfl, ?_⟩) ?_ ?_
        rotate_left
        · intro w'
          go_simp
          with_reducible rfl
        rotate_left
        · simp only [Act.put, List.setIfInBounds_toArray, List.set_cons_zero, List.set_cons_succ, i64_w, i32_w]
          rfl
        refine pure_ (i := 4) (N := some 26) (v := ?_) (a' := ?_) #[true, false, true, true, true, false, false] rfl rfl (by kernel_rfl) (fun _ _ _ h => h) (Or.inl ⟨by rfl, ?_⟩) ?_ ?_
        rotate_left
        · intro w'
          go_simp
          with_reducible rfl
        rotate_left
        · simp only [Act.put, List.setIfInBounds_toArray, List.set_cons_zero, List.set_cons_succ, i64_w, i32_w]
          rfl
        refine take_ (i := 1) (N := some 23) (v := ?_) (a' := ?_) #[true, true, true, true, true, false, false] rfl rfl (by kernel_rfl) (fun _ _ _ h => h) (Or.inl ⟨by rfl, ?_⟩) hHeld ?_ ?_
        rotate_left
        · rintro w' ⟨s0, s1⟩
          go_simp
          with_reducible rfl
        rotate_left
        · simp only [Act.put, List.setIfInBounds_toArray, List.set_cons_zero, List.set_cons_succ, i64_w, i32_w]
          rfl
        refine take_ (i := 5) (N := some 27) (v := ?_) (a' := ?_) #[true, true, true, true, true, true, false] rfl rfl (by kernel_rfl) (fun _ _ _ h => h) (Or.inl ⟨by rfl, ?_⟩) hHeld ?_ ?_
        rotate_left
        · rintro w' ⟨s0, s1⟩
          go_simp
          with_reducible rfl
        rotate_left
        · simp only [Act.put, List.setIfInBounds_toArray, List.set_cons_zero, List.set_cons_succ, i64_w, i32_w]
          rfl
        refine pure_ (i := 6) (N := some 28) (v := ?_) (a' := ?_) #[true, true, true, true, true, true, true] rfl rfl (by kernel_rfl) (fun _ _ _ h => h) (Or.inl ⟨by rfl, ?_⟩) ?_ ?_
        rotate_left
        · intro w'
          go_simp
          with_reducible rfl
        rotate_left
        · simp only [Act.put, List.setIfInBounds_toArray, List.set_cons_zero, List.set_cons_succ, i64_w, i32_w]
          rfl
        refine done_ (by kernel_rfl) ?_
        go_wp2_with fail
        go_roundw
        case rel => exact ⟨j + 1, xs, by omega, by simp, ⟨HX.out.trans HUD.out⟩, ⟨by have := HXL.out; omega⟩, ⟨Kd.R_below HRA.out HBw5.out⟩, ⟨below_step HBB.out HBw5.out⟩⟩
        case measure => simp [intOf]; omega
      · have hob : (id.f0 == o) = false := by simp [ho]
        rw [if_neg ho] at HUD
        clear ho
        go_wp2_with fail
        rw [← ebx, ← e4] at HBX ⊢
        rw [← e4] at HBB HRA
        clear hx0 hx1 HBR HR e4 ebx
        obtain ⟨w5, e_w5⟩ : ∃ w_, w_ = World.drew w4 := ⟨_, rfl⟩
        have HBw5 := Aside0.mk (show Below (World.heap w4).size w4 w5 by rw [e_w5]; exact below_drew (Below.refl _ _))
        refine start_ (n := 7) (S := fun w' => w'.cell? ⟨bx, 0, none⟩ = some (.int .i64 id.f0) ∧ w'.cell? ⟨g, 0, none⟩ = some (.int .i64 o)) (ds := []) #[false, false, false, false, false, false, false] (by kernel_rfl) rfl rfl ⟨(by rw [← e_w5]; exact (cell_blk (blk_below HBX.out HBw5.out) 0 rfl)), (by rw [← e_w5]; exact (pw_cell_below (below_step HBB.out HBw5.out) HCO.out))⟩ (fun hHeld => ?_)
        rw [← e_w5] at hHeld ⊢
        clear e_w5
        refine pure_ (i := 0) (N := some 22) (v := ?_) (a' := ?_) #[true, false, false, false, false, false, false] rfl rfl (by kernel_rfl) (fun _ _ _ h => h) (Or.inl ⟨by rfl, ?_⟩) ?_ ?_
        rotate_left
        · intro w'
          go_simp
          with_reducible rfl
        rotate_left
        · simp only [Act.put, List.setIfInBounds_toArray, List.set_cons_zero, List.set_cons_succ, i64_w, i32_w]
          rfl
        refine pure_ (i := 2) (N := some 24) (v := ?_) (a' := ?_) #[true, false, true, false, false, false, false] rfl rfl (by kernel_rfl) (fun _ _ _ h => h) (Or.inl ⟨by rfl, ?_⟩) ?_ ?_
        rotate_left
        · intro w'
          go_simp
          with_reducible rfl
        rotate_left
        · simp only [Act.put, List.setIfInBounds_toArray, List.set_cons_zero, List.set_cons_succ, i64_w, i32_w]
          rfl
        refine pure_ (i := 3) (N := some 25) (v := ?_) (a' := ?_) #[true, false, true, true, false, false, false] rfl rfl (by kernel_rfl) (fun _ _ _ h => h) (Or.inl ⟨by rfl, ?_⟩) ?_ ?_
        rotate_left
        · intro w'
          go_simp
          with_reducible rfl
        rotate_left
        · simp only [Act.put, List.setIfInBounds_toArray, List.set_cons_zero, List.set_cons_succ, i64_w, i32_w]
          rfl
        refine pure_ (i := 4) (N := some 26) (v := ?_) (a' := ?_) #[true, false, true, true, true, false, false] rfl rfl (by kernel_rfl) (fun _ _ _ h => h) (Or.inl ⟨by rfl, ?_⟩) ?_ ?_
        rotate_left
        · intro w'
          go_simp
          with_reducible rfl
        rotate_left
        · simp only [Act.put, List.setIfInBounds_toArray, List.set_cons_zero, List.set_cons_succ, i64_w, i32_w]
          rfl
        refine take_ (i := 1) (N := some 23) (v := ?_) (a' := ?_) #[true, true, true, true, true, false, false] rfl rfl (by kernel_rfl) (fun _ _ _ h => h) (Or.inl ⟨by rfl, ?_⟩) hHeld ?_ ?_
        rotate_left
        · rintro w' ⟨s0, s1⟩
          go_simp
          with_reducible rfl
        rotate_left
        · simp only [Act.put, List.setIfInBounds_toArray, List.set_cons_zero, List.set_cons_succ, i64_w, i32_w]
          rfl
        refine take_ (i := 5) (N := some 27) (v := ?_) (a' := ?_) #[true, true, true, true, true, true, false] rfl rfl (by kernel_rfl) (fun _ _ _ h => h) (Or.inl ⟨by rfl, ?_⟩) hHeld ?_ ?_
        rotate_left
        · rintro w' ⟨s0, s1⟩
          go_simp
          with_reducible rfl
        rotate_left
        · simp only [Act.put, List.setIfInBounds_toArray, List.set_cons_zero, List.set_cons_succ, i64_w, i32_w]
          rfl
        refine pure_ (i := 6) (N := some 28) (v := ?_) (a' := ?_) #[true, true, true, true, true, true, true] rfl rfl (by kernel_rfl) (fun _ _ _ h => h) (Or.inl ⟨by rfl, ?_⟩) ?_ ?_
        rotate_left
        · intro w'
          go_simp
          with_reducible rfl
        rotate_left
        · simp only [Act.put, List.setIfInBounds_toArray, List.set_cons_zero, List.set_cons_succ, i64_w, i32_w]
          rfl
        refine done_ (by kernel_rfl) ?_
        have HB5 := Aside0.mk (below_step HBB.out HBw5.out)
        have HR5 := Aside0.mk (Kd.R_below HRA.out HBw5.out)
        have HIX := Aside0.mk (indexU.calls A9 c9 LL bx id w5 (Kd.C_below HC9.out HB5.out) (by rw [HLN.out]; exact hc9) (by have := HLL.out; omega) (cell_blk (blk_below HBX.out HBw5.out) 0 rfl) (cell_blk (blk_below HBX.out HBw5.out) 1 rfl))
        rw [HLN.out] at HIX
        clear HBX HRA HBB HBw5
        go_wp2_with fail
        refine HIX.out.mono ?_
        rintro e w6 ⟨r, rfl, hf, hB6⟩
        have HB6 := Aside0.mk (below_step HB5.out hB6)
        have HR6 := Aside0.mk (Kd.R_below HR5.out hB6)
        unfold FindI at hf
        clear hB6 HB5 HR5 HIX
        cases hfind : LL.find? (isD id) with
        | none =>
          rw [hfind] at hf HUD
          have hf' : r = -1 := hf
          subst hf'
          go_wp2_with fail
          go_ret2
          rw [HX.out, HUD.out]
          exact ⟨rfl, below_step HB.out HB6.out⟩
        | some h =>
          rw [hfind] at hf HUD
          obtain ⟨i, hi, hr, hih⟩ := hf
          subst hr
          rw [HLN.out] at hi
          have hneg : decide ((i : Int) < 0) = false := decide_eq_false (by omega)
          have hil : decide ((i : Int) < (ln : Int)) = true := decide_eq_true (by omega)
          have hi0 : decide (0 ≤ (i : Int)) = true := decide_eq_true (by omega)
          obtain ⟨ad9, rfl, hy⟩ := at_held (Kd.C_below HC9.out HB6.out) i (by rw [HLN.out]; exact hi)
          rw [hih] at hy
          have hmem : h ∈ LL := List.mem_of_find?_eq_some hfind
          have hrg := HUT.out h hmem
          have htk := tickT_self hrg.1 hrg.2
          have HUD2 : Aside0 (R = untilG LL o (ids.drop (j + 1)) (leastT (xs ++ [h.f1]))) := ⟨by rw [least_snoc, htk]; exact HX.out.trans HUD.out⟩
          obtain ⟨hy0, hy1, hy2, hy3, hy4, hy5, hy6, hy7, hy8, hy9⟩ := hy
          clear hmem hrg htk hih hfind HUD HX
          go_wp2_with (at_builtin; refine app_i64 (w0 := wa) rfl (.tmp 34) (.tmp 40) rfl u8 xs h.f1 rfl rfl HR6.out HB6.out (by have := HXL.out; omega) ?_)
          intro v7 w7 hR7 hB7
          have HR7 := Aside0.mk hR7
          have HB7 := Aside0.mk hB7
          clear hR7 hB7 HR6 HB6 hy0 hy1 hy2 hy3 hy4 hy5 hy6 hy7 hy8 hy9
          go_wp2_with fail
          go_roundw
          case rel => exact ⟨j + 1, xs ++ [h.f1], by omega, by simp, HUD2, ⟨by have := HXL.out; simp; omega⟩, HR7, HB7⟩
          case measure => simp [intOf]; omega
    · have e : j = n := by omega
      subst e
      have b1 : decide ((j : Int) < (j : Int)) = false := decide_eq_false (by omega)
      have b2 : decide (j < j) = false := decide_eq_false (by omega)
      have hx := HX.out
      rw [List.drop_eq_nil_of_le (by rw [HEN.out]; exact Nat.le_refl _)] at hx
      have hx2 : R = (leastT xs, 0) := hx
      obtain ⟨A8, c8, e8, hc8, hC8⟩ := Kd.R_reads HR.out
      subst e8
      have HLS := Aside0.mk (ticks_Least.calls 1001 A8 c8 xs (leastT xs) wr hC8 hc8 (least_eq 1001 xs (by have := HXL.out; omega) (by omega)))
      clear hx hC8
      go_wp2_with fail
      refine HLS.out.mono ?_
      rintro e w6 ⟨rfl, hB6⟩
      have HB6 := Aside0.mk (below_step HB.out (below_step HBR.out hB6))
      clear hB6
      go_wp2_with fail
      go_ret2
      rw [hx2]
      exact ⟨rfl, HB6.out⟩
/-! ### Stale -/
set_option maxHeartbeats 4000000 in
set_option maxRecDepth 100000 in
theorem closS.calls (g : Nat) (B : Bk) (hG : Good13 B) (now : Int) (id : SD) (q1 q2 : Nat) (W : World) (ok : Nat → Prop) (hP : (PBook g B).P ok W) (h1 : W.cell? ⟨q1, 0, none⟩ = some (.pointer (some ⟨g, 0, none⟩))) (h2 : W.cell? ⟨q2, 0, none⟩ = some (.int .i64 now)) :
    Calls Tryd.prog 36 #[.agg #[.int .i64 id.f0, .int .i64 id.f1], .pointer (some ⟨q1, 0, none⟩), .pointer (some ⟨q2, 0, none⟩)] W fun e W' => e = .returned (.bool (!freshB B id.f0 now)) ∧ Below W.heap.size W W' := by
  have hu2 := Tryd.underlying36
  have hb1 := cell_lt13 h1
  have hb2 := cell_lt13 h2
  have HB := Aside0.mk (below_alloc (Below.refl W.heap.size W) (.cells #[.int .i64 id.f0, .int .i64 id.f1] 36))
  have HF := Aside0.mk (bookFresh.calls g B hG id.f0 now (W.alloc (.cells #[.int .i64 id.f0, .int .i64 id.f1] 36)) ok ((PBook g B).on hP (below_alloc (Below.refl W.heap.size W) _)))
  obtain ⟨t, et⟩ : ∃ t, freshB B id.f0 now = t := ⟨_, rfl⟩
  rw [et] at HF ⊢
  clear hP et
  go_enter Tryd.func36, Tryd.ntmps36
  go_wp2_with fail
  refine HF.out.mono ?_
  rintro e w1 ⟨rfl, hB⟩
  have HB1 := Aside0.mk (below_step HB.out hB)
  clear hB
  go_wp2_with fail
  go_ret
  exact ⟨rfl, HB1.out⟩
set_option maxHeartbeats 4000000 in
set_option maxRecDepth 100000 in
theorem indexS.calls (g : Nat) (B : Bk) (hG : Good13 B) (now : Int) (A : Option Addr) (c : Nat) (L : List SD) (q1 q2 : Nat) (W : World) (ok : Nat → Prop) (hP : (PBook g B).P ok W) (hC : k36.C W A L.length L) (hc : L.length ≤ c) (hl : L.length ≤ 1000) (h1 : W.cell? ⟨q1, 0, none⟩ = some (.pointer (some ⟨g, 0, none⟩))) (h2 : W.cell? ⟨q2, 0, none⟩ = some (.int .i64 now)) :
    Calls Tryd.prog 42 #[.slice A L.length c, .func (.func 36) #[] #[.pointer (some ⟨q1, 0, none⟩), .pointer (some ⟨q2, 0, none⟩)]] W fun e W' => ∃ r, e = .returned (.int .i64 r) ∧ FindI (fun id => !freshB B id.f0 now) L r ∧ Below W.heap.size W W' := by
  have HC := Aside0.mk hC
  have H1 := Aside0.mk h1
  have H2 := Aside0.mk h2
  have HP := Aside0.mk hP
  obtain ⟨n, en⟩ : ∃ n, L.length = n := ⟨_, rfl⟩
  rw [en] at hC hc hl HC ⊢
  have HEN := Aside0.mk en
  clear hC h1 h2 en hP
  go_enter Tryd.func42, Tryd.ntmps42
  go_wp2_with fail
  go_loopw [8] (fun s8 wr => ∃ i : Nat, i ≤ n ∧ s8 = .int .i64 (i : Int) ∧ Aside0 (L.find? (fun id => !freshB B id.f0 now) = (L.drop i).find? (fun id => !freshB B id.f0 now)) ∧ Aside0 (Below W.heap.size W wr)) (fun s8 _ => (n - (intOf s8).toNat))
  case atStart => exact ⟨0, by omega, rfl, ⟨rfl⟩, ⟨Below.refl _ _⟩⟩
  case round =>
    obtain ⟨i, hi, rfl, HF, HB⟩ := hrel
    by_cases hlt : i < n
    · have b1 : decide ((i : Int) < (n : Int)) = true := decide_eq_true (by omega)
      have b2 : decide (i < n) = true := decide_eq_true hlt
      obtain ⟨ad, rfl, hx0, hx1⟩ := at_id (Kd.C_below HC.out HB.out) i hlt
      have hfd := find_drop (p := fun id : SD => !freshB B id.f0 now) (show i < L.length by rw [HEN.out]; exact hlt)
      obtain ⟨h, eh⟩ : ∃ h, L.getD i default = h := ⟨_, rfl⟩
      rw [eh] at hx0 hx1 hfd
      have HEH := Aside0.mk eh
      have HFD := Aside0.mk hfd
      have HCL := Aside0.mk (closS.calls g B hG now h q1 q2 wr ok ((PBook g B).on HP.out HB.out) (pw_cell_below HB.out H1.out) (pw_cell_below HB.out H2.out))
      obtain ⟨t, et⟩ : ∃ t, (!freshB B h.f0 now) = t := ⟨_, rfl⟩
      rw [et] at HCL
      simp only [et] at HFD
      clear hfd eh et
      go_wp2_with fail
      refine HCL.out.mono ?_
      rintro e w' ⟨rfl, hB⟩
      have HB2 := Aside0.mk (below_step HB.out hB)
      clear hB hx0 hx1
      cases t with
      | true =>
        go_wp2_with fail
        go_ret
        refine ⟨_, rfl, ?_, HB2.out⟩
        unfold FindI
        rw [HF.out, HFD.out]
        exact ⟨i, by rw [HEN.out]; exact hlt, rfl, HEH.out⟩
      | false =>
        go_wp2_with fail
        go_roundw
        case rel => exact ⟨i + 1, by omega, by simp, ⟨HF.out.trans HFD.out⟩, HB2⟩
        case measure => simp [intOf]; omega
    · have e : i = n := by omega
      subst e
      have b1 : decide ((i : Int) < (i : Int)) = false := decide_eq_false (by omega)
      have b2 : decide (i < i) = false := decide_eq_false (by omega)
      go_wp2_with fail
      go_ret
      refine ⟨_, rfl, ?_, HB.out⟩
      unfold FindI
      rw [HF.out, List.drop_eq_nil_of_le (by rw [HEN.out]; exact Nat.le_refl _)]
      rfl
theorem find_any {α : Type} [Inhabited α] {p : α → Bool} {L : List α} {r : Int} (h : FindI p L r) : decide (0 ≤ r) = L.any p := by
  unfold FindI at h
  cases hf : L.find? p with
  | none =>
    rw [hf] at h
    have h' : r = -1 := h
    subst h'
    rw [List.find?_eq_none] at hf
    symm
    rw [decide_eq_false (by decide), List.any_eq_false]
    exact hf
  | some x =>
    rw [hf] at h
    obtain ⟨i, _, rfl, _⟩ := h
    symm
    rw [decide_eq_true (by omega), List.any_eq_true]
    exact ⟨x, List.mem_of_find?_eq_some hf, List.find?_some hf⟩
set_option maxHeartbeats 4000000 in
set_option maxRecDepth 100000 in
theorem bookStale.calls (g : Nat) (B : Bk) (hG : Good13 B) (A : Option Addr) (c : Nat) (ids : List SD) (now : Int) (W : World) (ok : Nat → Prop) (hP : (PBook g B).P ok W) (hC : k36.C W A ids.length ids) (hc : ids.length ≤ c) (hl : ids.length ≤ 1000) :
    Calls Tryd.prog 20 #[.pointer (some ⟨g, 0, none⟩), .slice A ids.length c, .int .i64 now] W fun e W' => e = .returned (.bool (staleB B ids now)) ∧ Below W.heap.size W W' := by
  have HB := Aside0.mk (below_alloc (below_alloc (Below.refl W.heap.size W) (.cells #[.pointer (some ⟨g, 0, none⟩)] 23)) (.cells #[.int .i64 now] 3))
  have hs1 : (W.alloc (.cells #[.pointer (some ⟨g, 0, none⟩)] 23)).heap.size = W.heap.size + 1 := by simp
  have HI := Aside0.mk (indexS.calls g B hG now A c ids W.heap.size (W.heap.size + 1) ((W.alloc (.cells #[.pointer (some ⟨g, 0, none⟩)] 23)).alloc (.cells #[.int .i64 now] 3)) ok ((PBook g B).on hP HB.out) (Kd.C_below hC HB.out) hc hl
    (cell_blk (blk_alloc (blk_new W _) _) 0 rfl) (by have := blk_new (W.alloc (.cells #[.pointer (some ⟨g, 0, none⟩)] 23)) (.cells #[.int .i64 now] 3); rw [hs1] at this; exact cell_blk this 0 rfl))
  obtain ⟨t, et⟩ : ∃ t, staleB B ids now = t := ⟨_, rfl⟩
  rw [et]
  have HT := Aside0.mk et
  clear hP hC et hs1
  have HCN : Aside0 (Calls Tryd.prog 35 #[.slice A ids.length c, .func (.func 36) #[] #[.pointer (some ⟨W.heap.size, 0, none⟩), .pointer (some ⟨W.heap.size + 1, 0, none⟩)]] ((W.alloc (.cells #[.pointer (some ⟨g, 0, none⟩)] 23)).alloc (.cells #[.int .i64 now] 3)) fun e W' => e = .returned (.bool t) ∧ Below W.heap.size W W') := ⟨by
    go_enter Tryd.func35, Tryd.ntmps35
    go_wp2_with fail
    refine HI.out.mono ?_
    rintro e w1 ⟨r, rfl, hf, hB⟩
    have hr := (find_any hf).trans HT.out
    have HB1 := Aside0.mk (below_step HB.out hB)
    clear hf hB
    go_wp2_with fail
    go_ret
    exact ⟨by rw [← hr]; rfl, HB1.out⟩⟩
  clear HI
  go_enter Tryd.func20, Tryd.ntmps20
  go_wp2_with fail
  refine HCN.out.mono ?_
  rintro e w1 ⟨rfl, hB⟩
  have HB1 := Aside0.mk hB
  clear hB
  go_wp2_with fail
  go_ret
  exact ⟨rfl, HB1.out⟩
end Go.Proofs.YtpdcmdofojckdaaDoor.P
