/- Contracts, typed by hand and by a program (gen_l13.py): the document's book: Held, Stale, Until. -/
import Derived.Test.YtpdcmdofojckdaaDoorHBookR
set_option linter.unusedVariables false
set_option linter.unusedSimpArgs false
namespace Go.Proofs.YtpdcmdofojckdaaDoor.P
open Go.RowKit Go.Proofs.YtpdcmdofojckdaaDoor.Pure Go.Proofs.YtpdcmdofojckdaaDoorW.PrintWords Go.Proofs.YtpdcmdofojckdaaDoorW.PrintLast Go.Proofs.YtpdcmdofojckdaaDoorW.PrintMore
/-! ### Held -/
set_option maxHeartbeats 8000000 in
set_option maxRecDepth 100000 in
theorem rbookHeld.calls (g : Nat) (B : Bk) (hG : Good13 B) (now : Int) (W : World) (ok : Nat → Prop) (hP : (RBook g B).P ok W) :
    Calls Tryd.prog 15 #[.pointer (some ⟨g, 0, none⟩), .int .i64 now] W fun e W' => ∃ v, e = .returned v ∧ RowH W W' v (heldL B now) ∧ Below W.heap.size W W' := by
  obtain ⟨A1, c1, _, _, _, _, hc1, _, hcap, _, hC, _⟩ := rbook_open hP
  have HC := Aside0.mk hC
  have HC1 := Aside0.mk hc1
  have hn := allL_length hG
  have hall := heldL_all B now
  obtain ⟨LL, eLL⟩ : ∃ LL, heldL B now = LL := ⟨_, rfl⟩
  obtain ⟨al, eal⟩ : ∃ al, allL B = al := ⟨_, rfl⟩
  rw [eal] at HC HC1 hn hcap hall
  rw [eLL] at hall ⊢
  have HAL := Aside0.mk hall
  clear hC hc1 hP hG hall eLL eal
  obtain ⟨n, en⟩ : ∃ n, al.length = n := ⟨_, rfl⟩
  rw [en] at HC HC1 hn hcap
  have HEN := Aside0.mk en
  clear en
  have hu := Tryd.underlying42
  go_enter Tryd.func15, Tryd.ntmps15
  go_wp2_with fail
  go_loopw [5, 6] (fun s5 s6 wr => ∃ (i : Nat) (xs : List SH), i ≤ n ∧ s6 = .int .i64 (i : Int) ∧ Aside0 (xs ++ (al.drop i).filter (fun h => !overT now h.f1) = LL) ∧ Aside0 (xs.length ≤ i) ∧ Aside0 (RowH W wr s5 xs) ∧ Aside0 (Below W.heap.size W wr)) (fun _ s6 _ => (n - (intOf s6).toNat))
  case atStart => exact ⟨0, [], by omega, rfl, ⟨by rw [List.drop_zero]; exact HAL.out.symm⟩, ⟨by simp⟩, ⟨Kd.R_nil _ _ _ _ _⟩, ⟨Below.refl _ _⟩⟩
  case round =>
    obtain ⟨i, xs, hi, rfl, HX, HXL, HR, HB⟩ := hrel
    have hc := pw_cell_below HB.out HC1.out
    by_cases hlt : i < n
    · have b1 : decide ((i : Int) < (n : Int)) = true := decide_eq_true (by omega)
      have b2 : decide (i < n) = true := decide_eq_true hlt
      obtain ⟨ad, rfl, hx⟩ := at_held (Kd.C_below HC.out HB.out) i hlt
      have hfd := filter_drop (p := fun h : SH => !overT now h.f1) (show i < al.length by rw [HEN.out]; exact hlt)
      obtain ⟨h, eh⟩ : ∃ h, al.getD i default = h := ⟨_, rfl⟩
      rw [eh] at hx hfd
      have HX0 := Aside0.mk hx
      have hx9 := hx.2.2.2.2.2.2.2.2.2
      have HFD := Aside0.mk hfd
      have HOV := Aside0.mk (fun W => overR_at now h.f1 W)
      obtain ⟨t, et⟩ : ∃ t, overT now h.f1 = t := ⟨_, rfl⟩
      rw [et] at HOV HFD
      clear hfd eh et hx
      go_wp2_with fail
      refine (HOV.out _).mono ?_
      rintro e w3 ⟨rfl, hB3⟩
      have HB3 := Aside0.mk (below_step HB.out hB3)
      have HR3 := Aside0.mk (Kd.R_below HR.out hB3)
      have hc3 := pw_cell_below hB3 hc
      have hd := fun (p : Addr) (v : Value) (h : wr.cell? p = some v) => pw_cell_below hB3 h
      obtain ⟨hx0, hx1, hx2, hx3, hx4, hx5, hx6, hx7, hx8, hx9'⟩ := HX0.out
      replace hx0 := hd _ _ hx0
      replace hx1 := hd _ _ hx1
      replace hx2 := hd _ _ hx2
      replace hx3 := hd _ _ hx3
      replace hx4 := hd _ _ hx4
      replace hx5 := hd _ _ hx5
      replace hx6 := hd _ _ hx6
      replace hx7 := hd _ _ hx7
      replace hx8 := hd _ _ hx8
      replace hx9' := hd _ _ hx9'
      clear hB3 hd hc hx9 HR HB HX0 HOV
      cases t with
      | true =>
        clear hx0 hx1 hx2 hx3 hx4 hx5 hx6 hx7 hx8 hx9'
        go_wp2_with fail
        go_roundw
        case rel => exact ⟨i + 1, xs, by omega, by simp, ⟨by have := HX.out; rw [HFD.out] at this; exact this⟩, ⟨by have := HXL.out; omega⟩, HR3, HB3⟩
        case measure => simp [intOf]; omega
      | false =>
        go_wp2_with (at_builtin; refine app_held (w0 := W) rfl (.tmp 29) (.tmp 37) rfl u5 xs h rfl rfl HR3.out HB3.out (by have := HXL.out; omega) ?_)
        intro v4 w4 hR4 hB4
        have HR4 := Aside0.mk hR4
        have HB4 := Aside0.mk hB4
        clear hR4 hB4 HR3 HB3 hx0 hx1 hx2 hx3 hx4 hx5 hx6 hx7 hx8 hx9' hc3
        go_wp2_with fail
        go_roundw
        case rel => exact ⟨i + 1, xs ++ [h], by omega, by simp, ⟨by have := HX.out; rw [HFD.out] at this; simpa using this⟩, ⟨by have := HXL.out; simp; omega⟩, HR4, HB4⟩
        case measure => simp [intOf]; omega
    · have e : i = n := by omega
      subst e
      have b1 : decide ((i : Int) < (i : Int)) = false := decide_eq_false (by omega)
      have b2 : decide (i < i) = false := decide_eq_false (by omega)
      have hx : xs = LL := by
        have := HX.out
        rw [List.drop_eq_nil_of_le (by rw [HEN.out]; exact Nat.le_refl _), List.filter_nil, List.append_nil] at this
        exact this
      go_wp2_with fail
      go_ret
      rw [← hx]
      exact ⟨_, rfl, HR.out, HB.out⟩
/-! ### Stale -/
theorem any_drop {α : Type} [Inhabited α] {p : α → Bool} {L : List α} {i : Nat} (h : i < L.length) : (L.drop i).any p = (p (L.getD i default) || (L.drop (i + 1)).any p) := by
  have e : L.getD i default = L[i] := by rw [List.getD_eq_getElem?_getD, List.getElem?_eq_getElem h]; rfl
  rw [List.drop_eq_getElem_cons h, List.any_cons, e]
set_option maxHeartbeats 4000000 in
set_option maxRecDepth 100000 in
theorem rbookStale.calls (g : Nat) (B : Bk) (A : Option Addr) (c : Nat) (ids : List SD) (now : Int) (W : World) (ok : Nat → Prop) (hP : (RBook g B).P ok W) (hC : k36.C W A ids.length ids) (hc : ids.length ≤ c) (hl : ids.length ≤ 1000) :
    Calls Tryd.prog 21 #[.pointer (some ⟨g, 0, none⟩), .slice A ids.length c, .int .i64 now] W fun e W' => e = .returned (.bool (staleB B ids now)) ∧ Below W.heap.size W W' := by
  have HC := Aside0.mk hC
  have HP := Aside0.mk hP
  unfold staleB
  obtain ⟨n, en⟩ : ∃ n, ids.length = n := ⟨_, rfl⟩
  rw [en] at hc hl HC ⊢
  have HEN := Aside0.mk en
  clear hC hP en
  go_enter Tryd.func21, Tryd.ntmps21
  go_wp2_with fail
  go_loopw [7] (fun s7 wr => ∃ i : Nat, i ≤ n ∧ s7 = .int .i64 (i : Int) ∧ Aside0 (ids.any (fun id => !freshB B id.f0 now) = (ids.drop i).any (fun id => !freshB B id.f0 now)) ∧ Aside0 (Below W.heap.size W wr)) (fun s7 _ => (n - (intOf s7).toNat))
  case atStart => exact ⟨0, by omega, rfl, ⟨rfl⟩, ⟨Below.refl _ _⟩⟩
  case round =>
    obtain ⟨i, hi, rfl, HF, HB⟩ := hrel
    by_cases hlt : i < n
    · have b1 : decide ((i : Int) < (n : Int)) = true := decide_eq_true (by omega)
      have b2 : decide (i < n) = true := decide_eq_true hlt
      obtain ⟨ad, rfl, hx0, hx1⟩ := at_id (Kd.C_below HC.out HB.out) i hlt
      have hfd := any_drop (p := fun id : SD => !freshB B id.f0 now) (show i < ids.length by rw [HEN.out]; exact hlt)
      obtain ⟨h, eh⟩ : ∃ h, ids.getD i default = h := ⟨_, rfl⟩
      rw [eh] at hx0 hx1 hfd
      have HFR := Aside0.mk (rbookFresh.calls g B h.f0 now wr ok ((RBook g B).on HP.out HB.out))
      obtain ⟨t, et⟩ : ∃ t, freshB B h.f0 now = t := ⟨_, rfl⟩
      rw [et] at HFR hfd
      have HFD := Aside0.mk hfd
      clear hfd eh et
      go_wp2_with fail
      refine HFR.out.mono ?_
      rintro e w' ⟨rfl, hB⟩
      have HB2 := Aside0.mk (below_step HB.out hB)
      clear hB hx0 hx1
      cases t with
      | true =>
        go_wp2_with fail
        go_roundw
        case rel => exact ⟨i + 1, by omega, by simp, ⟨HF.out.trans HFD.out⟩, HB2⟩
        case measure => simp [intOf]; omega
      | false =>
        go_wp2_with fail
        go_ret
        rw [HF.out, HFD.out]
        exact ⟨rfl, HB2.out⟩
    · have e : i = n := by omega
      subst e
      have b1 : decide ((i : Int) < (i : Int)) = false := decide_eq_false (by omega)
      have b2 : decide (i < i) = false := decide_eq_false (by omega)
      go_wp2_with fail
      go_ret
      rw [HF.out, List.drop_eq_nil_of_le (by rw [HEN.out]; exact Nat.le_refl _)]
      exact ⟨rfl, HB.out⟩
/-! ### Until -/
/-- A step of the document's inner loop. -/
def stepU (id : SD) (p : Bool × Int) (h : SH) : Bool × Int := if isD id h then (true, if h.f1 < p.2 then h.f1 else p.2) else p
theorem stepU_none (id : SD) : ∀ (L : List SH) (p : Bool × Int), L.find? (isD id) = none → L.foldl (stepU id) p = p
  | [], p, _ => rfl
  | h :: L, p, hn => by
    rw [List.find?_cons] at hn
    cases hd : isD id h with
    | true => rw [hd] at hn; cases hn
    | false =>
      rw [hd] at hn
      rw [List.foldl_cons, show stepU id p h = p by unfold stepU; rw [hd]; rfl]
      exact stepU_none id L p hn
/-- Where each ID is there once. -/
theorem stepU_once (id : SD) (m : Int) : ∀ (L : List SH), L.Pairwise (fun x y => sameI x.f0 y.f0 = false) → L.foldl (stepU id) (false, m) = match L.find? (isD id) with
    | none => (false, m)
    | some h => (true, if h.f1 < m then h.f1 else m)
  | [], _ => rfl
  | h :: L, hp => by
    obtain ⟨h1, h2⟩ := List.pairwise_cons.1 hp
    rw [List.foldl_cons, List.find?_cons]
    cases hd : isD id h with
    | false =>
      rw [show stepU id (false, m) h = (false, m) by unfold stepU; rw [hd]; rfl]
      exact stepU_once id m L h2
    | true =>
      rw [show stepU id (false, m) h = (true, if h.f1 < m then h.f1 else m) by unfold stepU; rw [hd]; rfl]
      refine stepU_none id L _ ?_
      rw [List.find?_eq_none]
      intro y hy hyd
      have h3 := h1 y hy
      unfold isD at hd hyd
      simp only [Bool.and_eq_true, beq_iff_eq] at hd hyd
      have h4 : sameI h.f0 y.f0 = true := sameI_iff.2 ⟨hd.1.trans hyd.1.symm, hd.2.trans hyd.2.symm⟩
      rw [h3] at h4
      cases h4
theorem foldl_drop {α β : Type} [Inhabited α] {f : β → α → β} {L : List α} {i : Nat} {p : β} (h : i < L.length) : (L.drop i).foldl f p = (L.drop (i + 1)).foldl f (f p (L.getD i default)) := by
  have e : L.getD i default = L[i] := by rw [List.getD_eq_getElem?_getD, List.getElem?_eq_getElem h]; rfl
  rw [List.drop_eq_getElem_cons h, List.foldl_cons, e]
set_option maxHeartbeats 16000000 in
set_option maxRecDepth 100000 in
theorem rbookUntil.calls (g : Nat) (B : Bk) (hG : Good13 B) (A : Option Addr) (c : Nat) (ids : List SD) (now : Int) (W : World) (ok : Nat → Prop) (hP : (RBook g B).P ok W) (hC : k36.C W A ids.length ids) (hc : ids.length ≤ c) (hl : ids.length ≤ 1000) :
    Calls Tryd.prog 18 #[.pointer (some ⟨g, 0, none⟩), .slice A ids.length c, .int .i64 now] W fun e W' => e = .returned (.tuple #[.int .i64 (untilR B ids now).1, .int .i64 (untilR B ids now).2]) ∧ Below W.heap.size W W' := by
  obtain ⟨_, _, _, _, _, hc0, _⟩ := rbook_open hP
  have HC0 := Aside0.mk hc0
  have HC := Aside0.mk hC
  have HHD := Aside0.mk (rbookHeld.calls g B hG now W ok hP)
  have HLL := Aside0.mk (heldL_length hG now)
  have HAP := Aside0.mk (heldL_apart hG now)
  have hru : untilR B ids now = untilG (heldL B now) B.own (ids.drop 0) 1099511627776 := rfl
  obtain ⟨LL, eL⟩ : ∃ LL, heldL B now = LL := ⟨_, rfl⟩
  obtain ⟨o, eo⟩ : ∃ o, B.own = o := ⟨_, rfl⟩
  obtain ⟨R, eR⟩ : ∃ R, untilR B ids now = R := ⟨_, rfl⟩
  rw [eR, eL, eo] at hru
  rw [eL] at HHD HLL HAP
  rw [eo] at HC0
  rw [eR]
  have HRU := Aside0.mk hru
  clear hc0 hP hC hru eL eo eR hG
  obtain ⟨n, en⟩ : ∃ n, ids.length = n := ⟨_, rfl⟩
  rw [en] at HC hc hl ⊢
  have HEN := Aside0.mk en
  clear en
  have hu2 := Tryd.underlying36
  have hu3 := Tryd.underlying42
  go_enter Tryd.func18, Tryd.ntmps18
  go_wp2_with fail
  refine HHD.out.mono ?_
  rintro e wa ⟨v, rfl, hR, hB⟩
  obtain ⟨A9, c9, rfl, hc9, hC9⟩ := Kd.R_reads hR
  have HB := Aside0.mk hB
  have HC9 := Aside0.mk hC9
  have HCI := Aside0.mk (Kd.C_below HC.out hB)
  have HCO := Aside0.mk (pw_cell_below hB HC0.out)
  clear hR hC9 hB HC HC0 HHD
  obtain ⟨ln, eln⟩ : ∃ ln, LL.length = ln := ⟨_, rfl⟩
  have HLN := Aside0.mk eln
  rw [eln] at hc9 HC9 HLL ⊢
  clear eln
  have hln := HLL.out
  go_wp2_with fail
  go_loopw [8, 10] (fun s8 s10 wr => ∃ (j : Nat) (m : Int), j ≤ n ∧ s8 = .int .i64 m ∧ s10 = .int .i64 (j : Int) ∧ Aside0 (R = untilG LL o (ids.drop j) m) ∧ Aside0 (Below wa.heap.size wa wr)) (fun _ s10 _ => (n - (intOf s10).toNat))
  case atStart => exact ⟨0, _, by omega, rfl, rfl, HRU, ⟨Below.refl _ _⟩⟩
  case round =>
    obtain ⟨j, m, hj, rfl, rfl, HX, HBR⟩ := hrel
    clear HRU
    by_cases hlt : j < n
    · have b1 : decide ((j : Int) < (n : Int)) = true := decide_eq_true (by omega)
      have b2 : decide (j < n) = true := decide_eq_true hlt
      obtain ⟨ad, rfl, hx0, hx1⟩ := at_id (Kd.C_below HCI.out HBR.out) j hlt
      have hud := until_drop (L := LL) (own := o) (m := m) (show j < ids.length by rw [HEN.out]; exact hlt)
      obtain ⟨id, eid⟩ : ∃ id, ids.getD j default = id := ⟨_, rfl⟩
      rw [eid] at hx0 hx1 hud
      have HUD := Aside0.mk hud
      have HEI := Aside0.mk eid
      have HI0 := Aside0.mk hx0
      have HI1 := Aside0.mk hx1
      obtain ⟨w4, e4⟩ : ∃ w4, w4 = wr := ⟨_, rfl⟩
      clear hud eid
      by_cases ho : id.f0 = o
      · have hob : (id.f0 == o) = true := by simp [ho]
        rw [if_pos ho] at HUD
        clear ho
        go_wp2_with fail
        rw [← e4] at HBR HI0 HI1 ⊢
        clear hx0 hx1 e4
        obtain ⟨w5, e_w5⟩ : ∃ w_, w_ = World.drew w4 := ⟨_, rfl⟩
        have HBw5 := Aside0.mk (show Below (World.heap w4).size w4 w5 by rw [e_w5]; exact below_drew (Below.refl _ _))
        refine start_ (n := 10) (S := fun w' => w'.cell? (ad.add (j * 2)) = some (.int .i64 id.f0) ∧ w'.cell? ⟨g, 0, none⟩ = some (.int .i64 o)) (ds := []) #[false, false, false, false, false, false, false, false, false, false] (by kernel_rfl) rfl rfl ⟨(by rw [← e_w5]; exact (pw_cell_below HBw5.out HI0.out)), (by rw [← e_w5]; exact (pw_cell_below (below_step HBR.out HBw5.out) HCO.out))⟩ (fun hHeld => ?_)
        rw [← e_w5] at hHeld ⊢
        clear e_w5
        refine pure_ (i := 0) (N := some 22) (v := ?_) (a' := ?_) #[true, false, false, false, false, false, false, false, false, false] rfl rfl (by kernel_rfl) (fun _ _ _ h => h) (Or.inl ⟨by rfl, ?_⟩) ?_ ?_
        rotate_left
        · intro w'
          go_simp
          with_reducible rfl
        rotate_left
        · simp only [Act.put, List.setIfInBounds_toArray, List.set_cons_zero, List.set_cons_succ, i64_w, i32_w]
          rfl
        refine pure_ (i := 1) (N := some 23) (v := ?_) (a' := ?_) #[true, true, false, false, false, false, false, false, false, false] rfl rfl (by kernel_rfl) (fun _ _ _ h => h) (Or.inl ⟨by rfl, ?_⟩) ?_ ?_
        rotate_left
        · intro w'
          go_simp
          with_reducible rfl
        rotate_left
        · simp only [Act.put, List.setIfInBounds_toArray, List.set_cons_zero, List.set_cons_succ, i64_w, i32_w]
          rfl
        refine pure_ (i := 2) (N := some 24) (v := ?_) (a' := ?_) #[true, true, true, false, false, false, false, false, false, false] rfl rfl (by kernel_rfl) (fun _ _ _ h => h) (Or.inl ⟨by rfl, ?_⟩) ?_ ?_
        rotate_left
        · intro w'
          go_simp
          with_reducible rfl
        rotate_left
        · simp only [Act.put, List.setIfInBounds_toArray, List.set_cons_zero, List.set_cons_succ, i64_w, i32_w]
          rfl
        refine pure_ (i := 3) (N := some 25) (v := ?_) (a' := ?_) #[true, true, true, true, false, false, false, false, false, false] rfl rfl (by kernel_rfl) (fun _ _ _ h => h) (Or.inl ⟨by rfl, ?_⟩) ?_ ?_
        rotate_left
        · intro w'
          go_simp
          with_reducible rfl
        rotate_left
        · simp only [Act.put, List.setIfInBounds_toArray, List.set_cons_zero, List.set_cons_succ, i64_w, i32_w]
          rfl
        refine pure_ (i := 5) (N := some 27) (v := ?_) (a' := ?_) #[true, true, true, true, false, true, false, false, false, false] rfl rfl (by kernel_rfl) (fun _ _ _ h => h) (Or.inl ⟨by rfl, ?_⟩) ?_ ?_
        rotate_left
        · intro w'
          go_simp
          with_reducible rfl
        rotate_left
        · simp only [Act.put, List.setIfInBounds_toArray, List.set_cons_zero, List.set_cons_succ, i64_w, i32_w]
          rfl
        refine pure_ (i := 6) (N := some 28) (v := ?_) (a' := ?_) #[true, true, true, true, false, true, true, false, false, false] rfl rfl (by kernel_rfl) (fun _ _ _ h => h) (Or.inl ⟨by rfl, ?_⟩) ?_ ?_
        rotate_left
        · intro w'
          go_simp
          with_reducible rfl
        rotate_left
        · simp only [Act.put, List.setIfInBounds_toArray, List.set_cons_zero, List.set_cons_succ, i64_w, i32_w]
          rfl
        refine pure_ (i := 7) (N := some 29) (v := ?_) (a' := ?_) #[true, true, true, true, false, true, true, true, false, false] rfl rfl (by kernel_rfl) (fun _ _ _ h => h) (Or.inl ⟨by rfl, ?_⟩) ?_ ?_
        rotate_left
        · intro w'
          go_simp
          with_reducible rfl
        rotate_left
        · simp only [Act.put, List.setIfInBounds_toArray, List.set_cons_zero, List.set_cons_succ, i64_w, i32_w]
          rfl
        refine take_ (i := 4) (N := some 26) (v := ?_) (a' := ?_) #[true, true, true, true, true, true, true, true, false, false] rfl rfl (by kernel_rfl) (fun _ _ _ h => h) (Or.inl ⟨by rfl, ?_⟩) hHeld ?_ ?_
        rotate_left
        · rintro w' ⟨s0, s1⟩
          go_simp
          with_reducible rfl
        rotate_left
        · simp only [Act.put, List.setIfInBounds_toArray, List.set_cons_zero, List.set_cons_succ, i64_w, i32_w]
          rfl
        refine take_ (i := 8) (N := some 30) (v := ?_) (a' := ?_) #[true, true, true, true, true, true, true, true, true, false] rfl rfl (by kernel_rfl) (fun _ _ _ h => h) (Or.inl ⟨by rfl, ?_⟩) hHeld ?_ ?_
        rotate_left
        · rintro w' ⟨s0, s1⟩
          go_simp
          with_reducible rfl
        rotate_left
        · simp only [Act.put, List.setIfInBounds_toArray, List.set_cons_zero, List.set_cons_succ, i64_w, i32_w]
          rfl
        refine pure_ (i := 9) (N := some 31) (v := ?_) (a' := ?_) #[true, true, true, true, true, true, true, true, true, true] rfl rfl (by kernel_rfl) (fun _ _ _ h => h) (Or.inl ⟨by rfl, ?_⟩) ?_ ?_
        rotate_left
        · intro w'
          go_simp
          with_reducible rfl
        rotate_left
        · simp only [Act.put, List.setIfInBounds_toArray, List.set_cons_zero, List.set_cons_succ, i64_w, i32_w]
          rfl
        refine done_ (by kernel_rfl) ?_
        go_wp2_with fail
        go_roundw
        case rel => exact ⟨j + 1, m, by omega, rfl, by simp, ⟨HX.out.trans HUD.out⟩, ⟨below_step HBR.out HBw5.out⟩⟩
        case measure => simp [intOf]; omega
      · have hob : (id.f0 == o) = false := by simp [ho]
        rw [if_neg ho] at HUD
        clear ho
        go_wp2_with fail
        rw [← e4] at HBR HI0 HI1 ⊢
        clear hx0 hx1 e4
        obtain ⟨w5, e_w5⟩ : ∃ w_, w_ = World.drew w4 := ⟨_, rfl⟩
        have HBw5 := Aside0.mk (show Below (World.heap w4).size w4 w5 by rw [e_w5]; exact below_drew (Below.refl _ _))
        refine start_ (n := 10) (S := fun w' => w'.cell? (ad.add (j * 2)) = some (.int .i64 id.f0) ∧ w'.cell? ⟨g, 0, none⟩ = some (.int .i64 o)) (ds := []) #[false, false, false, false, false, false, false, false, false, false] (by kernel_rfl) rfl rfl ⟨(by rw [← e_w5]; exact (pw_cell_below HBw5.out HI0.out)), (by rw [← e_w5]; exact (pw_cell_below (below_step HBR.out HBw5.out) HCO.out))⟩ (fun hHeld => ?_)
        rw [← e_w5] at hHeld ⊢
        clear e_w5
        refine pure_ (i := 0) (N := some 22) (v := ?_) (a' := ?_) #[true, false, false, false, false, false, false, false, false, false] rfl rfl (by kernel_rfl) (fun _ _ _ h => h) (Or.inl ⟨by rfl, ?_⟩) ?_ ?_
        rotate_left
        · intro w'
          go_simp
          with_reducible rfl
        rotate_left
        · simp only [Act.put, List.setIfInBounds_toArray, List.set_cons_zero, List.set_cons_succ, i64_w, i32_w]
          rfl
        refine pure_ (i := 1) (N := some 23) (v := ?_) (a' := ?_) #[true, true, false, false, false, false, false, false, false, false] rfl rfl (by kernel_rfl) (fun _ _ _ h => h) (Or.inl ⟨by rfl, ?_⟩) ?_ ?_
        rotate_left
        · intro w'
          go_simp
          with_reducible rfl
        rotate_left
        · simp only [Act.put, List.setIfInBounds_toArray, List.set_cons_zero, List.set_cons_succ, i64_w, i32_w]
          rfl
        refine pure_ (i := 2) (N := some 24) (v := ?_) (a' := ?_) #[true, true, true, false, false, false, false, false, false, false] rfl rfl (by kernel_rfl) (fun _ _ _ h => h) (Or.inl ⟨by rfl, ?_⟩) ?_ ?_
        rotate_left
        · intro w'
          go_simp
          with_reducible rfl
        rotate_left
        · simp only [Act.put, List.setIfInBounds_toArray, List.set_cons_zero, List.set_cons_succ, i64_w, i32_w]
          rfl
        refine pure_ (i := 3) (N := some 25) (v := ?_) (a' := ?_) #[true, true, true, true, false, false, false, false, false, false] rfl rfl (by kernel_rfl) (fun _ _ _ h => h) (Or.inl ⟨by rfl, ?_⟩) ?_ ?_
        rotate_left
        · intro w'
          go_simp
          with_reducible rfl
        rotate_left
        · simp only [Act.put, List.setIfInBounds_toArray, List.set_cons_zero, List.set_cons_succ, i64_w, i32_w]
          rfl
        refine pure_ (i := 5) (N := some 27) (v := ?_) (a' := ?_) #[true, true, true, true, false, true, false, false, false, false] rfl rfl (by kernel_rfl) (fun _ _ _ h => h) (Or.inl ⟨by rfl, ?_⟩) ?_ ?_
        rotate_left
        · intro w'
          go_simp
          with_reducible rfl
        rotate_left
        · simp only [Act.put, List.setIfInBounds_toArray, List.set_cons_zero, List.set_cons_succ, i64_w, i32_w]
          rfl
        refine pure_ (i := 6) (N := some 28) (v := ?_) (a' := ?_) #[true, true, true, true, false, true, true, false, false, false] rfl rfl (by kernel_rfl) (fun _ _ _ h => h) (Or.inl ⟨by rfl, ?_⟩) ?_ ?_
        rotate_left
        · intro w'
          go_simp
          with_reducible rfl
        rotate_left
        · simp only [Act.put, List.setIfInBounds_toArray, List.set_cons_zero, List.set_cons_succ, i64_w, i32_w]
          rfl
        refine pure_ (i := 7) (N := some 29) (v := ?_) (a' := ?_) #[true, true, true, true, false, true, true, true, false, false] rfl rfl (by kernel_rfl) (fun _ _ _ h => h) (Or.inl ⟨by rfl, ?_⟩) ?_ ?_
        rotate_left
        · intro w'
          go_simp
          with_reducible rfl
        rotate_left
        · simp only [Act.put, List.setIfInBounds_toArray, List.set_cons_zero, List.set_cons_succ, i64_w, i32_w]
          rfl
        refine take_ (i := 4) (N := some 26) (v := ?_) (a' := ?_) #[true, true, true, true, true, true, true, true, false, false] rfl rfl (by kernel_rfl) (fun _ _ _ h => h) (Or.inl ⟨by rfl, ?_⟩) hHeld ?_ ?_
        rotate_left
        · rintro w' ⟨s0, s1⟩
          go_simp
          with_reducible rfl
        rotate_left
        · simp only [Act.put, List.setIfInBounds_toArray, List.set_cons_zero, List.set_cons_succ, i64_w, i32_w]
          rfl
        refine take_ (i := 8) (N := some 30) (v := ?_) (a' := ?_) #[true, true, true, true, true, true, true, true, true, false] rfl rfl (by kernel_rfl) (fun _ _ _ h => h) (Or.inl ⟨by rfl, ?_⟩) hHeld ?_ ?_
        rotate_left
        · rintro w' ⟨s0, s1⟩
          go_simp
          with_reducible rfl
        rotate_left
        · simp only [Act.put, List.setIfInBounds_toArray, List.set_cons_zero, List.set_cons_succ, i64_w, i32_w]
          rfl
        refine pure_ (i := 9) (N := some 31) (v := ?_) (a' := ?_) #[true, true, true, true, true, true, true, true, true, true] rfl rfl (by kernel_rfl) (fun _ _ _ h => h) (Or.inl ⟨by rfl, ?_⟩) ?_ ?_
        rotate_left
        · intro w'
          go_simp
          with_reducible rfl
        rotate_left
        · simp only [Act.put, List.setIfInBounds_toArray, List.set_cons_zero, List.set_cons_succ, i64_w, i32_w]
          rfl
        refine done_ (by kernel_rfl) ?_
        have HB5 := Aside0.mk (below_step HBR.out HBw5.out)
        have HJ0 := Aside0.mk (pw_cell_below HBw5.out HI0.out)
        have HJ1 := Aside0.mk (pw_cell_below HBw5.out HI1.out)
        have HFO := Aside0.mk (stepU_once id m LL HAP.out)
        have HLJ := Aside0.mk hlt
        clear HI0 HI1 HBR HBw5 hob
        go_wp2_with fail
        obtain ⟨wb, rfl⟩ : ∃ x : World, x = w5 := ⟨_, rfl⟩
        go_loopw [8, 11, 12] (fun s8 s11 s12 wr => ∃ (i : Nat) (p : Bool × Int), i ≤ ln ∧ s8 = .int .i64 p.2 ∧ s11 = .bool p.1 ∧ s12 = .int .i64 (i : Int) ∧ Aside0 ((LL.drop i).foldl (stepU id) p = LL.foldl (stepU id) (false, m)) ∧ Aside0 (Below wb.heap.size wb wr)) (fun _ _ s12 _ => (ln - (intOf s12).toNat))
        case atStart => exact ⟨0, (false, m), by omega, rfl, rfl, rfl, ⟨rfl⟩, ⟨Below.refl _ _⟩⟩
        case round =>
          obtain ⟨i, ⟨th, mm⟩, hi, rfl, rfl, rfl, HY, HBY⟩ := hrel
          by_cases hil : i < ln
          · have b3 : decide ((i : Int) < (ln : Int)) = true := decide_eq_true (by omega)
            have b4 : decide (i < ln) = true := decide_eq_true hil
            obtain ⟨ad9, rfl, hy⟩ := at_held (Kd.C_below HC9.out (below_step HB5.out HBY.out)) i hil
            have hfd := foldl_drop (f := stepU id) (p := (th, mm)) (show i < LL.length by rw [HLN.out]; exact hil)
            obtain ⟨h, eh⟩ : ∃ h, LL.getD i default = h := ⟨_, rfl⟩
            rw [eh] at hy hfd
            have HY0 := Aside0.mk hy.1
            have HY1 := Aside0.mk hy.2.1
            have HY9 := Aside0.mk hy.2.2.2.2.2.2.2.2.2
            have HK0 := Aside0.mk (pw_cell_below HBY.out HJ0.out)
            have HK1 := Aside0.mk (pw_cell_below HBY.out HJ1.out)
            clear eh hy
            obtain ⟨w6, e6⟩ : ∃ w6, w6 = wr := ⟨_, rfl⟩
            cases e1 : (h.f0.f0.f0 == id.f0) with
            | false =>
              have hst : stepU id (th, mm) h = (th, mm) := by unfold stepU isD; rw [e1]; rfl
              rw [hst] at hfd
              have HFD := Aside0.mk hfd
              clear hfd hst
              cases e2 : (h.f0.f0.f1 == id.f1)
              all_goals
                go_wp2_with fail
                rw [← e6] at HBY HY0 HY1 HY9 HK0 HK1 ⊢
                clear e6
                obtain ⟨w7, e_w7⟩ : ∃ w_, w_ = World.drew w6 := ⟨_, rfl⟩
                have HBw7 := Aside0.mk (show Below (World.heap w6).size w6 w7 by rw [e_w7]; exact below_drew (Below.refl _ _))
                refine start_ (n := 11) (S := fun w' => w'.cell? (ad9.add (i * 10)) = some (.int .i64 h.f0.f0.f0) ∧ w'.cell? ⟨(ad9.add (i * 10)).block, (ad9.add (i * 10)).off + 1, none⟩ = some (.int .i64 h.f0.f0.f1) ∧ w'.cell? (ad.add (j * 2)) = some (.int .i64 id.f0) ∧ w'.cell? ⟨(ad.add (j * 2)).block, (ad.add (j * 2)).off + 1, none⟩ = some (.int .i64 id.f1)) (ds := []) #[false, false, false, false, false, false, false, false, false, false, false] (by kernel_rfl) rfl rfl ⟨(by rw [← e_w7]; exact (pw_cell_below HBw7.out HY0.out)), (by rw [← e_w7]; exact (pw_cell_below HBw7.out HY1.out)), (by rw [← e_w7]; exact (pw_cell_below HBw7.out HK0.out)), (by rw [← e_w7]; exact (pw_cell_below HBw7.out HK1.out))⟩ (fun hHeld => ?_)
                rw [← e_w7] at hHeld ⊢
                clear e_w7
                refine pure_ (i := 0) (N := some 38) (v := ?_) (a' := ?_) #[true, false, false, false, false, false, false, false, false, false, false] rfl rfl (by kernel_rfl) (fun _ _ _ h => h) (Or.inl ⟨by rfl, ?_⟩) ?_ ?_
                rotate_left
                · intro w'
                  go_simp
                  with_reducible rfl
                rotate_left
                · simp only [Act.put, List.setIfInBounds_toArray, List.set_cons_zero, List.set_cons_succ, i64_w, i32_w]
                  rfl
                refine pure_ (i := 1) (N := some 39) (v := ?_) (a' := ?_) #[true, true, false, false, false, false, false, false, false, false, false] rfl rfl (by kernel_rfl) (fun _ _ _ h => h) (Or.inl ⟨by rfl, ?_⟩) ?_ ?_
                rotate_left
                · intro w'
                  go_simp
                  with_reducible rfl
                rotate_left
                · simp only [Act.put, List.setIfInBounds_toArray, List.set_cons_zero, List.set_cons_succ, i64_w, i32_w]
                  rfl
                refine pure_ (i := 2) (N := some 40) (v := ?_) (a' := ?_) #[true, true, true, false, false, false, false, false, false, false, false] rfl rfl (by kernel_rfl) (fun _ _ _ h => h) (Or.inl ⟨by rfl, ?_⟩) ?_ ?_
                rotate_left
                · intro w'
                  go_simp
                  with_reducible rfl
                rotate_left
                · simp only [Act.put, List.setIfInBounds_toArray, List.set_cons_zero, List.set_cons_succ, i64_w, i32_w]
                  rfl
                refine pure_ (i := 3) (N := some 41) (v := ?_) (a' := ?_) #[true, true, true, true, false, false, false, false, false, false, false] rfl rfl (by kernel_rfl) (fun _ _ _ h => h) (Or.inl ⟨by rfl, ?_⟩) ?_ ?_
                rotate_left
                · intro w'
                  go_simp
                  with_reducible rfl
                rotate_left
                · simp only [Act.put, List.setIfInBounds_toArray, List.set_cons_zero, List.set_cons_succ, i64_w, i32_w]
                  rfl
                refine pure_ (i := 4) (N := some 42) (v := ?_) (a' := ?_) #[true, true, true, true, true, false, false, false, false, false, false] rfl rfl (by kernel_rfl) (fun _ _ _ h => h) (Or.inl ⟨by rfl, ?_⟩) ?_ ?_
                rotate_left
                · intro w'
                  go_simp
                  with_reducible rfl
                rotate_left
                · simp only [Act.put, List.setIfInBounds_toArray, List.set_cons_zero, List.set_cons_succ, i64_w, i32_w]
                  rfl
                refine pure_ (i := 6) (N := some 44) (v := ?_) (a' := ?_) #[true, true, true, true, true, false, true, false, false, false, false] rfl rfl (by kernel_rfl) (fun _ _ _ h => h) (Or.inl ⟨by rfl, ?_⟩) ?_ ?_
                rotate_left
                · intro w'
                  go_simp
                  with_reducible rfl
                rotate_left
                · simp only [Act.put, List.setIfInBounds_toArray, List.set_cons_zero, List.set_cons_succ, i64_w, i32_w]
                  rfl
                refine pure_ (i := 7) (N := some 45) (v := ?_) (a' := ?_) #[true, true, true, true, true, false, true, true, false, false, false] rfl rfl (by kernel_rfl) (fun _ _ _ h => h) (Or.inl ⟨by rfl, ?_⟩) ?_ ?_
                rotate_left
                · intro w'
                  go_simp
                  with_reducible rfl
                rotate_left
                · simp only [Act.put, List.setIfInBounds_toArray, List.set_cons_zero, List.set_cons_succ, i64_w, i32_w]
                  rfl
                refine pure_ (i := 8) (N := some 46) (v := ?_) (a' := ?_) #[true, true, true, true, true, false, true, true, true, false, false] rfl rfl (by kernel_rfl) (fun _ _ _ h => h) (Or.inl ⟨by rfl, ?_⟩) ?_ ?_
                rotate_left
                · intro w'
                  go_simp
                  with_reducible rfl
                rotate_left
                · simp only [Act.put, List.setIfInBounds_toArray, List.set_cons_zero, List.set_cons_succ, i64_w, i32_w]
                  rfl
                refine take_ (i := 5) (N := some 43) (v := ?_) (a' := ?_) #[true, true, true, true, true, true, true, true, true, false, false] rfl rfl (by kernel_rfl) (fun _ _ _ h => h) (Or.inl ⟨by rfl, ?_⟩) hHeld ?_ ?_
                rotate_left
                · rintro w' ⟨s0, s1, s2, s3⟩
                  go_simp
                  with_reducible rfl
                rotate_left
                · simp only [Act.put, List.setIfInBounds_toArray, List.set_cons_zero, List.set_cons_succ, i64_w, i32_w]
                  rfl
                refine take_ (i := 9) (N := some 47) (v := ?_) (a' := ?_) #[true, true, true, true, true, true, true, true, true, true, false] rfl rfl (by kernel_rfl) (fun _ _ _ h => h) (Or.inl ⟨by rfl, ?_⟩) hHeld ?_ ?_
                rotate_left
                · rintro w' ⟨s0, s1, s2, s3⟩
                  go_simp
                  with_reducible rfl
                rotate_left
                · simp only [Act.put, List.setIfInBounds_toArray, List.set_cons_zero, List.set_cons_succ, i64_w, i32_w]
                  rfl
                refine pure_ (i := 10) (N := some 48) (v := ?_) (a' := ?_) #[true, true, true, true, true, true, true, true, true, true, true] rfl rfl (by kernel_rfl) (fun _ _ _ h => h) (Or.inl ⟨by rfl, ?_⟩) ?_ ?_
                rotate_left
                · intro w'
                  go_simp
                  with_reducible rfl
                rotate_left
                · simp only [Act.put, List.setIfInBounds_toArray, List.set_cons_zero, List.set_cons_succ, i64_w, i32_w]
                  rfl
                refine done_ (by kernel_rfl) ?_
                go_wp2_with fail
                go_roundw
                case rel => exact ⟨i + 1, (th, mm), by omega, rfl, rfl, by simp, ⟨HFD.out.symm.trans HY.out⟩, ⟨below_step HBY.out HBw7.out⟩⟩
                case measure => simp [intOf]; omega
            | true =>
              cases e2 : (h.f0.f0.f1 == id.f1) with
              | false =>
                have hst : stepU id (th, mm) h = (th, mm) := by unfold stepU isD; rw [e1, e2]; rfl
                rw [hst] at hfd
                have HFD := Aside0.mk hfd
                clear hfd hst
                go_wp2_with fail
                rw [← e6] at HBY HY0 HY1 HY9 HK0 HK1 ⊢
                clear e6
                obtain ⟨w7, e_w7⟩ : ∃ w_, w_ = World.drew w6 := ⟨_, rfl⟩
                have HBw7 := Aside0.mk (show Below (World.heap w6).size w6 w7 by rw [e_w7]; exact below_drew (Below.refl _ _))
                refine start_ (n := 11) (S := fun w' => w'.cell? (ad9.add (i * 10)) = some (.int .i64 h.f0.f0.f0) ∧ w'.cell? ⟨(ad9.add (i * 10)).block, (ad9.add (i * 10)).off + 1, none⟩ = some (.int .i64 h.f0.f0.f1) ∧ w'.cell? (ad.add (j * 2)) = some (.int .i64 id.f0) ∧ w'.cell? ⟨(ad.add (j * 2)).block, (ad.add (j * 2)).off + 1, none⟩ = some (.int .i64 id.f1)) (ds := []) #[false, false, false, false, false, false, false, false, false, false, false] (by kernel_rfl) rfl rfl ⟨(by rw [← e_w7]; exact (pw_cell_below HBw7.out HY0.out)), (by rw [← e_w7]; exact (pw_cell_below HBw7.out HY1.out)), (by rw [← e_w7]; exact (pw_cell_below HBw7.out HK0.out)), (by rw [← e_w7]; exact (pw_cell_below HBw7.out HK1.out))⟩ (fun hHeld => ?_)
                rw [← e_w7] at hHeld ⊢
                clear e_w7
                refine pure_ (i := 0) (N := some 38) (v := ?_) (a' := ?_) #[true, false, false, false, false, false, false, false, false, false, false] rfl rfl (by kernel_rfl) (fun _ _ _ h => h) (Or.inl ⟨by rfl, ?_⟩) ?_ ?_
                rotate_left
                · intro w'
                  go_simp
                  with_reducible rfl
                rotate_left
                · simp only [Act.put, List.setIfInBounds_toArray, List.set_cons_zero, List.set_cons_succ, i64_w, i32_w]
                  rfl
                refine pure_ (i := 1) (N := some 39) (v := ?_) (a' := ?_) #[true, true, false, false, false, false, false, false, false, false, false] rfl rfl (by kernel_rfl) (fun _ _ _ h => h) (Or.inl ⟨by rfl, ?_⟩) ?_ ?_
                rotate_left
                · intro w'
                  go_simp
                  with_reducible rfl
                rotate_left
                · simp only [Act.put, List.setIfInBounds_toArray, List.set_cons_zero, List.set_cons_succ, i64_w, i32_w]
                  rfl
                refine pure_ (i := 2) (N := some 40) (v := ?_) (a' := ?_) #[true, true, true, false, false, false, false, false, false, false, false] rfl rfl (by kernel_rfl) (fun _ _ _ h => h) (Or.inl ⟨by rfl, ?_⟩) ?_ ?_
                rotate_left
                · intro w'
                  go_simp
                  with_reducible rfl
                rotate_left
                · simp only [Act.put, List.setIfInBounds_toArray, List.set_cons_zero, List.set_cons_succ, i64_w, i32_w]
                  rfl
                refine pure_ (i := 3) (N := some 41) (v := ?_) (a' := ?_) #[true, true, true, true, false, false, false, false, false, false, false] rfl rfl (by kernel_rfl) (fun _ _ _ h => h) (Or.inl ⟨by rfl, ?_⟩) ?_ ?_
                rotate_left
                · intro w'
                  go_simp
                  with_reducible rfl
                rotate_left
                · simp only [Act.put, List.setIfInBounds_toArray, List.set_cons_zero, List.set_cons_succ, i64_w, i32_w]
                  rfl
                refine pure_ (i := 4) (N := some 42) (v := ?_) (a' := ?_) #[true, true, true, true, true, false, false, false, false, false, false] rfl rfl (by kernel_rfl) (fun _ _ _ h => h) (Or.inl ⟨by rfl, ?_⟩) ?_ ?_
                rotate_left
                · intro w'
                  go_simp
                  with_reducible rfl
                rotate_left
                · simp only [Act.put, List.setIfInBounds_toArray, List.set_cons_zero, List.set_cons_succ, i64_w, i32_w]
                  rfl
                refine pure_ (i := 6) (N := some 44) (v := ?_) (a' := ?_) #[true, true, true, true, true, false, true, false, false, false, false] rfl rfl (by kernel_rfl) (fun _ _ _ h => h) (Or.inl ⟨by rfl, ?_⟩) ?_ ?_
                rotate_left
                · intro w'
                  go_simp
                  with_reducible rfl
                rotate_left
                · simp only [Act.put, List.setIfInBounds_toArray, List.set_cons_zero, List.set_cons_succ, i64_w, i32_w]
                  rfl
                refine pure_ (i := 7) (N := some 45) (v := ?_) (a' := ?_) #[true, true, true, true, true, false, true, true, false, false, false] rfl rfl (by kernel_rfl) (fun _ _ _ h => h) (Or.inl ⟨by rfl, ?_⟩) ?_ ?_
                rotate_left
                · intro w'
                  go_simp
                  with_reducible rfl
                rotate_left
                · simp only [Act.put, List.setIfInBounds_toArray, List.set_cons_zero, List.set_cons_succ, i64_w, i32_w]
                  rfl
                refine pure_ (i := 8) (N := some 46) (v := ?_) (a' := ?_) #[true, true, true, true, true, false, true, true, true, false, false] rfl rfl (by kernel_rfl) (fun _ _ _ h => h) (Or.inl ⟨by rfl, ?_⟩) ?_ ?_
                rotate_left
                · intro w'
                  go_simp
                  with_reducible rfl
                rotate_left
                · simp only [Act.put, List.setIfInBounds_toArray, List.set_cons_zero, List.set_cons_succ, i64_w, i32_w]
                  rfl
                refine take_ (i := 5) (N := some 43) (v := ?_) (a' := ?_) #[true, true, true, true, true, true, true, true, true, false, false] rfl rfl (by kernel_rfl) (fun _ _ _ h => h) (Or.inl ⟨by rfl, ?_⟩) hHeld ?_ ?_
                rotate_left
                · rintro w' ⟨s0, s1, s2, s3⟩
                  go_simp
                  with_reducible rfl
                rotate_left
                · simp only [Act.put, List.setIfInBounds_toArray, List.set_cons_zero, List.set_cons_succ, i64_w, i32_w]
                  rfl
                refine take_ (i := 9) (N := some 47) (v := ?_) (a' := ?_) #[true, true, true, true, true, true, true, true, true, true, false] rfl rfl (by kernel_rfl) (fun _ _ _ h => h) (Or.inl ⟨by rfl, ?_⟩) hHeld ?_ ?_
                rotate_left
                · rintro w' ⟨s0, s1, s2, s3⟩
                  go_simp
                  with_reducible rfl
                rotate_left
                · simp only [Act.put, List.setIfInBounds_toArray, List.set_cons_zero, List.set_cons_succ, i64_w, i32_w]
                  rfl
                refine pure_ (i := 10) (N := some 48) (v := ?_) (a' := ?_) #[true, true, true, true, true, true, true, true, true, true, true] rfl rfl (by kernel_rfl) (fun _ _ _ h => h) (Or.inl ⟨by rfl, ?_⟩) ?_ ?_
                rotate_left
                · intro w'
                  go_simp
                  with_reducible rfl
                rotate_left
                · simp only [Act.put, List.setIfInBounds_toArray, List.set_cons_zero, List.set_cons_succ, i64_w, i32_w]
                  rfl
                refine done_ (by kernel_rfl) ?_
                go_wp2_with fail
                go_roundw
                case rel => exact ⟨i + 1, (th, mm), by omega, rfl, rfl, by simp, ⟨HFD.out.symm.trans HY.out⟩, ⟨below_step HBY.out HBw7.out⟩⟩
                case measure => simp [intOf]; omega
              | true =>
                have hst : stepU id (th, mm) h = (true, if h.f1 < mm then h.f1 else mm) := by unfold stepU isD; rw [e1, e2]; rfl
                rw [hst] at hfd
                have HFD := Aside0.mk hfd
                clear hfd hst
                by_cases hm : h.f1 < mm
                · have hmb : decide (h.f1 < mm) = true := decide_eq_true hm
                  rw [if_pos hm] at HFD
                  clear hm
                  go_wp2_with fail
                  rw [← e6] at HBY HY0 HY1 HY9 HK0 HK1 ⊢
                  clear e6
                  obtain ⟨w7, e_w7⟩ : ∃ w_, w_ = World.drew w6 := ⟨_, rfl⟩
                  have HBw7 := Aside0.mk (show Below (World.heap w6).size w6 w7 by rw [e_w7]; exact below_drew (Below.refl _ _))
                  refine start_ (n := 11) (S := fun w' => w'.cell? (ad9.add (i * 10)) = some (.int .i64 h.f0.f0.f0) ∧ w'.cell? ⟨(ad9.add (i * 10)).block, (ad9.add (i * 10)).off + 1, none⟩ = some (.int .i64 h.f0.f0.f1) ∧ w'.cell? (ad.add (j * 2)) = some (.int .i64 id.f0) ∧ w'.cell? ⟨(ad.add (j * 2)).block, (ad.add (j * 2)).off + 1, none⟩ = some (.int .i64 id.f1)) (ds := []) #[false, false, false, false, false, false, false, false, false, false, false] (by kernel_rfl) rfl rfl ⟨(by rw [← e_w7]; exact (pw_cell_below HBw7.out HY0.out)), (by rw [← e_w7]; exact (pw_cell_below HBw7.out HY1.out)), (by rw [← e_w7]; exact (pw_cell_below HBw7.out HK0.out)), (by rw [← e_w7]; exact (pw_cell_below HBw7.out HK1.out))⟩ (fun hHeld => ?_)
                  rw [← e_w7] at hHeld ⊢
                  clear e_w7
                  refine pure_ (i := 0) (N := some 38) (v := ?_) (a' := ?_) #[true, false, false, false, false, false, false, false, false, false, false] rfl rfl (by kernel_rfl) (fun _ _ _ h => h) (Or.inl ⟨by rfl, ?_⟩) ?_ ?_
                  rotate_left
                  · intro w'
                    go_simp
                    with_reducible rfl
                  rotate_left
                  · simp only [Act.put, List.setIfInBounds_toArray, List.set_cons_zero, List.set_cons_succ, i64_w, i32_w]
                    rfl
                  refine pure_ (i := 1) (N := some 39) (v := ?_) (a' := ?_) #[true, true, false, false, false, false, false, false, false, false, false] rfl rfl (by kernel_rfl) (fun _ _ _ h => h) (Or.inl ⟨by rfl, ?_⟩) ?_ ?_
                  rotate_left
                  · intro w'
                    go_simp
                    with_reducible rfl
                  rotate_left
                  · simp only [Act.put, List.setIfInBounds_toArray, List.set_cons_zero, List.set_cons_succ, i64_w, i32_w]
                    rfl
                  refine pure_ (i := 2) (N := some 40) (v := ?_) (a' := ?_) #[true, true, true, false, false, false, false, false, false, false, false] rfl rfl (by kernel_rfl) (fun _ _ _ h => h) (Or.inl ⟨by rfl, ?_⟩) ?_ ?_
                  rotate_left
                  · intro w'
                    go_simp
                    with_reducible rfl
                  rotate_left
                  · simp only [Act.put, List.setIfInBounds_toArray, List.set_cons_zero, List.set_cons_succ, i64_w, i32_w]
                    rfl
                  refine pure_ (i := 3) (N := some 41) (v := ?_) (a' := ?_) #[true, true, true, true, false, false, false, false, false, false, false] rfl rfl (by kernel_rfl) (fun _ _ _ h => h) (Or.inl ⟨by rfl, ?_⟩) ?_ ?_
                  rotate_left
                  · intro w'
                    go_simp
                    with_reducible rfl
                  rotate_left
                  · simp only [Act.put, List.setIfInBounds_toArray, List.set_cons_zero, List.set_cons_succ, i64_w, i32_w]
                    rfl
                  refine pure_ (i := 4) (N := some 42) (v := ?_) (a' := ?_) #[true, true, true, true, true, false, false, false, false, false, false] rfl rfl (by kernel_rfl) (fun _ _ _ h => h) (Or.inl ⟨by rfl, ?_⟩) ?_ ?_
                  rotate_left
                  · intro w'
                    go_simp
                    with_reducible rfl
                  rotate_left
                  · simp only [Act.put, List.setIfInBounds_toArray, List.set_cons_zero, List.set_cons_succ, i64_w, i32_w]
                    rfl
                  refine pure_ (i := 6) (N := some 44) (v := ?_) (a' := ?_) #[true, true, true, true, true, false, true, false, false, false, false] rfl rfl (by kernel_rfl) (fun _ _ _ h => h) (Or.inl ⟨by rfl, ?_⟩) ?_ ?_
                  rotate_left
                  · intro w'
                    go_simp
                    with_reducible rfl
                  rotate_left
                  · simp only [Act.put, List.setIfInBounds_toArray, List.set_cons_zero, List.set_cons_succ, i64_w, i32_w]
                    rfl
                  refine pure_ (i := 7) (N := some 45) (v := ?_) (a' := ?_) #[true, true, true, true, true, false, true, true, false, false, false] rfl rfl (by kernel_rfl) (fun _ _ _ h => h) (Or.inl ⟨by rfl, ?_⟩) ?_ ?_
                  rotate_left
                  · intro w'
                    go_simp
                    with_reducible rfl
                  rotate_left
                  · simp only [Act.put, List.setIfInBounds_toArray, List.set_cons_zero, List.set_cons_succ, i64_w, i32_w]
                    rfl
                  refine pure_ (i := 8) (N := some 46) (v := ?_) (a' := ?_) #[true, true, true, true, true, false, true, true, true, false, false] rfl rfl (by kernel_rfl) (fun _ _ _ h => h) (Or.inl ⟨by rfl, ?_⟩) ?_ ?_
                  rotate_left
                  · intro w'
                    go_simp
                    with_reducible rfl
                  rotate_left
                  · simp only [Act.put, List.setIfInBounds_toArray, List.set_cons_zero, List.set_cons_succ, i64_w, i32_w]
                    rfl
                  refine take_ (i := 5) (N := some 43) (v := ?_) (a' := ?_) #[true, true, true, true, true, true, true, true, true, false, false] rfl rfl (by kernel_rfl) (fun _ _ _ h => h) (Or.inl ⟨by rfl, ?_⟩) hHeld ?_ ?_
                  rotate_left
                  · rintro w' ⟨s0, s1, s2, s3⟩
                    go_simp
                    with_reducible rfl
                  rotate_left
                  · simp only [Act.put, List.setIfInBounds_toArray, List.set_cons_zero, List.set_cons_succ, i64_w, i32_w]
                    rfl
                  refine take_ (i := 9) (N := some 47) (v := ?_) (a' := ?_) #[true, true, true, true, true, true, true, true, true, true, false] rfl rfl (by kernel_rfl) (fun _ _ _ h => h) (Or.inl ⟨by rfl, ?_⟩) hHeld ?_ ?_
                  rotate_left
                  · rintro w' ⟨s0, s1, s2, s3⟩
                    go_simp
                    with_reducible rfl
                  rotate_left
                  · simp only [Act.put, List.setIfInBounds_toArray, List.set_cons_zero, List.set_cons_succ, i64_w, i32_w]
                    rfl
                  refine pure_ (i := 10) (N := some 48) (v := ?_) (a' := ?_) #[true, true, true, true, true, true, true, true, true, true, true] rfl rfl (by kernel_rfl) (fun _ _ _ h => h) (Or.inl ⟨by rfl, ?_⟩) ?_ ?_
                  rotate_left
                  · intro w'
                    go_simp
                    with_reducible rfl
                  rotate_left
                  · simp only [Act.put, List.setIfInBounds_toArray, List.set_cons_zero, List.set_cons_succ, i64_w, i32_w]
                    rfl
                  refine done_ (by kernel_rfl) ?_
                  have hy9 := pw_cell_below HBw7.out HY9.out
                  go_wp2_with fail
                  go_roundw
                  case rel => exact ⟨i + 1, (true, h.f1), by omega, rfl, rfl, by simp, ⟨HFD.out.symm.trans HY.out⟩, ⟨below_step HBY.out HBw7.out⟩⟩
                  case measure => simp [intOf]; omega
                · have hmb : decide (h.f1 < mm) = false := decide_eq_false hm
                  rw [if_neg hm] at HFD
                  clear hm
                  go_wp2_with fail
                  rw [← e6] at HBY HY0 HY1 HY9 HK0 HK1 ⊢
                  clear e6
                  obtain ⟨w7, e_w7⟩ : ∃ w_, w_ = World.drew w6 := ⟨_, rfl⟩
                  have HBw7 := Aside0.mk (show Below (World.heap w6).size w6 w7 by rw [e_w7]; exact below_drew (Below.refl _ _))
                  refine start_ (n := 11) (S := fun w' => w'.cell? (ad9.add (i * 10)) = some (.int .i64 h.f0.f0.f0) ∧ w'.cell? ⟨(ad9.add (i * 10)).block, (ad9.add (i * 10)).off + 1, none⟩ = some (.int .i64 h.f0.f0.f1) ∧ w'.cell? (ad.add (j * 2)) = some (.int .i64 id.f0) ∧ w'.cell? ⟨(ad.add (j * 2)).block, (ad.add (j * 2)).off + 1, none⟩ = some (.int .i64 id.f1)) (ds := []) #[false, false, false, false, false, false, false, false, false, false, false] (by kernel_rfl) rfl rfl ⟨(by rw [← e_w7]; exact (pw_cell_below HBw7.out HY0.out)), (by rw [← e_w7]; exact (pw_cell_below HBw7.out HY1.out)), (by rw [← e_w7]; exact (pw_cell_below HBw7.out HK0.out)), (by rw [← e_w7]; exact (pw_cell_below HBw7.out HK1.out))⟩ (fun hHeld => ?_)
                  rw [← e_w7] at hHeld ⊢
                  clear e_w7
                  refine pure_ (i := 0) (N := some 38) (v := ?_) (a' := ?_) #[true, false, false, false, false, false, false, false, false, false, false] rfl rfl (by kernel_rfl) (fun _ _ _ h => h) (Or.inl ⟨by rfl, ?_⟩) ?_ ?_
                  rotate_left
                  · intro w'
                    go_simp
                    with_reducible rfl
                  rotate_left
                  · simp only [Act.put, List.setIfInBounds_toArray, List.set_cons_zero, List.set_cons_succ, i64_w, i32_w]
                    rfl
                  refine pure_ (i := 1) (N := some 39) (v := ?_) (a' := ?_) #[true, true, false, false, false, false, false, false, false, false, false] rfl rfl (by kernel_rfl) (fun _ _ _ h => h) (Or.inl ⟨by rfl, ?_⟩) ?_ ?_
                  rotate_left
                  · intro w'
                    go_simp
                    with_reducible rfl
                  rotate_left
                  · simp only [Act.put, List.setIfInBounds_toArray, List.set_cons_zero, List.set_cons_succ, i64_w, i32_w]
                    rfl
                  refine pure_ (i := 2) (N := some 40) (v := ?_) (a' := ?_) #[true, true, true, false, false, false, false, false, false, false, false] rfl rfl (by kernel_rfl) (fun _ _ _ h => h) (Or.inl ⟨by rfl, ?_⟩) ?_ ?_
                  rotate_left
                  · intro w'
                    go_simp
                    with_reducible rfl
                  rotate_left
                  · simp only [Act.put, List.setIfInBounds_toArray, List.set_cons_zero, List.set_cons_succ, i64_w, i32_w]
                    rfl
                  refine pure_ (i := 3) (N := some 41) (v := ?_) (a' := ?_) #[true, true, true, true, false, false, false, false, false, false, false] rfl rfl (by kernel_rfl) (fun _ _ _ h => h) (Or.inl ⟨by rfl, ?_⟩) ?_ ?_
                  rotate_left
                  · intro w'
                    go_simp
                    with_reducible rfl
                  rotate_left
                  · simp only [Act.put, List.setIfInBounds_toArray, List.set_cons_zero, List.set_cons_succ, i64_w, i32_w]
                    rfl
                  refine pure_ (i := 4) (N := some 42) (v := ?_) (a' := ?_) #[true, true, true, true, true, false, false, false, false, false, false] rfl rfl (by kernel_rfl) (fun _ _ _ h => h) (Or.inl ⟨by rfl, ?_⟩) ?_ ?_
                  rotate_left
                  · intro w'
                    go_simp
                    with_reducible rfl
                  rotate_left
                  · simp only [Act.put, List.setIfInBounds_toArray, List.set_cons_zero, List.set_cons_succ, i64_w, i32_w]
                    rfl
                  refine pure_ (i := 6) (N := some 44) (v := ?_) (a' := ?_) #[true, true, true, true, true, false, true, false, false, false, false] rfl rfl (by kernel_rfl) (fun _ _ _ h => h) (Or.inl ⟨by rfl, ?_⟩) ?_ ?_
                  rotate_left
                  · intro w'
                    go_simp
                    with_reducible rfl
                  rotate_left
                  · simp only [Act.put, List.setIfInBounds_toArray, List.set_cons_zero, List.set_cons_succ, i64_w, i32_w]
                    rfl
                  refine pure_ (i := 7) (N := some 45) (v := ?_) (a' := ?_) #[true, true, true, true, true, false, true, true, false, false, false] rfl rfl (by kernel_rfl) (fun _ _ _ h => h) (Or.inl ⟨by rfl, ?_⟩) ?_ ?_
                  rotate_left
                  · intro w'
                    go_simp
                    with_reducible rfl
                  rotate_left
                  · simp only [Act.put, List.setIfInBounds_toArray, List.set_cons_zero, List.set_cons_succ, i64_w, i32_w]
                    rfl
                  refine pure_ (i := 8) (N := some 46) (v := ?_) (a' := ?_) #[true, true, true, true, true, false, true, true, true, false, false] rfl rfl (by kernel_rfl) (fun _ _ _ h => h) (Or.inl ⟨by rfl, ?_⟩) ?_ ?_
                  rotate_left
                  · intro w'
                    go_simp
                    with_reducible rfl
                  rotate_left
                  · simp only [Act.put, List.setIfInBounds_toArray, List.set_cons_zero, List.set_cons_succ, i64_w, i32_w]
                    rfl
                  refine take_ (i := 5) (N := some 43) (v := ?_) (a' := ?_) #[true, true, true, true, true, true, true, true, true, false, false] rfl rfl (by kernel_rfl) (fun _ _ _ h => h) (Or.inl ⟨by rfl, ?_⟩) hHeld ?_ ?_
                  rotate_left
                  · rintro w' ⟨s0, s1, s2, s3⟩
                    go_simp
                    with_reducible rfl
                  rotate_left
                  · simp only [Act.put, List.setIfInBounds_toArray, List.set_cons_zero, List.set_cons_succ, i64_w, i32_w]
                    rfl
                  refine take_ (i := 9) (N := some 47) (v := ?_) (a' := ?_) #[true, true, true, true, true, true, true, true, true, true, false] rfl rfl (by kernel_rfl) (fun _ _ _ h => h) (Or.inl ⟨by rfl, ?_⟩) hHeld ?_ ?_
                  rotate_left
                  · rintro w' ⟨s0, s1, s2, s3⟩
                    go_simp
                    with_reducible rfl
                  rotate_left
                  · simp only [Act.put, List.setIfInBounds_toArray, List.set_cons_zero, List.set_cons_succ, i64_w, i32_w]
                    rfl
                  refine pure_ (i := 10) (N := some 48) (v := ?_) (a' := ?_) #[true, true, true, true, true, true, true, true, true, true, true] rfl rfl (by kernel_rfl) (fun _ _ _ h => h) (Or.inl ⟨by rfl, ?_⟩) ?_ ?_
                  rotate_left
                  · intro w'
                    go_simp
                    with_reducible rfl
                  rotate_left
                  · simp only [Act.put, List.setIfInBounds_toArray, List.set_cons_zero, List.set_cons_succ, i64_w, i32_w]
                    rfl
                  refine done_ (by kernel_rfl) ?_
                  have hy9 := pw_cell_below HBw7.out HY9.out
                  go_wp2_with fail
                  go_roundw
                  case rel => exact ⟨i + 1, (true, mm), by omega, rfl, rfl, by simp, ⟨HFD.out.symm.trans HY.out⟩, ⟨below_step HBY.out HBw7.out⟩⟩
                  case measure => simp [intOf]; omega
          · have e : i = ln := by omega
            subst e
            have b3 : decide ((i : Int) < (i : Int)) = false := decide_eq_false (by omega)
            have b4 : decide (i < i) = false := decide_eq_false (by omega)
            have hx : (th, mm) = LL.foldl (stepU id) (false, m) := by
              have := HY.out
              rw [List.drop_eq_nil_of_le (by rw [HLN.out]; exact Nat.le_refl _)] at this
              exact this
            rw [HFO.out] at hx
            have hud := HUD.out
            have HBZ := Aside0.mk (below_step HB5.out HBY.out)
            have hjn := HLJ.out
            cases hf : LL.find? (isD id) with
            | none =>
              rw [hf] at hx hud
              have hx1 : th = false := congrArg Prod.fst hx
              subst hx1
              have HUE := Aside0.mk hud
              clear hx hf hud
              go_wp2_with fail
              go_ret2
              rw [HX.out, HUE.out]
              exact ⟨rfl, below_step HB.out HBZ.out⟩
            | some h =>
              rw [hf] at hx hud
              have hx1 : th = true := congrArg Prod.fst hx
              have hx2 : mm = if h.f1 < m then h.f1 else m := congrArg Prod.snd hx
              subst hx1
              have HUE := Aside0.mk (show R = untilG LL o (ids.drop (j + 1)) mm by rw [hx2]; exact HX.out.trans hud)
              clear hx hf hud hx2
              go_wp2_with fail
              go_roundw
              case rel => exact ⟨j + 1, mm, by omega, rfl, by simp, HUE, HBZ⟩
              case measure => simp [intOf]; omega
    · have e : j = n := by omega
      subst e
      have b1 : decide ((j : Int) < (j : Int)) = false := decide_eq_false (by omega)
      have b2 : decide (j < j) = false := decide_eq_false (by omega)
      have hx := HX.out
      rw [List.drop_eq_nil_of_le (by rw [HEN.out]; exact Nat.le_refl _)] at hx
      have hx2 : R = (m, 0) := hx
      clear hx
      go_wp2_with fail
      go_ret2
      rw [hx2]
      exact ⟨rfl, below_step HB.out HBR.out⟩
end Go.Proofs.YtpdcmdofojckdaaDoor.P
