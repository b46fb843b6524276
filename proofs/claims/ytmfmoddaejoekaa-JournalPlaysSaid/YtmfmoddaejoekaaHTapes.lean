/- Contracts, typed by hand and by a program: the law's tapes. -/
import Derived.Test.YtmfmoddaejoekaaHRTapeE
import Derived.Test.YtmfmoddaejoekaaHJourF
set_option linter.unusedVariables false
set_option linter.unusedSimpArgs false
namespace Go.Proofs.Ytmfmoddaejoekaa.P
open Go.RowKit Go.Proofs.YtmfmoddaejoekaaW.PrintWords Go.Proofs.YtmfmoddaejoekaaW.PrintLast Go.Proofs.YtmfmoddaejoekaaW.PrintMore
/-- What a Read tells. -/
def seenM (T : TM) (p : Nat) : List Int := if T.ready p = 0 then T.now p else []
def ReadPost (T : TM) (p : Nat) (W : World) (e : Ending) (W' : World) : Prop :=
 ∃ A c, e = .returned (.tuple #[.slice A (seenM T p).length c, .int .i64 (T.ready p)]) ∧ (seenM T p).length ≤ c ∧ Kd.C (Kd.int .u8) W' A (seenM T p).length (seenM T p) ∧ Below W.heap.size W W'
theorem readPost_no {T : TM} {p : Nat} {W : World} (hr : T.ready p ≠ 0) : ReadPost T p W (.returned (.tuple #[.slice none 0 0, .int .i64 (T.ready p)])) W := by
 have e : seenM T p = [] := if_neg hr
 unfold ReadPost
 rw [e]
 exact ⟨none, 0, rfl, Nat.le_refl _, (Kd.R_reads' (Kd.R_nil (Kd.int .u8) 5 W 0 (fun _ => True))).2.2, Below.refl _ _⟩
theorem readPost_yes {T : TM} {p : Nat} {W W' : World} {v : Value} {ok : Nat → Prop} (hr : T.ready p = 0) (h : (Kd.int .u8).R 5 W' 0 ok v (T.now p)) (hb : Below W.heap.size W W') : ReadPost T p W (.returned (.tuple #[v, .int .i64 0])) W' := by
 have e : seenM T p = T.now p := if_pos hr
 unfold ReadPost
 rw [e, hr]
 obtain ⟨A, c, rfl⟩ := Kd.R_slice h
 have h4 := Kd.R_reads' h
 exact ⟨A, c, rfl, h4.2.1, h4.2.2, hb⟩
theorem tape_Read.any (g : Nat) (T : TM) (N : Nat) (hT : T.Ok N) (p : Nat) (hp : p < 2) (W : World) (ok : Nat → Prop) (hP : (PTape g T).P ok W) :
  Calls Try.prog 33 #[.pointer (some ⟨g, 0, none⟩), .int .i64 (p : Int)] W (ReadPost T p W) := by
 by_cases hr : T.ready p = 0
 ·exact (tape_Read.yes g T p W ok hP hr (by omega) (hT.now_len p (by omega))).mono fun e W' ⟨v, h1, h2, h3⟩ => h1 ▸ readPost_yes hr h2 h3
 ·exact (tape_Read.no g T p W ok hP hr).mono fun e W' hh => by rw [hh.1, ← hh.2]; exact readPost_no hr
theorem rtape_Read.any (g : Nat) (T : TM) (N : Nat) (hT : T.Ok N) (hN : N ≤ 1000000000) (p : Nat) (hp : p < 2) (W : World) (ok : Nat → Prop) (hP : (RTape g T).P ok W) :
  Calls Try.prog 53 #[.pointer (some ⟨g, 0, none⟩), .int .i64 (p : Int)] W (ReadPost T p W) := by
 by_cases hr : T.ready p = 0
 ·exact (rtape_Read.yes g T N hT hN p hp W ok hP hr).mono fun e W' ⟨v, h1, h2, h3⟩ => h1 ▸ readPost_yes hr h2 h3
 ·exact (rtape_Read.no g T p W ok hP hr).mono fun e W' hh => by rw [hh.1, ← hh.2]; exact readPost_no hr
set_option maxHeartbeats 4000000 in
set_option maxRecDepth 100000 in
theorem tapes.calls (g gr : Nat) (T : TM) (N : Nat) (hT : T.Ok N) (hN : N ≤ 1000000000) (W : World) (ok okr : Nat → Prop) (hP : (PTape g T).P ok W) (hR : (RTape gr T).P okr W) :
  Calls Try.prog 24 #[.pointer (some ⟨g, 0, none⟩), .pointer (some ⟨gr, 0, none⟩)] W fun e W' => e = .returned (.bool true) ∧ Below W.heap.size W W' := by
 have HT := Aside0.mk hT
 have HP := Aside0.mk hP
 have HR := Aside0.mk hR
 have HB0 := Aside0.mk (Below.refl W.heap.size W)
 clear hT hP hR
 go_enter Try.func24, Try.ntmps24
 go_wp2_with fail
 go_loopw [5] (fun s5 wr => ∃ i : Nat, i ≤ 2 ∧ s5 = .int .i64 (i : Int) ∧ Aside0 (Below W.heap.size W wr)) (fun s5 _ => (3 - (intOf s5).toNat))
 case atStart => exact ⟨0, by omega, rfl, HB0⟩
 case round =>
  obtain ⟨i, hi, rfl, HBJ⟩ := hrel
  clear HB0
  by_cases hin : i < 2
  ·have b1 : decide ((i : Int) < 2) = true := decide_eq_true (by omega)
   go_wp2_with fail
   refine (tape_Read.any g T N HT.out i hin wr ok ((PTape g T).on HP.out HBJ.out)).mono ?_
   rintro e w4 ⟨A4, c4, rfl, hc4, hC4, hB4⟩
   have HB4 := Aside0.mk (below_step HBJ.out hB4)
   have HC4 := Aside0.mk (And.intro hc4 hC4)
   obtain ⟨r, er⟩ : ∃ r, T.ready (i : Int) = r := ⟨_, rfl⟩
   rw [er]
   clear hc4 hC4 hB4
   go_wp2_with fail
   refine (rtape_Read.any gr T N HT.out hN i hin w4 okr ((RTape gr T).on HR.out HB4.out)).mono ?_
   rintro e w5 ⟨A5, c5, rfl, hc5, hC5, hB5⟩
   have HB5 := Aside0.mk (below_step HB4.out hB5)
   have HC5 := Aside0.mk (And.intro hc5 hC5)
   have HC4b := Aside0.mk (And.intro HC4.out.1 (Kd.C_below HC4.out.2 hB5))
   rw [er]
   have HSL := Aside0.mk (show (seenM T i).length ≤ 65536 from by
    unfold seenM
    split
    ·exact HT.out.now_len i (by omega)
    ·simp)
   clear hc5 hC5 hB5 er HC4
   go_wp2_with fail
   refine (liveryref01_Same.calls 1000000 A4 c4 (seenM T i) A5 c5 (seenM T i) true w5 HC4b.out.2 HC4b.out.1 HC5.out.2 HC5.out.1 (by rw [same1 1000000 _ _ (by have := HSL.out; omega) (by have := HSL.out; omega), decide_eq_true rfl])).mono ?_
   rintro e w6 ⟨rfl, hd⟩
   have HB6 := Aside0.mk (below_step HB5.out hd.below)
   clear hd HC4b HC5
   have b7 : (r != r) = false := by simp
   go_wp2_with fail
   go_roundw
   case rel => exact ⟨i + 1, by omega, by simp, HB6⟩
   case measure => simp [intOf]; omega
  ·have ei : i = 2 := by omega
   subst ei
   have b1 : decide (((2 : Nat) : Int) < 2) = false := by decide
   obtain ⟨w3, e3⟩ : ∃ w3 : World, w3 = wr.drew := ⟨_, rfl⟩
   have HB3 := Aside0.mk (show Below W.heap.size W w3 from by rw [e3]; exact below_step HBJ.out (below_drew1 (Below.refl _ _)))
   have HP3 := Aside0.mk ((PTape g T).on HP.out HB3.out)
   obtain ⟨v0, vu, hC⟩ := rtape_open ((RTape gr T).on HR.out HB3.out)
   obtain ⟨oku, hU0, _⟩ := obj_get hC 1 rfl
   obtain ⟨Au, cu, evu⟩ := Kd.R_slice (show (k89).R 89 w3 0 oku vu T.us from hU0)
   subst evu
   have hu3 : w3.cell? ⟨gr, 1, none⟩ = some (.slice Au T.us.length cu) := by rw [blk_cell (rtape_blk hC)]; rfl
   clear hC hU0
   go_wp2_with fail
   refine start_ (n := 9) (S := fun w' => w'.cell? ⟨gr, 1, none⟩ = some (.slice Au T.us.length cu)) (ds := []) #[false, false, false, false, false, false, false, false, false] (by kernel_rfl) rfl rfl ((by rw [← e3]; exact hu3)) (fun hHeld => ?_)
   rw [← e3] at hHeld ⊢
   clear e3
   refine pure_ (i := 0) (N := some 37) (v := ?_) (a' := ?_) #[true, false, false, false, false, false, false, false, false] rfl rfl (by kernel_rfl) (fun _ _ _ h => h) (Or.inl ⟨by rfl, ?_⟩) ?_ ?_
   rotate_left
   ·intro w'
    go_simp
    with_reducible rfl
   rotate_left
   ·simp only [Act.put, List.setIfInBounds_toArray, List.set_cons_zero, List.set_cons_succ, i64_w, i32_w]
    rfl
   refine pure_ (i := 2) (N := some 39) (v := ?_) (a' := ?_) #[true, false, true, false, false, false, false, false, false] rfl rfl (by kernel_rfl) (fun _ _ _ h => h) (Or.inl ⟨by rfl, ?_⟩) ?_ ?_
   rotate_left
   ·intro w'
    go_simp
    with_reducible rfl
   rotate_left
   ·simp only [Act.put, List.setIfInBounds_toArray, List.set_cons_zero, List.set_cons_succ, i64_w, i32_w]
    rfl
   refine pure_ (i := 3) (N := some 40) (v := ?_) (a' := ?_) #[true, false, true, true, false, false, false, false, false] rfl rfl (by kernel_rfl) (fun _ _ _ h => h) (Or.inl ⟨by rfl, ?_⟩) ?_ ?_
   rotate_left
   ·intro w'
    go_simp
    with_reducible rfl
   rotate_left
   ·simp only [Act.put, List.setIfInBounds_toArray, List.set_cons_zero, List.set_cons_succ, i64_w, i32_w]
    rfl
   refine pure_ (i := 4) (N := some 41) (v := ?_) (a' := ?_) #[true, false, true, true, true, false, false, false, false] rfl rfl (by kernel_rfl) (fun _ _ _ h => h) (Or.inl ⟨by rfl, ?_⟩) ?_ ?_
   rotate_left
   ·intro w'
    go_simp
    with_reducible rfl
   rotate_left
   ·simp only [Act.put, List.setIfInBounds_toArray, List.set_cons_zero, List.set_cons_succ, i64_w, i32_w]
    rfl
   refine take_ (i := 5) (N := some 42) (v := ?_) (a' := ?_) #[true, false, true, true, true, true, false, false, false] rfl rfl (by kernel_rfl) (fun _ _ _ h => h) (Or.inl ⟨by rfl, ?_⟩) hHeld ?_ ?_
   rotate_left
   ·intro w' s0
    go_simp
    with_reducible rfl
   rotate_left
   ·simp only [Act.put, List.setIfInBounds_toArray, List.set_cons_zero, List.set_cons_succ, i64_w, i32_w]
    rfl
   refine pure_ (i := 6) (N := some 43) (v := ?_) (a' := ?_) #[true, false, true, true, true, true, true, false, false] rfl rfl (by kernel_rfl) (fun _ _ _ h => h) (Or.inl ⟨by rfl, ?_⟩) ?_ ?_
   rotate_left
   ·intro w'
    go_simp
    with_reducible rfl
   rotate_left
   ·simp only [Act.put, List.setIfInBounds_toArray, List.set_cons_zero, List.set_cons_succ, i64_w, i32_w]
    rfl
   refine one_ (i := 1) (N := some 38) #[true, true, true, true, true, true, true, false, false] rfl rfl (by kernel_rfl) (by decide) (fun K hK => ?_)
   refine goes_ Try.func58 (by kernel_rfl) rfl #[.pointer (some ⟨g, 0, none⟩)] (by rfl) rfl rfl (by simp only [List.map_toArray, List.map_cons, List.map_nil]; rfl) ?_
   with_reducible refine ((tape_Units.calls g T w3 _ HP3.out)).mono ?_
   rintro e w4 ⟨rfl, rfl⟩
   refine ⟨_, rfl, ?_⟩
   refine hK.out _ _ (hu3) (fun hHeld => ?_)
   clear hK K
   refine norm_ (a' := ?_) ?_ ?_
   rotate_left
   ·show Act.put _ (some 38) _ = _
    simp only [Act.put, List.setIfInBounds_toArray, List.set_cons_zero, List.set_cons_succ, i64_w, i32_w]
    rfl
   refine pure_ (i := 7) (N := some 44) (v := ?_) (a' := ?_) #[true, true, true, true, true, true, true, true, false] rfl rfl (by kernel_rfl) (fun _ _ _ h => h) (Or.inl ⟨by rfl, ?_⟩) ?_ ?_
   rotate_left
   ·intro w'
    go_simp
    with_reducible rfl
   rotate_left
   ·simp only [Act.put, List.setIfInBounds_toArray, List.set_cons_zero, List.set_cons_succ, i64_w, i32_w]
    rfl
   refine pure_ (i := 8) (N := some 4) (v := ?_) (a' := ?_) #[true, true, true, true, true, true, true, true, true] rfl rfl (by kernel_rfl) (fun _ _ _ h => h) (Or.inl ⟨by rfl, ?_⟩) ?_ ?_
   rotate_left
   ·intro w'
    go_simp
    with_reducible rfl
   rotate_left
   ·simp only [Act.put, List.setIfInBounds_toArray, List.set_cons_zero, List.set_cons_succ, i64_w, i32_w]
    rfl
   refine done_ (by kernel_rfl) ?_
   go_wp2_with fail
   go_ret
   exact ⟨by simp, HB3.out⟩
end Go.Proofs.Ytmfmoddaejoekaa.P
