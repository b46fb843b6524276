/- Texts of this claim, laid into one. -/
import Derived.Test.YtmfmoddaejoekaaHTapeC
import Derived.Lib.SliceRun
section
/- Contracts, typed by hand: the program's tape: Read. -/
set_option linter.unusedVariables false
set_option linter.unusedSimpArgs false
namespace Go.Proofs.Ytmfmoddaejoekaa.P
open Go.RowKit Go.Proofs.YtmfmoddaejoekaaW.PrintWords Go.Proofs.YtmfmoddaejoekaaW.PrintLast Go.Proofs.YtmfmoddaejoekaaW.PrintMore
/-! slices.Clone, of bytes, as a row of one's own -/
set_option maxHeartbeats 1000000 in
theorem Clone8.calls (A : Option Addr) (c : Nat) (l : List Int) (W : World) (hC : Kd.C (Kd.int .u8) W A l.length l) (hl : l.length ≤ 1000000) :
    Calls Try.prog 42 #[.slice A l.length c] W fun e W' => ∃ v : Value, e = .returned v ∧ (Kd.int .u8).R 5 W' 0 (fun k => W.heap.size ≤ k) v l ∧ Below W.heap.size W W' := by
  have hnil := fun W : World => Lib.run_eql_slice_nil (P := Try.prog) W 30 5 A l.length c 0 0 Try.underlying30
  have HR := Aside0.mk hC
  cases A with
  | none =>
    have h0 := C_none hC
    obtain rfl : l = [] := List.eq_nil_of_length_eq_zero h0
    clear hC h0 hnil
    have hnil := fun W : World => Lib.run_eql_slice_nil (P := Try.prog) W 30 5 none 0 c 0 0 Try.underlying30
    go_enter Try.func42, Try.ntmps42
    go_wp2_with fail
    go_ret
    exact ⟨.slice none 0 0, rfl, Kd.R_nil _ _ _ _ _, Below.refl _ _⟩
  | some ad =>
    clear hC
    go_enter Try.func42, Try.ntmps42
    have HO := Aside0.mk (R_of_own0 (own_lit W W.heap.size 5 .u8 [] (Nat.le_refl _) (by decide)))
    go_wp2_with (at_builtin; refine app_int (k := .u8) rfl (.tmp 5) (.tmp 6) 30 5 1 rfl Try.underlying30 hinfo5 (by decide) (.slice (some ⟨W.heap.size, 0, none⟩) 0 0) [] l (some ad) l.length c (fun k => W.heap.size ≤ k) rfl rfl HO.out ?c1 ?c2 ?_)
    case c1 => exact Kd.C_alloc HR.out _
    case c2 => simp only [List.length_nil]; omega
    intro v1 w1 hR hg
    have HR1 := Aside0.mk hR
    have HB := Aside0.mk (pw_below_grown (below_alloc (Below.refl W.heap.size W) (.cells #[] 5)) _ (by simp) hg (fun k hk => by have e : W.heap.size = k := Option.some.inj hk; omega))
    clear hR hg HO hnil
    go_wp2_with fail
    go_ret
    exact ⟨v1, rfl, Kd.R_mono HR1.out (fun k hk => by omega), HB.out⟩
/-! Read -/
set_option maxHeartbeats 2000000 in
theorem tape_Read.no (g : Nat) (T : TM) (i : Int) (W : World) (ok : Nat → Prop) (hP : (PTape g T).P ok W) (hr : T.ready i ≠ 0) :
    Calls Try.prog 33 #[.pointer (some ⟨g, 0, none⟩), .int .i64 i] W fun e W' => e = .returned (.tuple #[.slice none 0 0, .int .i64 (T.ready i)]) ∧ W = W' := by
  obtain ⟨r, er⟩ : ∃ r, T.ready i = r := ⟨_, rfl⟩
  have HC := Aside0.mk (tape_ready.calls g T i W ok hP)
  rw [er] at hr HC ⊢
  have b1 : (r != 0) = true := by simp [hr]
  have b2 : (r == 0) = false := by simp [hr]
  clear hP er
  go_enter Try.func33, Try.ntmps33
  go_wp2_with fail
  refine HC.out.mono ?_
  rintro e w' ⟨rfl, rfl⟩
  go_wp2_with fail
  go_ret2
  exact ⟨rfl, rfl⟩
set_option maxHeartbeats 2000000 in
theorem tape_Read.yes (g : Nat) (T : TM) (i : Int) (W : World) (ok : Nat → Prop) (hP : (PTape g T).P ok W) (hr : T.ready i = 0) (hi : i = 0 ∨ i = 1) (hl : (T.now i).length ≤ 65536) :
    Calls Try.prog 33 #[.pointer (some ⟨g, 0, none⟩), .int .i64 i] W fun e W' => ∃ v : Value, e = .returned (.tuple #[v, .int .i64 0]) ∧ (Kd.int .u8).R 5 W' 0 (fun k => W.heap.size ≤ k) v (T.now i) ∧ Below W.heap.size W W' := by
  have HC := Aside0.mk (tape_ready.calls g T i W ok hP)
  rw [hr] at HC
  obtain ⟨v0, v1, m0, m1, vu, x, hx, hC⟩ := ptape_open hP
  rcases hi with rfl | rfl
  · obtain ⟨oks, hs, _⟩ := obj_get hC 2 rfl
    obtain ⟨A, c, rfl⟩ := side_slice hs
    have HF := Aside0.mk (Kd.F_now (side_reads hs).2.2)
    obtain ⟨x0, x1, x2, x3, x4, x5, x6, _⟩ := blk_all7 (tape_blk hC)
    clear hP hC hs hx hr
    go_enter Try.func33, Try.ntmps33
    go_wp2_with fail
    refine HC.out.mono ?_
    rintro e w' ⟨rfl, rfl⟩
    go_wp2_with fail
    refine (Clone8.calls A c (T.now 0) W HF.out (by omega)).mono ?_
    rintro e w1 ⟨v, rfl, hR, hB⟩
    have HR := Aside0.mk hR
    have HB := Aside0.mk hB
    clear hR hB
    go_wp2_with fail
    go_ret2
    exact ⟨v, rfl, HR.out, HB.out⟩
  · obtain ⟨oks, hs, _⟩ := obj_get hC 3 rfl
    obtain ⟨A, c, rfl⟩ := side_slice hs
    have HF := Aside0.mk (Kd.F_now (side_reads hs).2.2)
    obtain ⟨x0, x1, x2, x3, x4, x5, x6, _⟩ := blk_all7 (tape_blk hC)
    clear hP hC hs hx hr
    go_enter Try.func33, Try.ntmps33
    go_wp2_with fail
    refine HC.out.mono ?_
    rintro e w' ⟨rfl, rfl⟩
    go_wp2_with fail
    refine (Clone8.calls A c (T.now 1) W HF.out (by omega)).mono ?_
    rintro e w1 ⟨v, rfl, hR, hB⟩
    have HR := Aside0.mk hR
    have HB := Aside0.mk hB
    clear hR hB
    go_wp2_with fail
    go_ret2
    exact ⟨v, rfl, HR.out, HB.out⟩
end Go.Proofs.Ytmfmoddaejoekaa.P
end
section
/- Contracts, typed by hand: the program's tape: New, Clear's way to Trim. -/
set_option linter.unusedVariables false
set_option linter.unusedSimpArgs false
namespace Go.Proofs.Ytmfmoddaejoekaa.P
open Go.RowKit Go.Proofs.YtmfmoddaejoekaaW.PrintWords Go.Proofs.YtmfmoddaejoekaaW.PrintLast Go.Proofs.YtmfmoddaejoekaaW.PrintMore
theorem tape_New.calls (W : World) :
    Calls Try.prog 8 #[] W fun e W' => ∃ g, e = .returned (.pointer (some ⟨g, 0, none⟩)) ∧ (PTape g TM.new).P (fun k => W.heap.size ≤ k) W' ∧ Below W.heap.size W W' := by
  go_enter Try.func8, Try.ntmps8
  go_wp2_with fail
  go_ret
  refine ⟨W.heap.size, rfl, ptape_mk (v0 := .slice none 0 0) (v1 := .slice none 0 0) (m0 := .slice none 0 0) (m1 := .slice none 0 0) (vu := .slice none 0 0) (x := 0) (fun _ => rfl) ⟨Nat.le_refl _, heap_alloc_new W _, fun _ => 0, fun i R hi => ?_⟩, below_alloc (Below.refl _ _) _⟩
  match i, hi with
  | 0, hi => cases hi; exact .inl (Kd.R_nil _ _ _ _ _)
  | 1, hi => cases hi; exact .inl (Kd.R_nil _ _ _ _ _)
  | 2, hi => cases hi; exact .inl (Kd.R_nil _ _ _ _ _)
  | 3, hi => cases hi; exact .inl (Kd.R_nil _ _ _ _ _)
  | 4, hi => cases hi; exact Kd.R_nil _ _ _ _ _
end Go.Proofs.Ytmfmoddaejoekaa.P
end
