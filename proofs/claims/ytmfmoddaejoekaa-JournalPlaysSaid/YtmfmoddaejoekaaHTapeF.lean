/- Texts of this claim, laid into one. -/
import Derived.Test.YtmfmoddaejoekaaHSep
import Derived.Lib.SliceRun
section
/- Contracts, typed by hand: what any unit does to a side. -/
set_option linter.unusedVariables false
set_option linter.unusedSimpArgs false
namespace Go.Proofs.Ytmfmoddaejoekaa.P
open Go.RowKit Go.Proofs.YtmfmoddaejoekaaW.PrintWords Go.Proofs.YtmfmoddaejoekaaW.PrintLast Go.Proofs.YtmfmoddaejoekaaW.PrintMore
theorem done.side0 (v v1 : Value) (l : List Int) (u : Un) (W : World) (ok : Nat → Prop) (h : (SideR v l).P ok W) (hu : u.f0 = 0) (hl : l.length ≤ 65536) (hc : 0 ≤ u.f1 → u.f1 ≤ (l.length : Int)) (hv : ∃ A n c, v1 = .slice A n c) :
  Calls Try.prog 59 #[.agg #[v, v1], .agg #[.int .i64 u.f0, .int .i64 u.f1, .int .u8 u.f2]] W fun e W' => ∃ v', e = .returned (.agg #[v', v1]) ∧ (∃ A n c, v' = .slice A n c) ∧ Turned ok W W' (SideR v' (unit1 l 0 u)) := by
 obtain ⟨A1, n1, c1, rfl⟩ := hv
 rw [hu]
 unfold unit1
 rw [if_pos hu]
 have hb := (SideR v l).bound h
 by_cases h0 : 0 ≤ u.f1
 ·rw [if_pos h0]
  obtain ⟨m, em⟩ : ∃ m : Nat, u.f1 = (m : Int) := ⟨u.f1.toNat, by omega⟩
  have hm : m ≤ l.length := by have := hc h0; omega
  rw [em, Int.toNat_natCast]
  obtain ⟨A, c, rfl⟩ := side_slice h
  refine (done.cut0 A c l A1 n1 c1 m u.f2 W ok h hm hl).mono fun e W' hh => ⟨_, hh.1, ⟨_, _, _, rfl⟩, ?_⟩
  exact (Turned.refl (side_cut h m hm)).on hh.2
 ·rw [if_neg h0]
  rcases hb with hR | ⟨ad, rfl, hF⟩
  ·obtain ⟨A, c, rfl⟩ := Kd.R_slice hR
   refine (done.put0 A c l A1 n1 c1 u.f1 u.f2 W _ hR (fun k hk => hk.2) (by omega) hl).mono fun e W' ⟨A9, c9, he, ht⟩ => ⟨_, he, ⟨_, _, _, rfl⟩, ht.1.mono (fun k _ hk => hk.1), (SideR _ _).mono (fun k hk => hk.imp (·.1) id) ht.2⟩
  ·refine (done.put0c ad l A1 n1 c1 u.f1 u.f2 W _ hF (fun k hk => hk.2) (by omega) hl).mono fun e W' ⟨A9, c9, he, ht⟩ => ⟨_, he, ⟨_, _, _, rfl⟩, ht.1.mono (fun k _ hk => hk.1), (SideR _ _).mono (fun k hk => hk.imp (·.1) id) ht.2⟩
theorem done.side1 (v v1 : Value) (l : List Int) (u : Un) (W : World) (ok : Nat → Prop) (h : (SideR v l).P ok W) (hu : u.f0 = 1) (hl : l.length ≤ 65536) (hc : 0 ≤ u.f1 → u.f1 ≤ (l.length : Int)) (hv : ∃ A n c, v1 = .slice A n c) :
  Calls Try.prog 59 #[.agg #[v1, v], .agg #[.int .i64 u.f0, .int .i64 u.f1, .int .u8 u.f2]] W fun e W' => ∃ v', e = .returned (.agg #[v1, v']) ∧ (∃ A n c, v' = .slice A n c) ∧ Turned ok W W' (SideR v' (unit1 l 1 u)) := by
 obtain ⟨A1, n1, c1, rfl⟩ := hv
 rw [hu]
 unfold unit1
 rw [if_pos hu]
 have hb := (SideR v l).bound h
 by_cases h0 : 0 ≤ u.f1
 ·rw [if_pos h0]
  obtain ⟨m, em⟩ : ∃ m : Nat, u.f1 = (m : Int) := ⟨u.f1.toNat, by omega⟩
  have hm : m ≤ l.length := by have := hc h0; omega
  rw [em, Int.toNat_natCast]
  obtain ⟨A, c, rfl⟩ := side_slice h
  refine (done.cut1 A c l A1 n1 c1 m u.f2 W ok h hm hl).mono fun e W' hh => ⟨_, hh.1, ⟨_, _, _, rfl⟩, ?_⟩
  exact (Turned.refl (side_cut h m hm)).on hh.2
 ·rw [if_neg h0]
  rcases hb with hR | ⟨ad, rfl, hF⟩
  ·obtain ⟨A, c, rfl⟩ := Kd.R_slice hR
   refine (done.put1 A c l A1 n1 c1 u.f1 u.f2 W _ hR (fun k hk => hk.2) (by omega) hl).mono fun e W' ⟨A9, c9, he, ht⟩ => ⟨_, he, ⟨_, _, _, rfl⟩, ht.1.mono (fun k _ hk => hk.1), (SideR _ _).mono (fun k hk => hk.imp (·.1) id) ht.2⟩
  ·refine (done.put1c ad l A1 n1 c1 u.f1 u.f2 W _ hF (fun k hk => hk.2) (by omega) hl).mono fun e W' ⟨A9, c9, he, ht⟩ => ⟨_, he, ⟨_, _, _, rfl⟩, ht.1.mono (fun k _ hk => hk.1), (SideR _ _).mono (fun k hk => hk.imp (·.1) id) ht.2⟩
end Go.Proofs.Ytmfmoddaejoekaa.P
end
section
/- Contracts, typed by hand: the program's tape: Read. -/
set_option linter.unusedVariables false
set_option linter.unusedSimpArgs false
namespace Go.Proofs.Ytmfmoddaejoekaa.P
open Go.RowKit Go.Proofs.YtmfmoddaejoekaaW.PrintWords Go.Proofs.YtmfmoddaejoekaaW.PrintLast Go.Proofs.YtmfmoddaejoekaaW.PrintMore
/-! slices.Clone, of bytes, as a row of one's own -/
set_option maxHeartbeats 1000000 in
theorem Clone8.calls (A : Option Addr) (c : Nat) (l : List Int) (W : World) (hC : Kd.C (Kd.int .u8) W A l.length l) (hl : l.length ≤ 1000000) :
  Calls Try.prog 42 #[.slice A l.length c] W fun e W' => ∃ v : Value, e = .returned v ∧ (Kd.int .u8).R 5 W' 0 (fun k => W.heap.size ≤ k) v l ∧ Below W.heap.size W W' := by
 have hnil := fun W : World => Lib.run_eql_slice_nil (P := Try.prog) W 30 5 A l.length c 0 0 Try.underlying30
 have HR := Aside0.mk hC
 cases A with
 | none =>
  have h0 := C_none hC
  obtain rfl : l = [] := List.eq_nil_of_length_eq_zero h0
  clear hC h0 hnil
  have hnil := fun W : World => Lib.run_eql_slice_nil (P := Try.prog) W 30 5 none 0 c 0 0 Try.underlying30
  go_enter Try.func42, Try.ntmps42
  go_wp2_with fail
  go_ret
  exact ⟨.slice none 0 0, rfl, Kd.R_nil _ _ _ _ _, Below.refl _ _⟩
 | some ad =>
  clear hC
  go_enter Try.func42, Try.ntmps42
  have HO := Aside0.mk (R_of_own0 (own_lit W W.heap.size 5 .u8 [] (Nat.le_refl _) (by decide)))
  go_wp2_with (at_builtin; refine app_int (k := .u8) rfl (.tmp 5) (.tmp 6) 30 5 1 rfl Try.underlying30 hinfo5 (by decide) (.slice (some ⟨W.heap.size, 0, none⟩) 0 0) [] l (some ad) l.length c (fun k => W.heap.size ≤ k) rfl rfl HO.out ?c1 ?c2 ?_)
  case c1 => exact Kd.C_alloc HR.out _
  case c2 => simp only [List.length_nil]; omega
  intro v1 w1 hR hg
  have HR1 := Aside0.mk hR
  have HB := Aside0.mk (pw_below_grown (below_alloc (Below.refl W.heap.size W) (.cells #[] 5)) _ (by simp) hg (fun k hk => by have e : W.heap.size = k := Option.some.inj hk; omega))
  clear hR hg HO hnil
  go_wp2_with fail
  go_ret
  exact ⟨v1, rfl, Kd.R_mono HR1.out (fun k hk => by omega), HB.out⟩
/-! Read -/
set_option maxHeartbeats 2000000 in
theorem tape_Read.no (g : Nat) (T : TM) (i : Int) (W : World) (ok : Nat → Prop) (hP : (PTape g T).P ok W) (hr : T.ready i ≠ 0) :
  Calls Try.prog 33 #[.pointer (some ⟨g, 0, none⟩), .int .i64 i] W fun e W' => e = .returned (.tuple #[.slice none 0 0, .int .i64 (T.ready i)]) ∧ W = W' := by
 obtain ⟨r, er⟩ : ∃ r, T.ready i = r := ⟨_, rfl⟩
 have HC := Aside0.mk (tape_ready.calls g T i W ok hP)
 rw [er] at hr HC ⊢
 have b1 : (r != 0) = true := by simp [hr]
 have b2 : (r == 0) = false := by simp [hr]
 clear hP er
 go_enter Try.func33, Try.ntmps33
 go_wp2_with fail
 refine HC.out.mono ?_
 rintro e w' ⟨rfl, rfl⟩
 go_wp2_with fail
 go_ret2
 exact ⟨rfl, rfl⟩
set_option maxHeartbeats 2000000 in
theorem tape_Read.yes (g : Nat) (T : TM) (i : Int) (W : World) (ok : Nat → Prop) (hP : (PTape g T).P ok W) (hr : T.ready i = 0) (hi : i = 0 ∨ i = 1) (hl : (T.now i).length ≤ 65536) :
  Calls Try.prog 33 #[.pointer (some ⟨g, 0, none⟩), .int .i64 i] W fun e W' => ∃ v : Value, e = .returned (.tuple #[v, .int .i64 0]) ∧ (Kd.int .u8).R 5 W' 0 (fun k => W.heap.size ≤ k) v (T.now i) ∧ Below W.heap.size W W' := by
 have HC := Aside0.mk (tape_ready.calls g T i W ok hP)
 rw [hr] at HC
 obtain ⟨v0, v1, m0, m1, vu, x, hx, hC⟩ := ptape_open hP
 rcases hi with rfl | rfl
 ·obtain ⟨oks, hs, _⟩ := obj_get hC 2 rfl
  obtain ⟨A, c, rfl⟩ := side_slice hs
  have HF := Aside0.mk (Kd.F_now (side_reads hs).2.2)
  obtain ⟨x0, x1, x2, x3, x4, x5, x6, _⟩ := blk_all7 (tape_blk hC)
  clear hP hC hs hx hr
  go_enter Try.func33, Try.ntmps33
  go_wp2_with fail
  refine HC.out.mono ?_
  rintro e w' ⟨rfl, rfl⟩
  go_wp2_with fail
  refine (Clone8.calls A c (T.now 0) W HF.out (by omega)).mono ?_
  rintro e w1 ⟨v, rfl, hR, hB⟩
  have HR := Aside0.mk hR
  have HB := Aside0.mk hB
  clear hR hB
  go_wp2_with fail
  go_ret2
  exact ⟨v, rfl, HR.out, HB.out⟩
 ·obtain ⟨oks, hs, _⟩ := obj_get hC 3 rfl
  obtain ⟨A, c, rfl⟩ := side_slice hs
  have HF := Aside0.mk (Kd.F_now (side_reads hs).2.2)
  obtain ⟨x0, x1, x2, x3, x4, x5, x6, _⟩ := blk_all7 (tape_blk hC)
  clear hP hC hs hx hr
  go_enter Try.func33, Try.ntmps33
  go_wp2_with fail
  refine HC.out.mono ?_
  rintro e w' ⟨rfl, rfl⟩
  go_wp2_with fail
  refine (Clone8.calls A c (T.now 1) W HF.out (by omega)).mono ?_
  rintro e w1 ⟨v, rfl, hR, hB⟩
  have HR := Aside0.mk hR
  have HB := Aside0.mk hB
  clear hR hB
  go_wp2_with fail
  go_ret2
  exact ⟨v, rfl, HR.out, HB.out⟩
end Go.Proofs.Ytmfmoddaejoekaa.P
end
section
/- Contracts, typed by hand: the program's tape: Fuse. -/
set_option linter.unusedVariables false
set_option linter.unusedSimpArgs false
namespace Go.Proofs.Ytmfmoddaejoekaa.P
open Go.RowKit Go.Proofs.YtmfmoddaejoekaaW.PrintWords Go.Proofs.YtmfmoddaejoekaaW.PrintLast Go.Proofs.YtmfmoddaejoekaaW.PrintMore
attribute [local go_sem] max2_int min2_int max_two min_two
/-- The fuse's two cells are written. -/
theorem ptape_fused {g : Nat} {T : TM} {ok : Nat → Prop} {W : World} (h : (PTape g T).P ok W) (y : Int) : Turned ok W ((W.setCell ⟨g, 5, none⟩ (.bool true)).setCell ⟨g, 6, none⟩ (.int .i64 y)) (PTape g { T with burns := true, left := y }) := by
 obtain ⟨v0, v1, m0, m1, vu, x, hx, hC⟩ := ptape_open h
 have h1 := obj_set hC 5 (.bool true)
 have h2 := obj_set h1.1 6 (.int .i64 y)
 exact ⟨h1.2.then_ h2.2 (fun k hk => .inl hk), (PTape g _).mono (fun k hk => .inl hk) (ptape_mk (T := { T with burns := true, left := y }) (x := y) (fun _ => rfl) h2.1)⟩
set_option maxHeartbeats 2000000 in
theorem tape_Fuse.calls (g : Nat) (T : TM) (n : Int) (W : World) (ok : Nat → Prop) (hP : (PTape g T).P ok W) :
  Calls Try.prog 26 #[.pointer (some ⟨g, 0, none⟩), .int .i64 n] W fun e W' => e = .returned (.int .i64 (TM.fuseE n)) ∧ Turned ok W W' (PTape g (T.fuse n)) := by
 obtain ⟨v0, v1, m0, m1, vu, x, hx, hC⟩ := ptape_open hP
 have HB := Aside0.mk (tape_blk hC)
 obtain ⟨x0, x1, x2, x3, x4, x5, x6, f0, f1, f2, f3, f4, f5, f6⟩ := blk_all7 (tape_blk hC)
 have HP := Aside0.mk hP
 clear hP hC
 by_cases h1 : n < 0
 ·have b1 : decide (n < 0) = true := decide_eq_true h1
  have HE := Aside0.mk (show TM.fuseE n = 1 by unfold TM.fuseE; rw [if_pos (.inl h1)])
  have HT := Aside0.mk (show T.fuse n = T by unfold TM.fuse; rw [if_neg (by rw [HE.out]; decide)])
  clear h1 hx
  go_enter Try.func26, Try.ntmps26
  go_wp2_with fail
  go_ret
  exact ⟨by rw [HE.out]; rfl, by rw [HT.out]; exact Turned.refl HP.out⟩
 have b1 : decide (n < 0) = false := decide_eq_false h1
 by_cases h2 : 1099511627776 < n
 ·have b2 : decide (1099511627776 < n) = true := decide_eq_true h2
  have HE := Aside0.mk (show TM.fuseE n = 1 by unfold TM.fuseE; rw [if_pos (.inr h2)])
  have HT := Aside0.mk (show T.fuse n = T by unfold TM.fuse; rw [if_neg (by rw [HE.out]; decide)])
  clear h1 h2 hx
  go_enter Try.func26, Try.ntmps26
  go_wp2_with fail
  go_ret
  exact ⟨by rw [HE.out]; rfl, by rw [HT.out]; exact Turned.refl HP.out⟩
 have b2 : decide (1099511627776 < n) = false := decide_eq_false h2
 have HE := Aside0.mk (show TM.fuseE n = 0 by unfold TM.fuseE; rw [if_neg (by omega)])
 obtain ⟨bu, eb⟩ : ∃ bu, T.burns = bu := ⟨_, rfl⟩
 rw [eb] at x5 hx
 cases bu with
 | false =>
  have HT := Aside0.mk (show T.fuse n = { T with burns := true, left := n } by unfold TM.fuse; rw [if_pos HE.out, if_neg (by rw [eb]; simp)])
  clear h1 h2 hx eb HB
  go_enter Try.func26, Try.ntmps26
  go_wp2_with fail
  go_ret
  exact ⟨by rw [HE.out]; rfl, by rw [HT.out]; exact ptape_fused HP.out n⟩
 | true =>
  have hxl := hx rfl
  by_cases h3 : x < n
  ·have HT := Aside0.mk (show T.fuse n = { T with burns := true, left := x } by unfold TM.fuse; rw [if_pos HE.out, if_pos ⟨eb, by omega⟩, hxl])
   have hmin : (if x < n then x else n) = x := if_pos h3
   clear h1 h2 hx eb HB hxl
   go_enter Try.func26, Try.ntmps26
   go_wp2_with fail
   go_ret
   exact ⟨by rw [HE.out]; rfl, by rw [HT.out]; exact ptape_fused HP.out x⟩
  ·have HT := Aside0.mk (show T.fuse n = { T with burns := true, left := n } by unfold TM.fuse; rw [if_pos HE.out, if_neg (by omega)])
   have hmin : (if x < n then x else n) = n := if_neg h3
   clear h1 h2 hx eb HB hxl
   go_enter Try.func26, Try.ntmps26
   go_wp2_with fail
   go_ret
   exact ⟨by rw [HE.out]; rfl, by rw [HT.out]; exact ptape_fused HP.out n⟩
end Go.Proofs.Ytmfmoddaejoekaa.P
end
section
/- Contracts, typed by hand: the program's tape: New, Clear's way to Trim. -/
set_option linter.unusedVariables false
set_option linter.unusedSimpArgs false
namespace Go.Proofs.Ytmfmoddaejoekaa.P
open Go.RowKit Go.Proofs.YtmfmoddaejoekaaW.PrintWords Go.Proofs.YtmfmoddaejoekaaW.PrintLast Go.Proofs.YtmfmoddaejoekaaW.PrintMore
theorem tape_New.calls (W : World) :
  Calls Try.prog 8 #[] W fun e W' => ∃ g, e = .returned (.pointer (some ⟨g, 0, none⟩)) ∧ (PTape g TM.new).P (fun k => W.heap.size ≤ k) W' ∧ Below W.heap.size W W' := by
 go_enter Try.func8, Try.ntmps8
 go_wp2_with fail
 go_ret
 refine ⟨W.heap.size, rfl, ptape_mk (v0 := .slice none 0 0) (v1 := .slice none 0 0) (m0 := .slice none 0 0) (m1 := .slice none 0 0) (vu := .slice none 0 0) (x := 0) (fun _ => rfl) ⟨Nat.le_refl _, heap_alloc_new W _, fun _ => 0, fun i R hi => ?_⟩, below_alloc (Below.refl _ _) _⟩
 match i, hi with
 | 0, hi => cases hi; exact .inl (Kd.R_nil _ _ _ _ _)
 | 1, hi => cases hi; exact .inl (Kd.R_nil _ _ _ _ _)
 | 2, hi => cases hi; exact .inl (Kd.R_nil _ _ _ _ _)
 | 3, hi => cases hi; exact .inl (Kd.R_nil _ _ _ _ _)
 | 4, hi => cases hi; exact Kd.R_nil _ _ _ _ _
end Go.Proofs.Ytmfmoddaejoekaa.P
end
