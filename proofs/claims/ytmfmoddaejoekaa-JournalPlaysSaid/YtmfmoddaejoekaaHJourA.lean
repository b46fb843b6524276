/- Contracts, typed by hand: a journal: Append's first ways. -/
import Derived.Test.YtmfmoddaejoekaaHJour
import Derived.Test.YtmfmoddaejoekaaP6
set_option linter.unusedVariables false
set_option linter.unusedSimpArgs false
namespace Go.Proofs.Ytmfmoddaejoekaa.P
open Go.RowKit Go.Proofs.YtmfmoddaejoekaaW.PrintWords Go.Proofs.YtmfmoddaejoekaaW.PrintLast Go.Proofs.YtmfmoddaejoekaaW.PrintMore
theorem results_cell_int {P : Program} {fn : Func} {p : Tmp} {ty : TypeId} {k : IntKind} (h : fn.results = #[.cell p ty]) (tmps : Array Value) (w : World) (g : Nat) (v : Value)
  (hp : tmps.getD p undef = .pointer (some ⟨g, 0, none⟩)) (hv : w.cell? ⟨g, 0, none⟩ = some v) (hu : P.underlying ty = some (.int k)) : (results fn tmps).run P w = .ok v w := by
 have hp' : tmps[p]?.getD undef = .pointer (some ⟨g, 0, none⟩) := by simpa using hp
 simp [results, h, hp', asAddr, loadVar, isAgg, run_underlying hu, Result.andThen, hv, go_sem]
theorem is_eq (r : List Int) : journal_is.f r = some (isRec r) := by
 unfold journal_is.f isRec
 by_cases h1 : (r.length : Int) ≥ 1
 ·rw [if_pos h1]
  by_cases h2 : (r.length : Int) ≤ 8192
  ·rw [decide_eq_true h2, decide_eq_true (by omega)]
  ·rw [decide_eq_false h2, decide_eq_false (by omega)]
 ·rw [if_neg h1, decide_eq_false (by omega)]
theorem pw_keeps {w w1 : World} {S : Nat → Prop} {g i : Nat} {v : Value} (h : Keeps w w1 S) (hn : ¬ S g) (hc : w.cell? ⟨g, i, none⟩ = some v) : w1.cell? ⟨g, i, none⟩ = some v := by
 have hb := h.block g (World.block_lt_of_cell? w _ hc) hn
 simp only [World.cell?] at hc ⊢
 rw [hb]
 exact hc
set_option maxHeartbeats 4000000 in
theorem jour_Append.broken (gj gt : Nat) (T : TM) (J : JM) (A : Option Addr) (c : Nat) (r : List Int) (W : World) (ok : Nat → Prop) (hP : (Res.sep (PTape gt T) (PJour gj gt J)).P ok W) (hb : J.broken = true) :
  Calls Try.prog 13 #[.pointer (some ⟨gj, 0, none⟩), .slice A r.length c] W fun e W' => e = .returned (.int .i64 40) ∧ Below W.heap.size W W' := by
 obtain ⟨okj, hJ, _⟩ := sep_snd hP
 obtain ⟨A0, c0, hC, _⟩ := jour_open hJ
 obtain ⟨x0, x1, x2, x3, x4, x5, _⟩ := blk_all6 (jour_blk hC)
 rw [hb] at x5
 clear hP hJ hC hb
 replace x5 := pw_cell_below (below_alloc (Below.refl W.heap.size W) (.cells #[.int .i64 0] 26)) x5
 have hu26 := Try.underlying26
 go_enter_defers Try.func13, Try.ntmps13
 go_wp2_with fail
 exact ⟨_, results_cell_int rfl _ _ W.heap.size _ rfl (by rw [blk_cell (heap_alloc_new _ _)]; rfl) hu26, rfl, below_alloc (Below.refl _ _) _⟩
set_option maxHeartbeats 4000000 in
theorem jour_Append.arg (gj gt : Nat) (T : TM) (J : JM) (A : Option Addr) (c : Nat) (r : List Int) (W : World) (ok : Nat → Prop) (hP : (Res.sep (PTape gt T) (PJour gj gt J)).P ok W) (hC : Kd.C (Kd.int .u8) W A r.length r) (hc : r.length ≤ c) (hb : J.broken = false) (hr : isRec r = false) :
  Calls Try.prog 13 #[.pointer (some ⟨gj, 0, none⟩), .slice A r.length c] W fun e W' => e = .returned (.int .i64 1) ∧ Below W.heap.size W W' := by
 have HI := Aside0.mk (journal_is.calls A c r false (W.alloc (.cells #[.int .i64 0] 26)) (Kd.C_alloc hC _) hc (by rw [is_eq, hr]))
 obtain ⟨okj, hJ, _⟩ := sep_snd hP
 obtain ⟨A0, c0, hC0, _⟩ := jour_open hJ
 obtain ⟨x0, x1, x2, x3, x4, x5, _⟩ := blk_all6 (jour_blk hC0)
 rw [hb] at x5
 clear hP hJ hC0 hb hC hr
 replace x5 := pw_cell_below (below_alloc (Below.refl W.heap.size W) (.cells #[.int .i64 0] 26)) x5
 have hu26 := Try.underlying26
 go_enter_defers Try.func13, Try.ntmps13
 go_wp2_with fail
 refine HI.out.mono ?_
 rintro e w1 ⟨rfl, ⟨n, rfl⟩⟩
 have hg := blk_drewN (heap_alloc_new W (.cells #[.int .i64 0] 26)) n
 obtain ⟨y0, f0⟩ := blk_all1 hg
 have HG := Aside0.mk hg
 clear hg
 go_wp2_with fail
 exact ⟨_, results_cell_int rfl _ _ W.heap.size _ rfl (by rw [blk_cell (blk_set HG.out 0 _)]; rfl) hu26, rfl, (Keeps.set (S := fun _ => False) (Keeps.of_below (pw_below_drewN (below_alloc (Below.refl _ _) _) n) _) (p := ⟨W.heap.size, 0, none⟩) (.inr (Nat.le_refl _)) _).belowF⟩
/-- The journal behind its deferred call. -/
theorem door_post {gj gt : Nat} {T : TM} {J : JM} {ok : Nat → Prop} {w : World} (h : (Res.sep (PTape gt T) (PJour gj gt J)).P ok w) (b : Bool) : Turned ok w (w.setCell ⟨gj, 5, none⟩ (.bool b)) (Res.sep (PTape gt T) (PJour gj gt { J with broken := b })) := by
 obtain ⟨okj, hJ, _, hback⟩ := sep_right h
 obtain ⟨A0, c0, hC, _⟩ := jour_open hJ
 have h5 := obj_set hC 5 (.bool b)
 exact hback ⟨h5.2, (PJour gj gt _).mono (fun _ hk => .inl hk) (jour_mk (J := { J with broken := b }) h5.1)⟩
theorem sep_step {R : Res} {ok : Nat → Prop} {w : World} {g : Nat} (h : R.P ok w) (hn : ¬ ok g) (v : Value) : R.P ok (w.setCell ⟨g, 0, none⟩ v) := R.step h (fun k hk _ => Below.heap_setCell w ⟨g, 0, none⟩ v k (fun he => hn (by have he' : k = g := he; rw [← he']; exact hk)))
theorem no_panic {P : Program} {c : Code} {Q : Exit → Act → World → Prop} {a : Act} {w : World} (h : c.wp P (fun e a w => (∀ x, e ≠ Exit.panic x) ∧ Q e a w) a w) : c.wp P Q a w := wp_mono h (fun _ _ _ h => h.2)
theorem jour_in {gj gt : Nat} {J : JM} {ok : Nat → Prop} {W : World} (h : (PJour gj gt J).P ok W) : ok gj := by
 obtain ⟨v, hv⟩ := h
 exact obj_ok hv
/-- The deferred call, and the result behind it. -/
theorem jour_leave {gj gt ge err0 : Nat} {T : TM} {J : JM} {ok : Nat → Prop} {w : World} {fn : Func} {p : Tmp} {tmps : Array Value} {err : Int} {R : Ending → World → Prop} (hfn : fn.results = #[.cell p 26])
  (hs : (Res.sep (PTape gt T) (PJour gj gt J)).P ok w) (hb : J.broken = false) (hge : ¬ ok ge) (herr : w.cell? ⟨ge, 0, none⟩ = some (.int .i64 err)) (htm : tmps.getD p undef = .pointer (some ⟨ge, 0, none⟩))
  (hR : ∀ w'', Turned ok w w'' (Res.sep (PTape gt T) (PJour gj gt { J with broken := brk err })) → R (.returned (.int .i64 err)) w'') :
  Leaves Try.prog fn tmps R [{ target := Target.fn (Fn.func 43) #[], args := #[.pointer (some ⟨gj, 0, none⟩), .pointer (some ⟨ge, 0, none⟩)] }] .returning w := by
 obtain ⟨okj, hJ, hjs, _⟩ := sep_right hs
 obtain ⟨A0, c0, hC, _⟩ := jour_open hJ
 obtain ⟨x0, x1, x2, x3, x4, x5, f0, f1, f2, f3, f4, f5⟩ := blk_all6 (jour_blk hC)
 rw [hb] at x5
 have hne : ge ≠ gj := fun he => hge (he ▸ (hjs gj (jour_in hJ)).1)
 refine leaves_cons (f := 43) (args := #[.pointer (some ⟨gj, 0, none⟩), .pointer (some ⟨ge, 0, none⟩)]) (by simp) (by simp [go_sem]) ?_
 refine (jour_breaks.calls gj ge err w .returning x5 f5 herr).mono ?_
 rintro e u' w'' ⟨rfl, rfl, rfl⟩
 refine ⟨_, results_cell_int hfn _ _ ge (.int .i64 err) htm ?_ Try.underlying26, hR _ (door_post hs (brk err))⟩
 rw [← herr]
 exact World.cell?_setCell_other _ ⟨gj, 5, none⟩ ⟨ge, 0, none⟩ _ (by simp [hne])
set_option maxHeartbeats 16000000 in
set_option maxRecDepth 100000 in
theorem jour_Append.yes (gj gt : Nat) (T : TM) (N : Nat) (hT : T.Ok N) (hN : N + 9000 ≤ 1000000000) (J : JM) (A : Option Addr) (c : Nat) (r : List Int) (W : World) (ok : Nat → Prop) (hP : (Res.sep (PTape gt T) (PJour gj gt J)).P ok W) (hQ : ∀ W', Keeps W W' ok → Kd.C (Kd.int .u8) W' A r.length r) (hc : r.length ≤ c) (hb : J.broken = false) (hr : isRec r = true) (hL : J.L.length ≤ 100000) (hS : 0 ≤ J.size ∧ J.size ≤ 1000000000) :
  Calls Try.prog 13 #[.pointer (some ⟨gj, 0, none⟩), .slice A r.length c] W fun e W' => e = .returned (.int .i64 (appendM T J r).1) ∧ Turned ok W W' (Res.sep (PTape gt (appendM T J r).2.1) (PJour gj gt (appendM T J r).2.2)) := by
 have HI := Aside0.mk (journal_is.calls A c r true (W.alloc (.cells #[.int .i64 0] 26)) (Kd.C_alloc (hQ W (Keeps.refl _ _)) _) hc (by rw [is_eq, hr]))
 have HRL := Aside0.mk (show r.length ≤ 8192 by unfold isRec at hr; have := of_decide_eq_true hr; omega)
 have HM := Aside0.mk (show appendM T J r = _ by unfold appendM; rw [if_neg (by rw [hb]; decide), if_neg (by rw [hr]; decide)])
 have HT := Aside0.mk hT
 have HNN := Aside0.mk hN
 have HPB := Aside0.mk (Res.bound _ hP)
 have HQ := Aside0.mk hQ
 have HSZ := Aside0.mk hS
 have HLL := Aside0.mk hL
 have HBR := Aside0.mk hb
 obtain ⟨okj, hJ, hjs⟩ := sep_snd (Res.bound _ hP)
 obtain ⟨A0, c0, hC0, _⟩ := jour_open hJ
 obtain ⟨sd, esd⟩ : ∃ sd, J.side = sd := ⟨_, rfl⟩
 have HSD := Aside0.mk esd
 rw [esd] at HM
 have HJG := Aside0.mk (show gj < W.heap.size from blk_lt (jour_blk hC0))
 obtain ⟨x0, x1, x2, x3, x4, x5, _⟩ := blk_all6 (jour_blk hC0)
 have HJK := Aside0.mk (And.intro x0 x1)
 rw [hb] at x5
 rw [esd] at HJK
 clear hP hJ hC0 hb hQ hr hT hN hS hL hjs esd
 replace x5 := pw_cell_below (below_alloc (Below.refl W.heap.size W) (.cells #[.int .i64 0] 26)) x5
 have hu26 := Try.underlying26
 go_enter_defers Try.func13, Try.ntmps13
 go_wp2_with fail
 refine HI.out.mono ?_
 rintro e w1 ⟨rfl, ⟨n, rfl⟩⟩
 obtain ⟨w1, e1⟩ : ∃ w1, w1 = (W.alloc (.cells #[.int .i64 0] 26)).drewN n := ⟨_, rfl⟩
 rw [← e1]
 have HB1 := Aside0.mk (show Below W.heap.size W w1 by rw [e1]; exact pw_below_drewN (below_alloc (Below.refl _ _) _) _)
 have HG1 := Aside0.mk (show w1.heap[W.heap.size]? = some (.cells #[.int .i64 0] 26 (0, 0)) by rw [e1]; exact blk_drewN (heap_alloc_new W _) n)
 clear e1 x0 x1 x2 x3 x4 x5 HI
 go_wp2_with fail
 refine (journal_frame.calls (.slice none 0 0) [] A c r w1 (fun _ => False) (Kd.R_nil _ _ _ _ _) (fun W' hk => HQ.out W' (Keeps.of_below (below_step HB1.out hk.belowF) _)) (by have := HRL.out; omega) (by decide)).mono ?_
 rintro e w2 ⟨v2, rfl, ht2⟩
 obtain ⟨Af, cf, ev2⟩ := Kd.R_slice (show (Kd.int .u8).R 5 w2 0 _ v2 ([] ++ frameM r) from ht2.2)
 rw [List.nil_append] at ht2 ev2
 subst ev2
 have HB2 := Aside0.mk (below_step HB1.out ht2.1.belowF)
 have HG2 := Aside0.mk ((ht2.1.belowF.block _ (blk_lt HG1.out)).trans HG1.out)
 have HF2 := Aside0.mk (show (Kd.int .u8).R 5 w2 0 (fun k => w1.heap.size ≤ k) (.slice Af (frameM r).length cf) (frameM r) from Kd.R_mono ht2.2 (fun k hk => hk.elim False.elim id))
 clear ht2
 go_wp2_with fail
 obtain ⟨f, ef⟩ : ∃ f, frameM r = f := ⟨_, rfl⟩
 have HFL := Aside0.mk (show f.length = r.length + 4 ∧ f.length ≤ 8196 by have := frameM_len r; have := HRL.out; rw [← ef]; omega)
 rw [ef] at HF2 HM
 rw [ef]
 clear ef
 obtain ⟨w3, e3⟩ : ∃ w3, w3 = w2.drew := ⟨_, rfl⟩
 have HD3 := Aside0.mk (show Below w2.heap.size w2 w3 by rw [e3]; exact below_drew (Below.refl _ _))
 have HB3 := Aside0.mk (below_step HB2.out HD3.out)
 have HG3 := Aside0.mk ((HD3.out.block _ (blk_lt HG2.out)).trans HG2.out)
 have HF3 := Aside0.mk (Kd.R_mono (Kd.R_bound (Kd.R_below HF2.out HD3.out)) (ok' := fun k => W.heap.size + 1 ≤ k ∧ k < w3.heap.size) (fun k hk => ⟨by have := blk_lt HG1.out; have := hk.1; omega, hk.2.2.1⟩))
 have hj0 := pw_cell_below HB3.out HJK.out.1
 have hj1 := pw_cell_below HB3.out HJK.out.2
 obtain ⟨okt, okj3, htp, hJ3, hap, hts, htb⟩ := sep_left2 (Res.on _ HPB.out HB3.out)
 have HTP := Aside0.mk htp
 have HTS := Aside0.mk (show ∀ k, okt k → ok k ∧ k < W.heap.size from fun k hk => (hts k hk).1)
 have HTB := Aside0.mk @htb
 have HNJ := Aside0.mk (show ¬ okt gj from fun hk => hap gj hk (jour_in hJ3))
 clear htp hts htb hJ3 hap
 refine no_panic ?_
 refine start_ (n := 11) (S := fun w' => w'.cell? ⟨gj, 0, none⟩ = some (.pointer (some ⟨gt, 0, none⟩)) ∧ w'.cell? ⟨gj, 1, none⟩ = some (.int .i64 sd)) (ds := []) #[false, false, false, false, false, false, false, false, false, false, false] (by kernel_rfl) rfl rfl ⟨(by rw [← e3]; exact hj0), (by rw [← e3]; exact hj1)⟩ (fun hHeld => ?_)
 rw [← e3] at hHeld ⊢
 clear e3
 refine pure_ (i := 0) (N := some 20) (v := ?_) (a' := ?_) #[true, false, false, false, false, false, false, false, false, false, false] rfl rfl (by kernel_rfl) (fun _ _ _ h => absurd rfl (h.1 _)) (Or.inl ⟨by rfl, ?_⟩) ?_ ?_
 rotate_left
 ·intro w'
  go_simp
  with_reducible rfl
 rotate_left
 ·simp only [Act.put, List.setIfInBounds_toArray, List.set_cons_zero, List.set_cons_succ, i64_w, i32_w]
  rfl
 refine pure_ (i := 1) (N := some 21) (v := ?_) (a' := ?_) #[true, true, false, false, false, false, false, false, false, false, false] rfl rfl (by kernel_rfl) (fun _ _ _ h => absurd rfl (h.1 _)) (Or.inl ⟨by rfl, ?_⟩) ?_ ?_
 rotate_left
 ·intro w'
  go_simp
  with_reducible rfl
 rotate_left
 ·simp only [Act.put, List.setIfInBounds_toArray, List.set_cons_zero, List.set_cons_succ, i64_w, i32_w]
  rfl
 refine pure_ (i := 2) (N := some 22) (v := ?_) (a' := ?_) #[true, true, true, false, false, false, false, false, false, false, false] rfl rfl (by kernel_rfl) (fun _ _ _ h => absurd rfl (h.1 _)) (Or.inl ⟨by rfl, ?_⟩) ?_ ?_
 rotate_left
 ·intro w'
  go_simp
  with_reducible rfl
 rotate_left
 ·simp only [Act.put, List.setIfInBounds_toArray, List.set_cons_zero, List.set_cons_succ, i64_w, i32_w]
  rfl
 refine pure_ (i := 4) (N := some 24) (v := ?_) (a' := ?_) #[true, true, true, false, true, false, false, false, false, false, false] rfl rfl (by kernel_rfl) (fun _ _ _ h => absurd rfl (h.1 _)) (Or.inl ⟨by rfl, ?_⟩) ?_ ?_
 rotate_left
 ·intro w'
  go_simp
  with_reducible rfl
 rotate_left
 ·simp only [Act.put, List.setIfInBounds_toArray, List.set_cons_zero, List.set_cons_succ, i64_w, i32_w]
  rfl
 refine pure_ (i := 5) (N := some 25) (v := ?_) (a' := ?_) #[true, true, true, false, true, true, false, false, false, false, false] rfl rfl (by kernel_rfl) (fun _ _ _ h => absurd rfl (h.1 _)) (Or.inl ⟨by rfl, ?_⟩) ?_ ?_
 rotate_left
 ·intro w'
  go_simp
  with_reducible rfl
 rotate_left
 ·simp only [Act.put, List.setIfInBounds_toArray, List.set_cons_zero, List.set_cons_succ, i64_w, i32_w]
  rfl
 refine pure_ (i := 6) (N := some 26) (v := ?_) (a' := ?_) #[true, true, true, false, true, true, true, false, false, false, false] rfl rfl (by kernel_rfl) (fun _ _ _ h => absurd rfl (h.1 _)) (Or.inl ⟨by rfl, ?_⟩) ?_ ?_
 rotate_left
 ·intro w'
  go_simp
  with_reducible rfl
 rotate_left
 ·simp only [Act.put, List.setIfInBounds_toArray, List.set_cons_zero, List.set_cons_succ, i64_w, i32_w]
  rfl
 refine pure_ (i := 8) (N := some 28) (v := ?_) (a' := ?_) #[true, true, true, false, true, true, true, false, true, false, false] rfl rfl (by kernel_rfl) (fun _ _ _ h => absurd rfl (h.1 _)) (Or.inl ⟨by rfl, ?_⟩) ?_ ?_
 rotate_left
 ·intro w'
  go_simp
  with_reducible rfl
 rotate_left
 ·simp only [Act.put, List.setIfInBounds_toArray, List.set_cons_zero, List.set_cons_succ, i64_w, i32_w]
  rfl
 refine take_ (i := 3) (N := some 23) (v := ?_) (a' := ?_) #[true, true, true, true, true, true, true, false, true, false, false] rfl rfl (by kernel_rfl) (fun _ _ _ h => absurd rfl (h.1 _)) (Or.inl ⟨by rfl, ?_⟩) hHeld ?_ ?_
 rotate_left
 ·rintro w' ⟨s0, s1⟩
  go_simp
  with_reducible rfl
 rotate_left
 ·simp only [Act.put, List.setIfInBounds_toArray, List.set_cons_zero, List.set_cons_succ, i64_w, i32_w]
  rfl
 refine take_ (i := 7) (N := some 27) (v := ?_) (a' := ?_) #[true, true, true, true, true, true, true, true, true, false, false] rfl rfl (by kernel_rfl) (fun _ _ _ h => absurd rfl (h.1 _)) (Or.inl ⟨by rfl, ?_⟩) hHeld ?_ ?_
 rotate_left
 ·rintro w' ⟨s0, s1⟩
  go_simp
  with_reducible rfl
 rotate_left
 ·simp only [Act.put, List.setIfInBounds_toArray, List.set_cons_zero, List.set_cons_succ, i64_w, i32_w]
  rfl
 refine one_ (i := 9) (N := some 29) #[true, true, true, true, true, true, true, true, true, true, false] rfl rfl (by kernel_rfl) (by decide) (fun K hK => ?_)
 refine goes_ Try.func19 (by kernel_rfl) rfl #[.pointer (some ⟨gt, 0, none⟩), .int .i64 sd, .slice Af f.length cf] (by rfl) rfl rfl (by simp only [List.map_toArray, List.map_cons, List.map_nil]; rfl) ?_
 with_reducible refine ((tape_Write.calls gt T N HT.out (by have := HNN.out; omega) sd Af cf f w3 okt HTP.out (fun W' hk => (Kd.R_reads' (Kd.R_step HF3.out (fun k hk2 hlt => hk.block k hlt (fun hh => by have := (HTS.out k hh).2; omega)))).2.2) (by have := HFL.out; omega))).mono ?_
 rintro e w4 ⟨rfl, ht4⟩
 have HT4 := Aside0.mk ht4
 clear ht4
 refine ⟨_, rfl, ?_⟩
 refine hK.out _ _ ⟨(pw_keeps HT4.out.1 HNJ.out hj0), (pw_keeps HT4.out.1 HNJ.out hj1)⟩ (fun hHeld => ?_)
 clear hK K
 refine norm_ (a' := ?_) ?_ ?_
 rotate_left
 ·show Act.put _ (some 29) _ = _
  simp only [Act.put, List.setIfInBounds_toArray, List.set_cons_zero, List.set_cons_succ, i64_w, i32_w]
  rfl
 refine pure_ (i := 10) (N := some 6) (v := ?_) (a' := ?_) #[true, true, true, true, true, true, true, true, true, true, true] rfl rfl (by kernel_rfl) (fun _ _ _ h => absurd rfl (h.1 _)) (Or.inl ⟨by rfl, ?_⟩) ?_ ?_
 rotate_left
 ·intro w'
  go_simp
  with_reducible rfl
 rotate_left
 ·simp only [Act.put, List.setIfInBounds_toArray, List.set_cons_zero, List.set_cons_succ, i64_w, i32_w]
  rfl
 refine done_ (by kernel_rfl) ?_
 refine ⟨fun x hx => (by cases hx), ?_⟩
 obtain ⟨T1, eT1⟩ : ∃ T1, T.write sd f = T1 := ⟨_, rfl⟩
 have HS4 := Aside0.mk (HTB.out HT4.out)
 rw [eT1] at HS4 HM
 have HT1 := Aside0.mk (show T1.Ok (N + f.length) from eT1 ▸ TM.write_ok HT.out sd f)
 have HK4 := Aside0.mk (show Keeps W w4 (fun k => ok k ∧ k < W.heap.size) from (Keeps.of_below HB3.out _).then_ HS4.out.1 (fun k hk => .inl hk))
 have HGE := Aside0.mk (show ¬ ((ok W.heap.size ∧ W.heap.size < W.heap.size) ∨ w3.heap.size ≤ W.heap.size) from fun hh => hh.elim (fun h => Nat.lt_irrefl _ h.2) (fun h => by have := blk_lt HG3.out; omega))
 have HG4 := Aside0.mk (show w4.heap[W.heap.size]? = some (.cells #[.int .i64 0] 26 (0, 0)) from (HS4.out.1.block _ (blk_lt HG3.out) (fun hh => Nat.lt_irrefl _ hh.2)).trans HG3.out)
 have HW34 := Aside0.mk HT4.out.1.size
 clear HTB HT4 HTP HTS HNJ hj0 hj1 hHeld HF3 HF2 HG1 HG2 HD3 HB1 HB2 HJK eT1
 obtain ⟨y0, g0⟩ := blk_all1 HG4.out
 obtain ⟨e1, ee1⟩ : ∃ e1, T.writeE sd f = e1 := ⟨_, rfl⟩
 rw [ee1] at HM ⊢
 clear ee1
 by_cases h1 : e1 ≠ 0
 ·have b1 : (e1 != 0) = true := by simp [h1]
  have b2 : (e1 == 0) = false := by simp [h1]
  have HM1 := Aside0.mk (HM.out.trans (if_pos h1))
  clear h1
  go_wp2_with fail
  refine jour_leave (gt := gt) (T := T1) (J := J) (ok := fun k => (ok k ∧ k < W.heap.size) ∨ w3.heap.size ≤ k) (err0 := 0) rfl (sep_step HS4.out.2 HGE.out _) HBR.out HGE.out (by rw [blk_cell (blk_set HG4.out 0 _)]; rfl) rfl (fun w'' ht => ?_)
  rw [HM1.out, ← HSD.out]
  have hm : ∀ k, ((ok k ∧ k < W.heap.size) ∨ w3.heap.size ≤ k) → ok k ∨ W.heap.size ≤ k := fun k hk => hk.imp (·.1) (Nat.le_trans HB3.out.size)
  have k5 := Keeps.set HK4.out (p := ⟨W.heap.size, 0, none⟩) (.inr (Nat.le_refl _)) (.int .i64 e1)
  refine ⟨rfl, (k5.mono (fun k _ hk => hk.1)).then_ ht.1 (fun k hk => hm k hk), Res.mono _ (fun k hk => hk.elim (hm k) (fun h => .inr (Nat.le_trans k5.size h))) ht.2⟩
 have b1 : (e1 != 0) = false := by simpa using h1
 have b2 : (e1 == 0) = true := by simpa using h1
 have HM1 := Aside0.mk (HM.out.trans (if_neg h1))
 have he10 : e1 = 0 := by omega
 subst he10
 clear h1 HM b1 b2
 have hj4 : ∃ okj, (PJour gj gt J).P okj w4 := (sep_snd HS4.out.2).imp fun _ h => h.1
 obtain ⟨okj4, hJ4⟩ := hj4
 obtain ⟨A4, c4, hC4, _⟩ := jour_open hJ4
 obtain ⟨z0, z1, z2, z3, z4, z5, _⟩ := blk_all6 (jour_blk hC4)
 clear hJ4 hC4
 go_wp2_with fail
 obtain ⟨okt4, okj4', htp4, hJ4, hap4, hts4, htb4⟩ := sep_left2 HS4.out.2
 have HTB4 := Aside0.mk @htb4
 have HGE4 := Aside0.mk (show ¬ okt4 W.heap.size from fun hk => HGE.out (hts4 _ hk).1)
 refine (tape_Sync.calls gt T1 (N + f.length) HT1.out w4 okt4 htp4).mono ?_
 rintro e w5 ⟨rfl, ht5⟩
 have HT5 := Aside0.mk ht5
 have HS5 := Aside0.mk (HTB4.out ht5)
 have HG5 := Aside0.mk (show w5.heap[W.heap.size]? = some (.cells #[.int .i64 0] 26 (0, 0)) from (ht5.1.block _ (blk_lt HG4.out) HGE4.out).trans HG4.out)
 clear y0 g0 z0 z1 z2 z3 z4 z5 htp4 hJ4 hap4 hts4 htb4 ht5
 obtain ⟨T2, eT2⟩ : ∃ T2, T1.sync = T2 := ⟨_, rfl⟩
 obtain ⟨e2, ee2⟩ : ∃ e2, T1.ready 0 = e2 := ⟨_, rfl⟩
 rw [eT2] at HS5 HM1
 rw [ee2] at HM1 ⊢
 have HK5 := Aside0.mk (HK4.out.then_ HS5.out.1 (fun k hk => hk.imp id (Nat.le_trans HB3.out.size)))
 have HGE5 := Aside0.mk (show ¬ (((ok W.heap.size ∧ W.heap.size < W.heap.size) ∨ w3.heap.size ≤ W.heap.size) ∨ w4.heap.size ≤ W.heap.size) from fun hh => hh.elim HGE.out (fun h => by have := blk_lt HG4.out; omega))
 clear eT2 ee2 HTB4 HT5 HGE4
 obtain ⟨y0, g0⟩ := blk_all1 HG5.out
 by_cases h2 : e2 ≠ 0
 ·have b1 : (e2 != 0) = true := by simp [h2]
  have b2 : (e2 == 0) = false := by simp [h2]
  have HM2 := Aside0.mk (HM1.out.trans (if_pos h2))
  clear h2
  go_wp2_with fail
  refine jour_leave (gt := gt) (T := T2) (J := J) (ok := fun k => ((ok k ∧ k < W.heap.size) ∨ w3.heap.size ≤ k) ∨ w4.heap.size ≤ k) (err0 := 0) rfl (sep_step HS5.out.2 HGE5.out _) HBR.out HGE5.out (by rw [blk_cell (blk_set HG5.out 0 _)]; rfl) rfl (fun w'' ht => ?_)
  rw [HM2.out, ← HSD.out]
  have hm : ∀ k, (((ok k ∧ k < W.heap.size) ∨ w3.heap.size ≤ k) ∨ w4.heap.size ≤ k) → ok k ∨ W.heap.size ≤ k := fun k hk => hk.elim (fun h => h.imp (·.1) (Nat.le_trans HB3.out.size)) (fun h => .inr (Nat.le_trans HK4.out.size h))
  have k5 := Keeps.set HK5.out (p := ⟨W.heap.size, 0, none⟩) (.inr (Nat.le_refl _)) (.int .i64 e2)
  refine ⟨rfl, (k5.mono (fun k _ hk => hk.1)).then_ ht.1 (fun k hk => hm k hk), Res.mono _ (fun k hk => hk.elim (hm k) (fun h => .inr (Nat.le_trans k5.size h))) ht.2⟩
 have b1 : (e2 != 0) = false := by simpa using h2
 have b2 : (e2 == 0) = true := by simpa using h2
 have HM2 := Aside0.mk (HM1.out.trans (if_neg h2))
 have he20 : e2 = 0 := by omega
 subst he20
 clear h2 HM1 b1 b2
 go_wp2_with fail
 obtain ⟨w6, e6⟩ : ∃ w6, w6 = w5.drew := ⟨_, rfl⟩
 have HD6 := Aside0.mk (show Below w5.heap.size w5 w6 by rw [e6]; exact below_drew (Below.refl _ _))
 have HG6 := Aside0.mk ((HD6.out.block _ (blk_lt HG5.out)).trans HG5.out)
 have HK6 := Aside0.mk (HK5.out.step HD6.out)
 obtain ⟨okj6, hJ6, hjs6, hjb6⟩ := sep_right (Res.on _ HS5.out.2 HD6.out)
 have HJB6 := Aside0.mk @hjb6
 have HJS6 := Aside0.mk hjs6
 obtain ⟨A6, c6, hC6, hcap6⟩ := jour_open hJ6
 obtain ⟨okq, hq, hqs, hqb⟩ := obj_turn hC6 0 rfl
 have HQB := Aside0.mk @hqb
 have HQ6 := Aside0.mk (Kd.Q_bound (show (Kd.slice 5 (Kd.int .u8)).Q 30 w6 0 okq (.slice A6 J.L.length c6) J.L from hq))
 have HJ6 := Aside0.mk (jour_blk hC6)
 have HQS := Aside0.mk hqs
 have hj3 : w6.cell? ⟨gj, 3, none⟩ = some (.slice A6 J.L.length c6) := by rw [blk_cell HJ6.out]; rfl
 clear hJ6 hjs6 hjb6 hC6 hq hqs hqb
 refine no_panic ?_
 refine start_ (n := 12) (S := fun w' => w'.cell? ⟨gj, 3, none⟩ = some (.slice A6 J.L.length c6)) (ds := [11]) #[false, false, false, false, false, false, false, false, false, false, false, false] (by kernel_rfl) rfl rfl ((by rw [← e6]; exact hj3)) (fun hHeld => ?_)
 rw [← e6] at hHeld ⊢
 clear e6
 refine pure_ (i := 0) (N := some 41) (v := ?_) (a' := ?_) #[true, false, false, false, false, false, false, false, false, false, false, false] rfl rfl (by kernel_rfl) (fun _ _ _ h => absurd rfl (h.1 _)) (Or.inl ⟨by rfl, ?_⟩) ?_ ?_
 rotate_left
 ·intro w'
  go_simp
  with_reducible rfl
 rotate_left
 ·simp only [Act.put, List.setIfInBounds_toArray, List.set_cons_zero, List.set_cons_succ, i64_w, i32_w]
  rfl
 refine pure_ (i := 1) (N := some 42) (v := ?_) (a' := ?_) #[true, true, false, false, false, false, false, false, false, false, false, false] rfl rfl (by kernel_rfl) (fun _ _ _ h => absurd rfl (h.1 _)) (Or.inl ⟨by rfl, ?_⟩) ?_ ?_
 rotate_left
 ·intro w'
  go_simp
  with_reducible rfl
 rotate_left
 ·simp only [Act.put, List.setIfInBounds_toArray, List.set_cons_zero, List.set_cons_succ, i64_w, i32_w]
  rfl
 refine pure_ (i := 2) (N := some 43) (v := ?_) (a' := ?_) #[true, true, true, false, false, false, false, false, false, false, false, false] rfl rfl (by kernel_rfl) (fun _ _ _ h => absurd rfl (h.1 _)) (Or.inl ⟨by rfl, ?_⟩) ?_ ?_
 rotate_left
 ·intro w'
  go_simp
  with_reducible rfl
 rotate_left
 ·simp only [Act.put, List.setIfInBounds_toArray, List.set_cons_zero, List.set_cons_succ, i64_w, i32_w]
  rfl
 refine pure_ (i := 3) (N := some 44) (v := ?_) (a' := ?_) #[true, true, true, true, false, false, false, false, false, false, false, false] rfl rfl (by kernel_rfl) (fun _ _ _ h => absurd rfl (h.1 _)) (Or.inl ⟨by rfl, ?_⟩) ?_ ?_
 rotate_left
 ·intro w'
  go_simp
  with_reducible rfl
 rotate_left
 ·simp only [Act.put, List.setIfInBounds_toArray, List.set_cons_zero, List.set_cons_succ, i64_w, i32_w]
  rfl
 refine pure_ (i := 5) (N := some 46) (v := ?_) (a' := ?_) #[true, true, true, true, false, true, false, false, false, false, false, false] rfl rfl (by kernel_rfl) (fun _ _ _ h => absurd rfl (h.1 _)) (Or.inl ⟨by rfl, ?_⟩) ?_ ?_
 rotate_left
 ·intro w'
  go_simp
  with_reducible rfl
 rotate_left
 ·simp only [Act.put, List.setIfInBounds_toArray, List.set_cons_zero, List.set_cons_succ, i64_w, i32_w]
  rfl
 refine take_ (i := 4) (N := some 45) (v := ?_) (a' := ?_) #[true, true, true, true, true, true, false, false, false, false, false, false] rfl rfl (by kernel_rfl) (fun _ _ _ h => absurd rfl (h.1 _)) (Or.inl ⟨by rfl, ?_⟩) hHeld ?_ ?_
 rotate_left
 ·intro w' s0
  go_simp
  with_reducible rfl
 rotate_left
 ·simp only [Act.put, List.setIfInBounds_toArray, List.set_cons_zero, List.set_cons_succ, i64_w, i32_w]
  rfl
 refine one_ (i := 6) (N := some 47) #[true, true, true, true, true, true, true, false, false, false, false, false] rfl rfl (by kernel_rfl) (by decide) (fun K hK => ?_)
 refine goes_ Try.func42 (by kernel_rfl) rfl #[.slice A r.length c] (by rfl) rfl rfl (by simp only [List.map_toArray, List.map_cons, List.map_nil]; rfl) ?_
 with_reducible refine ((Clone8.calls A c r w6 (HQ.out w6 (HK6.out.mono (fun k _ hk => hk.1))) (by have := HRL.out; omega))).mono ?_
 rintro e w7 ⟨v7, rfl, hR7, hB7⟩
 obtain ⟨A7, c7, ev7⟩ := Kd.R_slice hR7
 subst ev7
 have HR7 := Aside0.mk hR7
 have HB7 := Aside0.mk hB7
 clear hR7 hB7
 refine ⟨_, rfl, ?_⟩
 refine hK.out _ _ ((pw_cell_below HB7.out hj3)) (fun hHeld => ?_)
 clear hK K
 refine norm_ (a' := ?_) ?_ ?_
 rotate_left
 ·show Act.put _ (some 47) _ = _
  simp only [Act.put, List.setIfInBounds_toArray, List.set_cons_zero, List.set_cons_succ, i64_w, i32_w]
  rfl
 refine one_ (i := 7) (N := some 48) #[true, true, true, true, true, true, true, true, false, false, false, false] rfl rfl (by kernel_rfl) (by decide) (fun K hK => ?_)
 refine value_ (w1 := ?_) (v := ?_) (by rfl) rfl ?_ ?_
 rotate_left 2
 ·go_simp
  constructor
  ·rfl
  ·rfl
 refine hK.out _ _ ((pw_cell_below (below_alloc HB7.out _) hj3)) (fun hHeld => ?_)
 clear hK K
 refine norm_ (a' := ?_) ?_ ?_
 rotate_left
 ·show Act.put _ (some 48) _ = _
  simp only [Act.put, List.setIfInBounds_toArray, List.set_cons_zero, List.set_cons_succ, i64_w, i32_w]
  rfl
 refine one_ (i := 8) (N := some 49) #[true, true, true, true, true, true, true, true, true, false, false, false] rfl rfl (by kernel_rfl) (by decide) (fun K hK => ?_)
 refine Kd.Q_append_step (Kd.slice 5 (Kd.int .u8)) (w0 := w7) 0 (by rfl) (.tmp 45) (.tmp 48) 29 30 (.slice none 0 0) 24 rfl Try.underlying29 info30 rfl (by decide) (by decide) (.slice A6 J.L.length c6) J.L r [.slice A7 r.length c7] (fun k => (okq k ∧ k < w6.heap.size) ∨ w6.heap.size ≤ k) (fun k => w6.heap.size ≤ k) rfl rfl ⟨_, rfl, HR7.out⟩ ?aK ?aF (Kd.Q_mono (Kd.Q_below HQ6.out HB7.out) (fun k hk => .inl ⟨hk.1, hk.2.2.1⟩)) (Below.refl _ _) (Nat.zero_le _) ?aL ?_
 case aK => exact fun k hk => ⟨.inr hk, fun he => absurd (Kd.Q_lt HQ6.out k he.symm) (Nat.not_lt.2 hk)⟩
 case aF => exact fun k hk => .inr (Nat.le_trans HB7.out.size hk)
 case aL => have := HLL.out; omega
 intro v8 w9 hQ9 _ hg9 _
 obtain ⟨A9, c9, ev9, hcap9⟩ := Kd.Q_slice hQ9
 subst ev9
 have HT9 := Aside0.mk (HQB.out (show Turned okq w6 w9 (RecR (.slice A9 (J.L ++ [r]).length c9) (J.L ++ [r])) from ⟨(Keeps.of_below HB7.out okq).then_ (Keeps.of_grown hg9) (fun k hk => .inl (HQ6.out.1 k hk.symm).1), Kd.Q_mono hQ9 (fun k hk => hk.imp (·.1) id)⟩))
 have hfz9 : w9.frozen? ⟨gj, 3, none⟩ = false := blk_frozen (jour_blk' HT9.out.2) 3
 clear hQ9 hg9
 refine hK.out _ _ ((by rw [blk_cell (jour_blk' HT9.out.2)]; rfl)) (fun hHeld => ?_)
 clear hK K
 refine norm_ (a' := ?_) ?_ ?_
 rotate_left
 ·show Act.put _ (some 49) _ = _
  simp only [Act.put, List.setIfInBounds_toArray, List.set_cons_zero, List.set_cons_succ, i64_w, i32_w]
  rfl
 refine pure_ (i := 9) (N := some 50) (v := ?_) (a' := ?_) #[true, true, true, true, true, true, true, true, true, true, false, false] rfl rfl (by kernel_rfl) (fun _ _ _ h => absurd rfl (h.1 _)) (Or.inl ⟨by rfl, ?_⟩) ?_ ?_
 rotate_left
 ·intro w'
  go_simp
  with_reducible rfl
 rotate_left
 ·simp only [Act.put, List.setIfInBounds_toArray, List.set_cons_zero, List.set_cons_succ, i64_w, i32_w]
  rfl
 refine pure_ (i := 10) (N := some 51) (v := ?_) (a' := ?_) #[true, true, true, true, true, true, true, true, true, true, true, false] rfl rfl (by kernel_rfl) (fun _ _ _ h => absurd rfl (h.1 _)) (Or.inl ⟨by rfl, ?_⟩) ?_ ?_
 rotate_left
 ·intro w'
  go_simp
  with_reducible rfl
 rotate_left
 ·simp only [Act.put, List.setIfInBounds_toArray, List.set_cons_zero, List.set_cons_succ, i64_w, i32_w]
  rfl
 refine last_ (i := 11) (N := none) #[true, true, true, true, true, true, true, true, true, true, true, true] rfl rfl (by kernel_rfl) (by decide) (fun K hK => ?_)
 refine skip_ (w1 := ?_) (by rfl) rfl ?_ ?_
 rotate_left
 ·go_simp
  rfl
 refine hK.out _ _ ?_
 clear hK K
 refine done_ (by kernel_rfl) ?_
 refine ⟨fun x hx => (by cases hx), ?_⟩
 have h10 := obj_set HT9.out.2 3 (.slice A9 (J.L ++ [r]).length c9)
 have hlen : (J.L ++ [r]).length = J.L.length + 1 := by simp
 rw [hlen] at h10
 obtain ⟨w10, e10⟩ : ∃ w10, w10 = w9.setCell ⟨gj, 3, none⟩ (.slice A9 (J.L.length + 1) c9) := ⟨_, rfl⟩
 rw [← e10] at h10 ⊢
 have HK10 := Aside0.mk (HT9.out.1.then_ h10.2 (fun k hk => hk))
 have HO10 := Aside0.mk h10.1
 have HJO := Aside0.mk (show okj6 gj from (obj_ok HT9.out.2).elim id (fun h => absurd (blk_lt HJ6.out) (Nat.not_lt.2 h)))
 have HNG := Aside0.mk (show ¬ okj6 W.heap.size from fun hk => HGE5.out (HJS6.out _ hk).1)
 have HG10 := Aside0.mk ((HK10.out.block _ (blk_lt HG6.out) HNG.out).trans HG6.out)
 have hne : ¬ W.heap.size = gj := fun he => HNG.out (he ▸ HJO.out)
 have hne' : ¬ gj = W.heap.size := fun he => hne he.symm
 obtain ⟨x0, x1, x2, x3, x4, x5, f0, f1, f2, f3, f4, f5⟩ := blk_all6 (jour_blk' h10.1)
 obtain ⟨y0', g0'⟩ := blk_all1 HG10.out
 have wsz : wrap64 (J.size + (f.length : Int)) = J.size + (f.length : Int) := w64' (by have := HSZ.out; omega) (by have := HSZ.out; have := HFL.out; omega)
 have HFR := Aside0.mk HFL.out.1
 clear h10 e10 hlen hHeld y0 g0 hj3 HT9 hfz9
 go_wp2_with fail
 have h11 := obj_set HO10.out 4 (.int .i64 (J.size + (f.length : Int)))
 have HS11 := Aside0.mk (HJB6.out (show Turned okj6 w6 _ (PJour gj gt { J with L := J.L ++ [r], size := J.size + (f.length : Int) }) from ⟨HK10.out.then_ h11.2 (fun k hk => hk.elim (fun h => .inl h) (fun h => .inr h)), (PJour gj gt _).mono (fun k hk => hk) (jour_mk (J := { J with L := J.L ++ [r], size := J.size + (f.length : Int) }) h11.1)⟩))
 have HGE6 := Aside0.mk (show ¬ ((((ok W.heap.size ∧ W.heap.size < W.heap.size) ∨ w3.heap.size ≤ W.heap.size) ∨ w4.heap.size ≤ W.heap.size) ∨ w6.heap.size ≤ W.heap.size) from fun hh => hh.elim HGE5.out (fun h => by have := blk_lt HG6.out; omega))
 have HG11 := Aside0.mk (show (w10.setCell ⟨gj, 4, none⟩ (.int .i64 (J.size + (f.length : Int)))).heap[W.heap.size]? = some (.cells #[.int .i64 0] 26 (0, 0)) from (Below.heap_setCell w10 _ _ _ hne).trans HG10.out)
 refine jour_leave (gt := gt) (T := T2) (J := { J with L := J.L ++ [r], size := J.size + (f.length : Int) }) (err0 := 0) rfl (sep_step HS11.out.2 HGE6.out _) HBR.out HGE6.out (by rw [blk_cell (blk_set HG11.out 0 _)]; rfl) rfl (fun w'' ht => ?_)
 rw [HM2.out, ← HSD.out]
 have hm : ∀ k, ((((ok k ∧ k < W.heap.size) ∨ w3.heap.size ≤ k) ∨ w4.heap.size ≤ k) ∨ w6.heap.size ≤ k) → ok k ∨ W.heap.size ≤ k := fun k hk => hk.elim (fun h => h.elim (fun h => h.imp (·.1) (Nat.le_trans HB3.out.size)) (fun h => .inr (Nat.le_trans HK4.out.size h))) (fun h => .inr (Nat.le_trans HK6.out.size h))
 have k5 := Keeps.set (HK6.out.then_ HS11.out.1 (fun k hk => hk.elim (fun h => h.imp id (Nat.le_trans HB3.out.size)) (fun h => .inr (Nat.le_trans HK4.out.size h)))) (p := ⟨W.heap.size, 0, none⟩) (.inr (Nat.le_refl _)) (.int .i64 0)
 have h12 := ht.2
 rw [show brk 0 = J.broken from HBR.out.symm] at h12
 exact ⟨rfl, (k5.mono (fun k _ hk => hk.1)).then_ ht.1 (fun k hk => hm k hk), Res.mono _ (fun k hk => hk.elim (hm k) (fun h => .inr (Nat.le_trans k5.size h))) h12⟩
theorem jour_Append.calls (gj gt : Nat) (T : TM) (N : Nat) (hT : T.Ok N) (hN : N + 9000 ≤ 1000000000) (J : JM) (A : Option Addr) (c : Nat) (r : List Int) (W : World) (ok : Nat → Prop) (hP : (Res.sep (PTape gt T) (PJour gj gt J)).P ok W) (hQ : ∀ W', Keeps W W' ok → Kd.C (Kd.int .u8) W' A r.length r) (hc : r.length ≤ c) (hL : J.L.length ≤ 100000) (hS : 0 ≤ J.size ∧ J.size ≤ 1000000000) :
  Calls Try.prog 13 #[.pointer (some ⟨gj, 0, none⟩), .slice A r.length c] W fun e W' => e = .returned (.int .i64 (appendM T J r).1) ∧ Turned ok W W' (Res.sep (PTape gt (appendM T J r).2.1) (PJour gj gt (appendM T J r).2.2)) := by
 by_cases hb : J.broken = true
 ·have he : appendM T J r = (40, T, J) := by unfold appendM; rw [if_pos hb]
  rw [he]
  exact (jour_Append.broken gj gt T J A c r W ok hP hb).mono fun e W' hh => ⟨hh.1, (Turned.refl hP).on hh.2⟩
 have hb' : J.broken = false := by simpa using hb
 by_cases hr : isRec r = true
 ·exact jour_Append.yes gj gt T N hT hN J A c r W ok hP hQ hc hb' hr hL hS
 have hr' : isRec r = false := by simpa using hr
 have he : appendM T J r = (1, T, J) := by unfold appendM; rw [if_neg hb, if_pos hr']
 rw [he]
 exact (jour_Append.arg gj gt T J A c r W ok hP (hQ W (Keeps.refl _ _)) hc hb' hr').mono fun e W' hh => ⟨hh.1, (Turned.refl hP).on hh.2⟩
end Go.Proofs.Ytmfmoddaejoekaa.P
