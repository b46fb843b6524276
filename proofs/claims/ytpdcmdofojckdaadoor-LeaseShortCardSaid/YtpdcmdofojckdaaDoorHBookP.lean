/- Contracts, typed by hand: the program's book: what it is; New, may, Hear, Fresh. -/
import Derived.Test.YtpdcmdofojckdaaDoorL13
import Derived.Test.YtpdcmdofojckdaaDoorHMap
import Derived.Test.YtpdcmdofojckdaaDoorHRw
import Derived.Test.YtpdcmdofojckdaaDoorP4
import Derived.Test.YtpdcmdofojckdaaDoorP13
set_option linter.unusedVariables false
set_option linter.unusedSimpArgs false
namespace Go.Proofs.YtpdcmdofojckdaaDoor.P
open Go.RowKit Go.Proofs.YtpdcmdofojckdaaDoorW.PrintWords Go.Proofs.YtpdcmdofojckdaaDoorW.PrintLast Go.Proofs.YtpdcmdofojckdaaDoorW.PrintMore
/-- The program's book at block g. -/
def PBook (g : Nat) (B : Bk) : Res where
  P := fun ok W => ∃ (b1 b2 : Nat) (m1 m2 : List (Int × Value)), (ok g ∧ ok b1 ∧ ok b2 ∧ b1 ≠ b2) ∧ W.heap[g]? = some (.cells #[.int .i64 B.own, .map (some b1), .map (some b2)] 62 (0, 0)) ∧ MapI .i64 W b1 m1 ∧ MapI .i64 W b2 m2 ∧
    (∀ d, getM m2 d = if B.stamp d = -1 then none else some (.int .i64 (B.stamp d))) ∧
    (∀ d, k42.R 42 W 0 ok ((getM m1 d).getD (.slice none 0 0)) (B.held d))
  mono := fun hok ⟨b1, b2, m1, m2, h1, h2, h3, h4, h5, h6⟩ => ⟨b1, b2, m1, m2, ⟨hok _ h1.1, hok _ h1.2.1, hok _ h1.2.2.1, h1.2.2.2⟩, h2, h3, h4, h5, fun d => Kd.R_mono (h6 d) hok⟩
  step := fun ⟨b1, b2, m1, m2, h1, h2, h3, h4, h5, h6⟩ hm => ⟨b1, b2, m1, m2, h1, (hm _ h1.1 (blk_lt h2)).trans h2, h3.move (hm _ h1.2.1 h3.lt), h4.move (hm _ h1.2.2.1 h4.lt), h5, fun d => Kd.R_step (h6 d) hm⟩
  bound := fun ⟨b1, b2, m1, m2, h1, h2, h3, h4, h5, h6⟩ => ⟨b1, b2, m1, m2, ⟨⟨h1.1, blk_lt h2⟩, ⟨h1.2.1, h3.lt⟩, ⟨h1.2.2.1, h4.lt⟩, h1.2.2.2⟩, h2, h3, h4, h5, fun d => Kd.R_mono (Kd.R_bound (h6 d)) (fun k hk => ⟨hk.1, hk.2.2.1⟩)⟩
theorem is_at (d : Int) (W : World) : Calls Tryd.prog 22 #[.int .i64 d] W fun e W' => e = .returned (.bool (decide (1 ≤ d ∧ d ≤ 16))) ∧ Drawn0 W W' := lease_is.calls d _ W (is_eq13 d)
theorem addP_at (a b : Int) (W : World) : Calls Tryd.prog 25 #[.int .i64 a, .int .i64 b] W fun e W' => e = .returned (.int .i64 (addT a b)) ∧ Below W.heap.size W W' := ticks_Add.calls a b _ W (add_eq a b)
theorem overP_at (a b : Int) (W : World) : Calls Tryd.prog 26 #[.int .i64 a, .int .i64 b] W fun e W' => e = .returned (.bool (overT a b)) ∧ Below W.heap.size W W' := ticks_Over.calls a b _ W (over_eq a b)
set_option maxHeartbeats 2000000 in
theorem bookNew.no (own : Int) (W : World) (h : ¬ (1 ≤ own ∧ own ≤ 16)) : Calls Tryd.prog 7 #[.int .i64 own] W fun e W' => e = .returned (.pointer none) ∧ Below W.heap.size W W' := by
  have HI := Aside0.mk (fun W => by have := is_at own W; rw [decide_eq_false h] at this; exact this)
  clear h
  go_enter Tryd.func7, Tryd.ntmps7
  go_wp2_with fail
  refine (HI.out _).mono ?_
  rintro e w' ⟨rfl, ⟨n, rfl⟩⟩
  go_wp2_with fail
  go_ret
  exact ⟨rfl, pw_below_drewN (Below.refl _ _) _⟩
theorem blk_alloc_eq {W : World} {b : Nat} (o : Obj) (h : b < W.heap.size) : (W.alloc o).heap[b]? = W.heap[b]? := by
  rw [Array.getElem?_eq_getElem h]
  exact blk_alloc (Array.getElem?_eq_getElem h) o
theorem pbook_new (w1 : World) (own : Int) : (PBook (w1.heap.size + 1 + 1) (bk0 own)).P (fun k => w1.heap.size ≤ k)
    (((w1.alloc (.map #[] 0)).alloc (.map #[] 0)).alloc (.cells #[.int .i64 own, .map (some w1.heap.size), .map (some (w1.heap.size + 1))] 62)) := by
  have s1 : (w1.alloc (.map #[] 0)).heap.size = w1.heap.size + 1 := by simp
  have s2 : ((w1.alloc (.map #[] 0)).alloc (.map #[] 0)).heap.size = w1.heap.size + 1 + 1 := by simp
  have a1 := MapI.made .i64 w1
  have a2 := MapI.made .i64 (w1.alloc (.map #[] 0))
  rw [s1] at a2
  refine ⟨w1.heap.size, w1.heap.size + 1, [], [], ⟨by show w1.heap.size ≤ _; omega, by show w1.heap.size ≤ _; omega, by show w1.heap.size ≤ _; omega, by omega⟩, ?_, ?_, ?_, fun d => by rw [getM_nil]; rfl, fun d => ?_⟩
  · have := blk_new ((w1.alloc (.map #[] 0)).alloc (.map #[] 0)) (.cells #[.int .i64 own, .map (some w1.heap.size), .map (some (w1.heap.size + 1))] 62)
    rw [s2] at this
    exact this
  · exact (a1.move (blk_alloc_eq (.map #[] 0) (by rw [s1]; omega))).move (blk_alloc_eq _ (by rw [s2]; omega))
  · exact a2.move (blk_alloc_eq _ (by rw [s2]; omega))
  · rw [getM_nil]
    exact Kd.R_nil _ _ _ _ _
set_option maxHeartbeats 2000000 in
theorem bookNew.yes (own : Int) (W : World) (h : 1 ≤ own ∧ own ≤ 16) : Calls Tryd.prog 7 #[.int .i64 own] W fun e W' => ∃ g, e = .returned (.pointer (some ⟨g, 0, none⟩)) ∧ (PBook g (bk0 own)).P (fun k => W.heap.size ≤ k) W' ∧ Below W.heap.size W W' := by
  have HI := Aside0.mk (fun W => by have := is_at own W; rw [decide_eq_true h] at this; exact this)
  clear h
  have hmm := @run_makeMap Tryd.prog
  go_enter Tryd.func7, Tryd.ntmps7
  go_wp2_with fail
  refine (HI.out _).mono ?_
  rintro e w' ⟨rfl, ⟨n, rfl⟩⟩
  go_wp2_with fail
  go_ret
  obtain ⟨w1, e1⟩ : ∃ w1, w1 = W.drewN n := ⟨_, rfl⟩
  have hs : w1.heap.size = W.heap.size := by rw [e1]; rfl
  refine ⟨_, rfl, ?_, ?_⟩
  · rw [← hs, ← e1]
    exact pbook_new w1 own
  · exact below_alloc (below_alloc (below_alloc (pw_below_drewN (Below.refl _ _) _) _) _) _
/-! ### what a book tells -/
section
variable {g : Nat} {B : Bk} {ok : Nat → Prop} {W : World}
/-- A row stays where a map is written. -/
theorem R_map {α : Type} {d : Kd α} {e base b : Nat} {v : Value} {xs : List α} {m : List (Int × Value)} {q : IntKind} {W' : World} (h : d.R e W base ok v xs) (hb : MapI q W b m) (hg : W.grownBy W' (some b)) : d.R e W' base ok v xs := by
  obtain ⟨es, cl, hm, _⟩ := hb
  refine Kd.R_mono (Kd.R_move (Kd.R_bound h) (fun k hk => ?_)) (fun k hk => hk.1)
  obtain ⟨h1, h2, h3, q, hq, cells, hc⟩ := hk
  refine hg.block k h3 (fun e => ?_)
  cases e
  rw [hc] at hm
  cases hm
theorem Keeps.of_map {W' : World} {b : Nat} (hg : W.grownBy W' (some b)) (hb : ok b) : Keeps W W' ok := ⟨hg.os, hg.tape, hg.output, hg.size, fun k hk hn => hg.block k hk (fun e => by cases e; exact hn hb)⟩
/-- Its cells, and its rows. -/
theorem pbook_open (h : (PBook g B).P ok W) : ∃ (b1 b2 : Nat) (m1 m2 : List (Int × Value)), W.cell? ⟨g, 0, none⟩ = some (.int .i64 B.own) ∧ W.cell? ⟨g, 1, none⟩ = some (.map (some b1)) ∧ W.cell? ⟨g, 2, none⟩ = some (.map (some b2)) ∧ MapI .i64 W b1 m1 ∧ MapI .i64 W b2 m2 ∧
    (∀ d, getM m2 d = if B.stamp d = -1 then none else some (.int .i64 (B.stamp d))) ∧
    (∀ d, ∃ A c, (getM m1 d).getD (.slice none 0 0) = .slice A (B.held d).length c ∧ (B.held d).length ≤ c ∧ k42.C W A (B.held d).length (B.held d)) ∧
    (∀ (W' : World) (d a : Int), a ≠ -1 → MapI .i64 W' b2 (putM m2 d (.int .i64 a)) → W.grownBy W' (some b2) → Turned ok W W' (PBook g { B with stamp := fun x => if x = d then a else B.stamp x })) ∧
    (∀ (W' : World) (d : Int) (v : Value) (L : List SH), k42.R 42 W 0 ok v L → MapI .i64 W' b1 (putM m1 d v) → W.grownBy W' (some b1) → Turned ok W W' (PBook g { B with held := fun x => if x = d then L else B.held x })) := by
  obtain ⟨b1, b2, m1, m2, h1, h2, h3, h4, h5, h6⟩ := h
  refine ⟨b1, b2, m1, m2, (blk_cell h2 0).trans rfl, (blk_cell h2 1).trans rfl, (blk_cell h2 2).trans rfl, h3, h4, h5, fun d => ?_, fun W' d a ha hm hg => ?_, fun W' d v L hR hm hg => ?_⟩
  · obtain ⟨A, c, e, hl, hC⟩ := Kd.R_reads (h6 d)
    exact ⟨A, c, e, hl, hC⟩
  · have hgb : g ≠ b2 := fun e => by
      obtain ⟨es, cl, hb, _⟩ := h4
      rw [← e, h2] at hb
      cases hb
    refine ⟨Keeps.of_map hg h1.2.2.1, b1, b2, m1, putM m2 d (.int .i64 a), ⟨.inl h1.1, .inl h1.2.1, .inl h1.2.2.1, h1.2.2.2⟩, (hg.block g (blk_lt h2) (fun e => hgb (by cases e; rfl))).trans h2, h3.move (hg.block b1 h3.lt (fun e => h1.2.2.2 (by cases e; rfl))), hm, fun x => ?_, fun x => Kd.R_mono (R_map (h6 x) h4 hg) (fun _ hk => .inl hk)⟩
    rw [getM_put]
    by_cases e : x = d
    · subst e
      show _ = if (if x = x then a else B.stamp x) = -1 then none else some (Value.int .i64 (if x = x then a else B.stamp x))
      rw [if_pos rfl, if_pos rfl, if_neg ha]
    · show _ = if (if x = d then a else B.stamp x) = -1 then none else some (Value.int .i64 (if x = d then a else B.stamp x))
      rw [if_neg e, if_neg e, h5 x]
  · have hgb : g ≠ b1 := fun e => by
      obtain ⟨es, cl, hb, _⟩ := h3
      rw [← e, h2] at hb
      cases hb
    refine ⟨Keeps.of_map hg h1.2.1, b1, b2, putM m1 d v, m2, ⟨.inl h1.1, .inl h1.2.1, .inl h1.2.2.1, h1.2.2.2⟩, (hg.block g (blk_lt h2) (fun e => hgb (by cases e; rfl))).trans h2, hm, h4.move (hg.block b2 h4.lt (fun e => h1.2.2.2 (by cases e; rfl))), h5, fun x => ?_⟩
    rw [getM_put]
    by_cases e : x = d
    · subst e
      show k42.R 42 W' 0 _ _ (if x = x then L else B.held x)
      rw [if_pos rfl, if_pos rfl]
      exact Kd.R_mono (R_map hR h3 hg) (fun _ hk => .inl hk)
    · show k42.R 42 W' 0 _ _ (if x = d then L else B.held x)
      rw [if_neg e, if_neg e]
      exact Kd.R_mono (R_map (h6 x) h3 hg) (fun _ hk => .inl hk)
end
theorem zeroHeld : ∀ w, (zeroValue 33).run Tryd.prog w = .ok (.slice none 0 0) w := fun _ => by kernel_rfl
theorem zeroI : ∀ w, (zeroValue 3).run Tryd.prog w = .ok (.int .i64 0) w := fun _ => by kernel_rfl
/-! ### may -/
set_option maxHeartbeats 2000000 in
theorem bookMay.calls (g : Nat) (B : Bk) (d a : Int) (W : World) (hc : W.cell? ⟨g, 0, none⟩ = some (.int .i64 B.own)) :
    Calls Tryd.prog 23 #[.pointer (some ⟨g, 0, none⟩), .int .i64 d, .int .i64 a] W fun e W' => e = .returned (.bool (mayA B d a)) ∧ Below W.heap.size W W' := by
  have HI := Aside0.mk (fun W => is_at d W)
  obtain ⟨o, eo⟩ : ∃ o, B.own = o := ⟨_, rfl⟩
  unfold mayA
  rw [eo] at hc ⊢
  by_cases h1 : d = o
  · have h1b : (d != o) = false := by simp [h1]
    rw [decide_eq_false (fun h => h.1 h1)]
    clear h1 HI eo
    go_enter Tryd.func23, Tryd.ntmps23
    go_wp2_with fail
    go_ret
    exact ⟨rfl, Below.refl _ _⟩
  have h1b : (d != o) = true := by simp [h1]
  by_cases h2 : 1 ≤ d ∧ d ≤ 16
  · rw [decide_eq_true h2] at HI
    by_cases h3 : 0 ≤ a
    · have h3b : decide (0 ≤ a) = true := decide_eq_true h3
      rw [show decide (d ≠ o ∧ (1 ≤ d ∧ d ≤ 16) ∧ 0 ≤ a ∧ a ≤ 1099511627776) = decide (a ≤ 1099511627776) from decide_eq_decide.2 ⟨fun h => h.2.2.2, fun h => ⟨h1, h2, h3, h⟩⟩]
      clear h1 h2 h3 eo
      go_enter Tryd.func23, Tryd.ntmps23
      go_wp2_with fail
      refine (HI.out _).mono ?_
      rintro e w' ⟨rfl, ⟨n, rfl⟩⟩
      go_wp2_with fail
      go_ret
      exact ⟨rfl, pw_below_drewN (Below.refl _ _) _⟩
    · have h3b : decide (0 ≤ a) = false := decide_eq_false h3
      rw [decide_eq_false (fun h => h3 h.2.2.1)]
      clear h1 h2 h3 eo
      go_enter Tryd.func23, Tryd.ntmps23
      go_wp2_with fail
      refine (HI.out _).mono ?_
      rintro e w' ⟨rfl, ⟨n, rfl⟩⟩
      go_wp2_with fail
      go_ret
      exact ⟨rfl, pw_below_drewN (Below.refl _ _) _⟩
  · rw [decide_eq_false h2] at HI
    rw [decide_eq_false (fun h => h2 h.2.1)]
    clear h1 h2 eo
    go_enter Tryd.func23, Tryd.ntmps23
    go_wp2_with fail
    refine (HI.out _).mono ?_
    rintro e w' ⟨rfl, ⟨n, rfl⟩⟩
    go_wp2_with fail
    go_ret
    exact ⟨rfl, pw_below_drewN (Below.refl _ _) _⟩
/-! ### Hear -/
theorem turned_same {R : Res} {ok : Nat → Prop} {W W' : World} (h : R.P ok W) (hb : Below W.heap.size W W') : Turned ok W W' R := ⟨Keeps.of_below hb _, R.mono (fun _ hk => .inl hk) (R.on h hb)⟩
theorem turned_then {R R' : Res} {ok : Nat → Prop} {W W1 W2 : World} (hb : Below W.heap.size W W1) (h : Turned ok W1 W2 R') : Turned ok W W2 R' :=
  ⟨(Keeps.of_below hb ok).then_ h.1 (fun _ hk => .inl hk), R'.mono (fun k hk => hk.elim .inl (fun h2 => .inr (Nat.le_trans hb.size h2))) h.2⟩
set_option maxHeartbeats 4000000 in
theorem bookHear.calls (g : Nat) (B : Bk) (d a : Int) (W : World) (ok : Nat → Prop) (hP : (PBook g B).P ok W) :
    Calls Tryd.prog 9 #[.pointer (some ⟨g, 0, none⟩), .int .i64 d, .int .i64 a] W fun e W' => e = .returned (.int .i64 (hearE B d a)) ∧ Turned ok W W' (PBook g (hearB B d a)) := by
  obtain ⟨_, _, _, _, hc0, _⟩ := pbook_open hP
  have HM := Aside0.mk (bookMay.calls g B d a W hc0)
  have HP := Aside0.mk hP
  clear hc0 hP
  unfold hearE hearB
  obtain ⟨m, em⟩ : ∃ m, mayA B d a = m := ⟨_, rfl⟩
  rw [em] at HM ⊢
  cases m with
  | false =>
    rw [if_neg (by decide), if_neg (fun h => Bool.false_ne_true h.1)]
    go_enter Tryd.func9, Tryd.ntmps9
    go_wp2_with fail
    refine HM.out.mono ?_
    rintro e w1 ⟨rfl, hB⟩
    have HB := Aside0.mk hB
    clear hB
    go_wp2_with fail
    go_ret
    exact ⟨rfl, turned_same HP.out HB.out⟩
  | true =>
    have ha := (mayA_iff.1 em).2.2.1
    have HA := Aside0.mk ha
    rw [if_pos rfl]
    obtain ⟨st, est⟩ : ∃ st, B.stamp d = st := ⟨_, rfl⟩
    obtain ⟨Bq, eq⟩ : ∃ Bq : Bk, (if true = true ∧ B.stamp d < a then { B with stamp := fun x => if x = d then a else B.stamp x } else B) = Bq := ⟨_, rfl⟩
    rw [eq]
    have HQ := Aside0.mk eq
    clear em eq ha
    go_enter Tryd.func9, Tryd.ntmps9
    go_wp2_with fail
    refine HM.out.mono ?_
    rintro e w1 ⟨rfl, hB⟩
    obtain ⟨b1, b2, m1, m2, hc0, hc1, hc2, hm1, hm2, hst, _, hput, _⟩ := pbook_open ((PBook g B).on HP.out hB)
    have HB := Aside0.mk hB
    have HPUT := Aside0.mk hput
    have HM2 := Aside0.mk hm2
    have hlk := run_lookup_int (P := Tryd.prog) (t := 60) (k := 3) (e := 3) Tryd.underlying60 Tryd.underlying3 hm2 (zeroI w1) true d
    rw [hst d] at hlk
    clear hB hput hm2 hm1 hst hc0 hc1 HM
    by_cases h1 : st = -1
    · rw [if_pos (est.trans h1)] at hlk
      replace hlk : (Instr.lookup 60 (.map (some b2)) (.int .i64 d) true).run Tryd.prog w1 = .ok (.tuple #[.int .i64 0, .bool false]) w1 := hlk
      rw [if_pos ⟨by trivial, by have := HA.out; omega⟩] at HQ
      clear h1 est
      go_wp2_with (at_mapUpdate; refine wp_update_int (q := .i64) (m := m2) rfl 60 (.tmp 33) (.tmp 34) (.tmp 35) rfl Tryd.underlying60 Tryd.underlying3 d (.int .i64 a) rfl rfl rfl HM2.out ?_)
      intro w2 hm2' hg2
      have HT := Aside0.mk (HPUT.out w2 d a (by have := HA.out; omega) hm2' hg2)
      clear hm2' hg2 hlk
      go_wp2_with fail
      go_ret
      rw [← HQ.out]
      exact ⟨rfl, turned_then (R := PBook g B) HB.out HT.out⟩
    · rw [if_neg (fun h => h1 (est.symm.trans h)), est] at hlk
      replace hlk : (Instr.lookup 60 (.map (some b2)) (.int .i64 d) true).run Tryd.prog w1 = .ok (.tuple #[.int .i64 st, .bool true]) w1 := hlk
      by_cases h2 : st < a
      · have h2b : decide (st < a) = true := decide_eq_true h2
        rw [if_pos ⟨by trivial, by rw [est]; exact h2⟩] at HQ
        clear h1 h2 est
        go_wp2_with (at_mapUpdate; refine wp_update_int (q := .i64) (m := m2) rfl 60 (.tmp 33) (.tmp 34) (.tmp 35) rfl Tryd.underlying60 Tryd.underlying3 d (.int .i64 a) rfl rfl rfl HM2.out ?_)
        intro w2 hm2' hg2
        have HT := Aside0.mk (HPUT.out w2 d a (by have := HA.out; omega) hm2' hg2)
        clear hm2' hg2 hlk
        go_wp2_with fail
        go_ret
        rw [← HQ.out]
        exact ⟨rfl, turned_then (R := PBook g B) HB.out HT.out⟩
      · have h2b : decide (st < a) = false := decide_eq_false h2
        rw [if_neg (fun h => h2 (by rw [← est]; exact h.2))] at HQ
        clear h1 h2 est
        go_wp2_with fail
        go_ret
        rw [← HQ.out]
        exact ⟨rfl, turned_same HP.out HB.out⟩
/-! ### Fresh -/
set_option maxHeartbeats 4000000 in
theorem bookFresh.calls (g : Nat) (B : Bk) (hG : Good13 B) (d now : Int) (W : World) (ok : Nat → Prop) (hP : (PBook g B).P ok W) :
    Calls Tryd.prog 13 #[.pointer (some ⟨g, 0, none⟩), .int .i64 d, .int .i64 now] W fun e W' => e = .returned (.bool (freshB B d now)) ∧ Below W.heap.size W W' := by
  obtain ⟨b1, b2, m1, m2, hc0, _, hc2, _, hm2, hst, _⟩ := pbook_open hP
  have hlk := run_lookup_int (P := Tryd.prog) (t := 60) (k := 3) (e := 3) Tryd.underlying60 Tryd.underlying3 hm2 (zeroI W) true d
  rw [hst d] at hlk
  have hs := hG.stamp d
  clear hP hm2 hst hG
  unfold freshB
  obtain ⟨o, eo⟩ : ∃ o, B.own = o := ⟨_, rfl⟩
  obtain ⟨st, est⟩ : ∃ st, B.stamp d = st := ⟨_, rfl⟩
  rw [eo] at hc0 ⊢
  rw [est] at hs hlk ⊢
  clear eo est
  have HAD := Aside0.mk (fun W => addP_at st 48 W)
  have HOV := Aside0.mk (fun W => overP_at now (addT st 48) W)
  obtain ⟨t1, e1⟩ : ∃ t, addT st 48 = t := ⟨_, rfl⟩
  rw [e1] at HAD HOV ⊢
  obtain ⟨t2, e2⟩ : ∃ t, overT now t1 = t := ⟨_, rfl⟩
  rw [e2] at HOV ⊢
  clear e1 e2
  by_cases h1 : d = o
  · have h1b : (d == o) = true := by simp [h1]
    rw [decide_eq_true h1, Bool.true_or]
    by_cases h2 : st = -1
    · rw [if_pos h2] at hlk
      replace hlk : (Instr.lookup 60 (.map (some b2)) (.int .i64 d) true).run Tryd.prog W = .ok (.tuple #[.int .i64 0, .bool false]) W := hlk
      clear h1 h2 hs
      go_enter Tryd.func13, Tryd.ntmps13
      go_wp2_with fail
      go_ret
      exact ⟨rfl, Below.refl _ _⟩
    · rw [if_neg h2] at hlk
      replace hlk : (Instr.lookup 60 (.map (some b2)) (.int .i64 d) true).run Tryd.prog W = .ok (.tuple #[.int .i64 st, .bool true]) W := hlk
      clear h1 h2 hs
      go_enter Tryd.func13, Tryd.ntmps13
      go_wp2_with fail
      go_ret
      exact ⟨rfl, Below.refl _ _⟩
  · have h1b : (d == o) = false := by simp [h1]
    rw [decide_eq_false h1, Bool.false_or]
    by_cases h2 : st = -1
    · rw [if_pos h2] at hlk
      replace hlk : (Instr.lookup 60 (.map (some b2)) (.int .i64 d) true).run Tryd.prog W = .ok (.tuple #[.int .i64 0, .bool false]) W := hlk
      rw [decide_eq_false (by omega), Bool.false_and]
      clear h1 h2 hs
      go_enter Tryd.func13, Tryd.ntmps13
      go_wp2_with fail
      go_ret
      exact ⟨rfl, Below.refl _ _⟩
    · rw [if_neg h2] at hlk
      replace hlk : (Instr.lookup 60 (.map (some b2)) (.int .i64 d) true).run Tryd.prog W = .ok (.tuple #[.int .i64 st, .bool true]) W := hlk
      rw [decide_eq_true (by omega), Bool.true_and]
      clear h1 h2 hs
      go_enter Tryd.func13, Tryd.ntmps13
      go_wp2_with fail
      refine (HAD.out _).mono ?_
      rintro e w1 ⟨rfl, hB⟩
      have HB := Aside0.mk hB
      clear hB
      go_wp2_with fail
      refine (HOV.out _).mono ?_
      rintro e w2 ⟨rfl, hB⟩
      have HB2 := Aside0.mk hB
      clear hB
      go_wp2_with fail
      go_ret
      exact ⟨rfl, below_then HB.out HB.out.size HB2.out⟩
end Go.Proofs.YtpdcmdofojckdaaDoor.P
