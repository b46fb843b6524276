/- What the laws share: calls of both books on a state; deeds; the law's does. Typed by hand and by a program (gen_l13.py). -/
import Derived.Test.YtpdcmdofojckdaaDoorHBookT
import Derived.Test.YtpdcmdofojckdaaDoorP25
set_option linter.unusedVariables false
set_option linter.unusedSimpArgs false
namespace Go.Proofs.YtpdcmdofojckdaaDoor.P
open Go.RowKit Go.Proofs.YtpdcmdofojckdaaDoor.Pure Go.Proofs.YtpdcmdofojckdaaDoorW.PrintWords Go.Proofs.YtpdcmdofojckdaaDoorW.PrintLast Go.Proofs.YtpdcmdofojckdaaDoorW.PrintMore
abbrev DD := S29
abbrev FD (W : World) (Fo : Nat → Prop) (A : Option Addr) (xs : List DD) : Prop := Kd.F k29 W Fo A xs.length xs
abbrev FC (W : World) (Fo : Nat → Prop) (A : Option Addr) (l : List CS) : Prop := Kd.F k40 W Fo A l.length l
theorem deed_at {W : World} {Fo : Nat → Prop} {A : Option Addr} {xs : List DD} (h : FD W Fo A xs) (i : Nat) (hi : i < xs.length) : ∃ ad A3 c3, ∃ x : DD, A = some ad ∧ x = xs.getD i z29 ∧ W.cell? (ad.add (i * 4)) = some (.int .i64 x.f0) ∧ W.cell? ⟨(ad.add (i * 4)).block, (ad.add (i * 4)).off + 1, none⟩ = some (.int .i64 x.f1) ∧ W.cell? ⟨(ad.add (i * 4)).block, (ad.add (i * 4)).off + 2, none⟩ = some (.int .i64 x.f2) ∧ W.cell? ⟨(ad.add (i * 4)).block, (ad.add (i * 4)).off + 3, none⟩ = some (.slice A3 x.f3.length c3) ∧ x.f3.length ≤ c3 ∧ FC W Fo A3 x.f3 := by
  obtain ⟨ad, c, e, _, hK, hc0, _⟩ := Kd.F_get h z29 (i : Int) (by omega) (by omega)
  rw [Int.toNat_natCast] at hK hc0
  have hc : ∀ j u, c[j]? = some u → W.cell? (ad.add (i * 4 + j)) = some u := hc0
  obtain ⟨A3, c3, rfl, l3, g3⟩ := k29_openF hK
  exact ⟨ad, A3, c3, _, e, rfl, hc 0 _ rfl, by rw [← add_field _ _ 1 (by omega)]; exact hc 1 _ rfl, by rw [← add_field _ _ 2 (by omega)]; exact hc 2 _ rfl, by rw [← add_field _ _ 3 (by omega)]; exact hc 3 _ rfl, l3, g3⟩
theorem agree_of {w W w0 : World} {S Fo : Nat → Prop} {Rs : List Res} (h : St w0 S W (Res.agree w Fo :: Rs)) : Agree w Fo W := (h.get 0 rfl).elim fun ok hp => hp.2
theorem law_stQ {w : World} {Q : World → Prop} (h : Foot Q w (fun k => k < w.heap.size)) : ∃ Fo, Foot Q w Fo ∧ St w (fun _ => False) w [Res.agree w Fo] := by
  obtain ⟨Fo, _, hF, hst⟩ := St.freeze (St.mk0 w (fun _ => False) (Q := Q) (Foot.mono h (fun k _ hf => hf)))
  exact ⟨Fo, hF, hst⟩
theorem heapI : Kd.Heap k36 := Kd.heap_iso _ (Kd.heap_pair (Kd.heap_int _) (Kd.heap_int _))
theorem heapR : Kd.Heap k38 := Kd.heap_iso _ (Kd.heap_pair Kd.heap_string Kd.heap_string)
theorem heapC : Kd.Heap k40 := Kd.heap_iso _ (Kd.heap_pair heapI (Kd.heap_pair Kd.heap_string (Kd.heap_pair (Kd.heap_int _) (Kd.heap_pair Kd.heap_string (Kd.heap_pair heapR heapR)))))
theorem heapD : Kd.Heap k29 := Kd.heap_iso _ (Kd.heap_pair (Kd.heap_int _) (Kd.heap_pair (Kd.heap_int _) (Kd.heap_pair (Kd.heap_int _) (Kd.heap_slice _ heapC))))
theorem law_st {w : World} {A0 : Option Addr} {l0 : List DD} (h : Kd.C k29 w A0 l0.length l0) : ∃ Fo, FD w Fo A0 l0 ∧ St w (fun _ => False) w [Res.agree w Fo] := law_stQ (Q := fun W => Kd.C k29 W A0 l0.length l0) (Kd.C_F heapD h)
theorem C_cut {W : World} {A : Option Addr} {l : List CS} (h : k40.C W A l.length l) : k40.C W A (l.take 40).length (l.take 40) := by
  by_cases h40 : 40 ≤ l.length
  · exact Kd.C_take h h40
  · rw [List.take_of_length_le (by omega)]; exact h
section
variable {w0 W : World} {S : Nat → Prop} {Rs : List Res} {g : Nat} {B : Bk}
/-! the program's book -/
theorem newP_at (h : St w0 S W Rs) (own : Int) (ho : 1 ≤ own ∧ own ≤ 16) : Calls Tryd.prog 7 #[.int .i64 own] W fun e W' => ∃ g, e = .returned (.pointer (some ⟨g, 0, none⟩)) ∧ St w0 S W' (Rs ++ [PBook g (bk0 own)]) :=
  (bookNew.yes own W ho).mono fun e W' ⟨g, h1, h2, h3⟩ => ⟨g, h1, h.add h3 h2⟩
theorem newP_no (h : St w0 S W Rs) (own : Int) (ho : ¬ (1 ≤ own ∧ own ≤ 16)) : Calls Tryd.prog 7 #[.int .i64 own] W fun e W' => e = .returned (.pointer none) ∧ St w0 S W' Rs :=
  (bookNew.no own W ho).mono fun e W' ⟨h1, h2⟩ => ⟨h1, h.on h2⟩
theorem hearP_at (h : St w0 S W Rs) (i : Nat) (hi : Rs[i]? = some (PBook g B)) (h0 : i ≠ 0) (d a : Int) : Calls Tryd.prog 9 #[.pointer (some ⟨g, 0, none⟩), .int .i64 d, .int .i64 a] W fun e W' => e = .returned (.int .i64 (hearE B d a)) ∧ St w0 S W' (Rs.set i (PBook g (hearB B d a))) := by
  obtain ⟨ok, hP, _, hback⟩ := h.lend i hi h0 (fun _ => True) (fun _ _ => trivial)
  exact (bookHear.calls g B d a W ok hP).mono fun e W' hh => ⟨hh.1, hback hh.2⟩
theorem learnP_at0 (h : St w0 S W Rs) (i : Nat) (hi : Rs[i]? = some (PBook g B)) (h0 : i ≠ 0) (hG : Good13 B) (d : Int) {A : Option Addr} {c : Nat} {l : List CS} (asked : Int) (hC : k40.C W A l.length l) (hc : l.length ≤ c) (hl : l.length ≤ 40) :
    Calls Tryd.prog 10 #[.pointer (some ⟨g, 0, none⟩), .int .i64 d, .slice A l.length c, .int .i64 asked] W fun e W' => e = .returned (.int .i64 (learnE B d l asked)) ∧ St w0 S W' (Rs.set i (PBook g (learnB B d l asked))) := by
  obtain ⟨ok, hP, _, hback⟩ := h.lend i hi h0 (fun _ => True) (fun _ _ => trivial)
  exact (bookLearn.calls g B hG d A c l asked W ok hP hC hc hl).mono fun e W' hh => ⟨hh.1, hback hh.2⟩
theorem learnP_at (h : St w0 S W Rs) (i : Nat) (hi : Rs[i]? = some (PBook g B)) (h0 : i ≠ 0) (hG : Good13 B) (d : Int) {A : Option Addr} {n c : Nat} {l : List CS} (asked : Int) (hn : l.length = n) (hC : k40.C W A n l) (hc : n ≤ c ∧ n ≤ 40) :
    Calls Tryd.prog 10 #[.pointer (some ⟨g, 0, none⟩), .int .i64 d, .slice A n c, .int .i64 asked] W fun e W' => e = .returned (.int .i64 (learnE B d l asked)) ∧ St w0 S W' (Rs.set i (PBook g (learnB B d l asked))) := by
  subst hn
  exact learnP_at0 h i hi h0 hG d asked hC hc.1 hc.2
def HeldAt (w0 : World) (S : Nat → Prop) (Rs : List Res) (L : List SH) (e : Ending) (W' : World) : Prop := ∃ A c, e = .returned (.slice A L.length c) ∧ L.length ≤ c ∧ k42.C W' A L.length L ∧ St w0 S W' (Rs ++ [Res.row k42 42 (.slice A L.length c) L])
theorem held_row {e : Ending} {W' : World} {v : Value} {L : List SH} (h : St w0 S W Rs) (he : e = .returned v) (hR : RowH W W' v L) (hB : Below W.heap.size W W') : HeldAt w0 S Rs L e W' := by
  obtain ⟨A, c, rfl, hc, hC⟩ := Kd.R_reads hR
  exact ⟨A, c, he, hc, hC, h.add hB (Kd.R_lower hR (Nat.zero_le _))⟩
theorem heldP_at (h : St w0 S W Rs) (i : Nat) (hi : Rs[i]? = some (PBook g B)) (hG : Good13 B) (now : Int) : Calls Tryd.prog 11 #[.pointer (some ⟨g, 0, none⟩), .int .i64 now] W (HeldAt w0 S Rs (heldL B now)) := by
  obtain ⟨ok, hP⟩ := h.get i hi
  exact (bookHeld.calls g B hG now W ok hP).mono fun e W' ⟨v, h1, h2, h3⟩ => held_row h h1 h2 h3
theorem freshP_at (h : St w0 S W Rs) (i : Nat) (hi : Rs[i]? = some (PBook g B)) (hG : Good13 B) (d now : Int) : Calls Tryd.prog 13 #[.pointer (some ⟨g, 0, none⟩), .int .i64 d, .int .i64 now] W fun e W' => e = .returned (.bool (freshB B d now)) ∧ St w0 S W' Rs := by
  obtain ⟨ok, hP⟩ := h.get i hi
  exact (bookFresh.calls g B hG d now W ok hP).mono fun e W' hh => ⟨hh.1, h.on hh.2⟩
theorem untilP_at (h : St w0 S W Rs) (i : Nat) (hi : Rs[i]? = some (PBook g B)) (hG : Good13 B) {A : Option Addr} {c : Nat} {ids : List SD} (now : Int) (hC : k36.C W A ids.length ids) (hc : ids.length ≤ c) (hl : ids.length ≤ 1000) : Calls Tryd.prog 17 #[.pointer (some ⟨g, 0, none⟩), .slice A ids.length c, .int .i64 now] W fun e W' => e = .returned (.tuple #[.int .i64 (untilR B ids now).1, .int .i64 (untilR B ids now).2]) ∧ St w0 S W' Rs := by
  obtain ⟨ok, hP⟩ := h.get i hi
  exact (bookUntil.calls g B hG A c ids now W ok hP hC hc hl).mono fun e W' hh => ⟨hh.1, h.on hh.2⟩
/-! the document's book -/
theorem hearR_at (h : St w0 S W Rs) (i : Nat) (hi : Rs[i]? = some (RBook g B)) (h0 : i ≠ 0) (d a : Int) : Calls Tryd.prog 27 #[.pointer (some ⟨g, 0, none⟩), .int .i64 d, .int .i64 a] W fun e W' => e = .returned (.int .i64 (hearE B d a)) ∧ St w0 S W' (Rs.set i (RBook g (hearB B d a))) := by
  obtain ⟨ok, hP, _, hback⟩ := h.lend i hi h0 (fun _ => True) (fun _ _ => trivial)
  exact (rbookHear.calls g B d a W ok hP).mono fun e W' hh => ⟨hh.1, hback hh.2⟩
theorem learnR_at0 (h : St w0 S W Rs) (i : Nat) (hi : Rs[i]? = some (RBook g B)) (h0 : i ≠ 0) (hG : Good13 B) (d : Int) {A : Option Addr} {c : Nat} {l : List CS} (asked : Int) (hC : k40.C W A l.length l) (hc : l.length ≤ c) (hl : l.length ≤ 40) :
    Calls Tryd.prog 28 #[.pointer (some ⟨g, 0, none⟩), .int .i64 d, .slice A l.length c, .int .i64 asked] W fun e W' => e = .returned (.int .i64 (learnE B d l asked)) ∧ St w0 S W' (Rs.set i (RBook g (learnB B d l asked))) := by
  obtain ⟨ok, hP, _, hback⟩ := h.lend i hi h0 (fun _ => True) (fun _ _ => trivial)
  exact (rbookLearn.calls g B hG d A c l asked W ok hP hC hc hl).mono fun e W' hh => ⟨hh.1, hback hh.2⟩
theorem learnR_at (h : St w0 S W Rs) (i : Nat) (hi : Rs[i]? = some (RBook g B)) (h0 : i ≠ 0) (hG : Good13 B) (d : Int) {A : Option Addr} {n c : Nat} {l : List CS} (asked : Int) (hn : l.length = n) (hC : k40.C W A n l) (hc : n ≤ c ∧ n ≤ 40) :
    Calls Tryd.prog 28 #[.pointer (some ⟨g, 0, none⟩), .int .i64 d, .slice A n c, .int .i64 asked] W fun e W' => e = .returned (.int .i64 (learnE B d l asked)) ∧ St w0 S W' (Rs.set i (RBook g (learnB B d l asked))) := by
  subst hn
  exact learnR_at0 h i hi h0 hG d asked hC hc.1 hc.2
/-! a block that is known whole -/
theorem blk_add (h : St w0 S W Rs) (o : Obj) : St w0 S (W.alloc o) (Rs ++ [Res.blk W.heap.size o]) := h.add (below_alloc (Below.refl _ _) _) ⟨Nat.le_refl _, blk_new W o⟩
theorem blk_see (h : St w0 S W Rs) (i : Nat) {b : Nat} {o : Obj} (hi : Rs[i]? = some (Res.blk b o)) : W.heap[b]? = some o := (h.get i hi).elim fun ok hp => hp.2
theorem blk_put (h : St w0 S W Rs) (i : Nat) {b : Nat} {cs : Array Value} {t : TypeId} (hi : Rs[i]? = some (Res.blk b (.cells cs t (0, 0)))) (h0 : i ≠ 0) (j : Nat) (u : Value) : St w0 S (W.setCell ⟨b, j, none⟩ u) (Rs.set i (Res.blk b (.cells (cs.setIfInBounds j u) t (0, 0)))) := by
  obtain ⟨ok, hp, hw⟩ := h.write i hi h0
  exact hw ((Keeps.refl W ok).set (p := ⟨b, j, none⟩) (.inl hp.1) u) ⟨.inl hp.1, blk_set hp.2 j u⟩
end
def stepB (kind d asked : Int) (l : List CS) (B : Bk) : Bk := if kind = 1 then hearB B d asked else learnB B d (l.take 40) asked
theorem Good13.step {B : Bk} (h : Good13 B) (kind d asked : Int) (l : List CS) : Good13 (stepB kind d asked l B) := by
  unfold stepB
  split
  · exact h.hear d asked
  · exact h.learn d _ asked
theorem drop3 {w0 W : World} {S : Nat → Prop} {R0 R1 R2 R3 : Res} (h : St w0 S W [R0, R1, R2, R3]) : St w0 S W [Res.any, R1, R2] := h.less fun i R' hi => by
  match i, hi with
  | 0, hi => cases hi; exact ⟨R0, rfl, fun _ _ => trivial⟩
  | 1, hi => cases hi; exact ⟨R1, rfl, fun _ hp => hp⟩
  | 2, hi => cases hi; exact ⟨R2, rfl, fun _ hp => hp⟩
set_option maxHeartbeats 16000000 in
set_option maxRecDepth 100000 in
theorem does.calls (gp gr : Nat) (B : Bk) (hG : Good13 B) (kind d asked : Int) (A : Option Addr) (c : Nat) (l : List CS) (W : World) (S : Nat → Prop) (Q : World → Prop) (hc : l.length ≤ c)
    (h : St W S W [Res.view Q, PBook gp B, RBook gr B]) (hQ : ∀ w, Q w → k40.C w A l.length l) :
    Calls Tryd.prog 12 #[.pointer (some ⟨gp, 0, none⟩), .pointer (some ⟨gr, 0, none⟩), .agg #[.int .i64 kind, .int .i64 d, .int .i64 asked, .slice A l.length c]] W fun e W' =>
      e = .returned (.bool true) ∧ St W S W' [Res.any, PBook gp (stepB kind d asked l B), RBook gr (stepB kind d asked l B)] := by
  obtain ⟨Fo, hFo, hF, hst⟩ := h.freeze
  have HC := Aside0.mk (show FC W Fo A l from Foot.imp hF hQ)
  have HG := Aside0.mk hG
  have HST0 := Aside0.mk hst
  have hu1 := Tryd.underlying29
  clear h hF hst hQ hG hFo
  obtain ⟨lc, elc⟩ : ∃ lc, l.take 40 = lc := ⟨_, rfl⟩
  have HELC := Aside0.mk elc
  have HCT := Aside0.mk (show ∀ W', Agree W Fo W' → k40.C W' A lc.length lc from fun W' h => by rw [← elc]; exact C_cut (HC.out W' h))
  have hlc : lc.length = min 40 l.length := by rw [← elc, List.length_take]
  clear elc
  by_cases h40 : 40 < l.length
  · have h1 : decide ((40 : Int) < (l.length : Int)) = true := decide_eq_true (by omega)
    have hlcc : (40 : Int) ≤ (c : Int) := by omega
    have hln : lc.length = 40 := by omega
    have HLN := Aside0.mk hln
    rw [hln] at HCT
    have HLT := Aside0.mk (show 40 ≤ c ∧ 40 ≤ 40 by omega)
    clear h40 hlc hln
    obtain ⟨b, eb⟩ : ∃ b, b = W.heap.size := ⟨_, rfl⟩
    obtain ⟨w1, e1⟩ : ∃ w1, w1 = W.alloc (.cells #[.int .i64 kind, .int .i64 d, .int .i64 asked, .slice A 40 c] 29) := ⟨_, rfl⟩
    have hst1 := blk_add HST0.out (.cells #[.int .i64 kind, .int .i64 d, .int .i64 asked, .slice A 40 c] 29)
    rw [← eb, ← e1] at hst1
    have HST1 := Aside0.mk (show St W S w1 [Res.agree W Fo, PBook gp B, RBook gr B, Res.blk b (.cells #[.int .i64 kind, .int .i64 d, .int .i64 asked, .slice A 40 c] 29 (0, 0))] from hst1)
    clear hst1
    by_cases hk1 : kind = 1
    · have hkb : (kind == 1) = true := by simp [hk1]
      have HSB := Aside0.mk (show stepB kind d asked l B = (hearB B d asked) by unfold stepB; rw [if_pos hk1])
      clear hk1
      have HX := Aside0.mk e1
      clear e1
      go_enter Tryd.func12, Tryd.ntmps12
      go_wp2_with fail
      rw [← HX.out, ← eb]
      clear HX
      clear eb
      obtain ⟨w2, e_w2⟩ : ∃ w_, w_ = World.drew w1 := ⟨_, rfl⟩
      have HBw2 := Aside0.mk (show Below (World.heap w1).size w1 w2 by rw [e_w2]; exact below_drew (Below.refl _ _))
      have HST2 := Aside0.mk (HST1.out.on HBw2.out)
      refine start_ (n := 14) (S := fun w' => w'.cell? ⟨b, 1, none⟩ = some (.int .i64 d) ∧ w'.cell? ⟨b, 2, none⟩ = some (.int .i64 asked)) (ds := []) #[false, false, false, false, false, false, false, false, false, false, false, false, false, false] (by kernel_rfl) rfl rfl ⟨(by rw [← e_w2]; exact (cell_blk (blk_see HST2.out 3 rfl) 1 rfl)), (by rw [← e_w2]; exact (cell_blk (blk_see HST2.out 3 rfl) 2 rfl))⟩ (fun hHeld => ?_)
      rw [← e_w2] at hHeld ⊢
      clear e_w2
      refine pure_ (i := 0) (N := some 18) (v := ?_) (a' := ?_) #[true, false, false, false, false, false, false, false, false, false, false, false, false, false] rfl rfl (by kernel_rfl) (fun _ _ _ h => h) (Or.inl ⟨by rfl, ?_⟩) ?_ ?_
      rotate_left
      · intro w'
        go_simp
        with_reducible rfl
      rotate_left
      · simp only [Act.put, List.setIfInBounds_toArray, List.set_cons_zero, List.set_cons_succ, i64_w, i32_w]
        rfl
      refine pure_ (i := 1) (N := some 19) (v := ?_) (a' := ?_) #[true, true, false, false, false, false, false, false, false, false, false, false, false, false] rfl rfl (by kernel_rfl) (fun _ _ _ h => h) (Or.inl ⟨by rfl, ?_⟩) ?_ ?_
      rotate_left
      · intro w'
        go_simp
        with_reducible rfl
      rotate_left
      · simp only [Act.put, List.setIfInBounds_toArray, List.set_cons_zero, List.set_cons_succ, i64_w, i32_w]
        rfl
      refine pure_ (i := 3) (N := some 21) (v := ?_) (a' := ?_) #[true, true, false, true, false, false, false, false, false, false, false, false, false, false] rfl rfl (by kernel_rfl) (fun _ _ _ h => h) (Or.inl ⟨by rfl, ?_⟩) ?_ ?_
      rotate_left
      · intro w'
        go_simp
        with_reducible rfl
      rotate_left
      · simp only [Act.put, List.setIfInBounds_toArray, List.set_cons_zero, List.set_cons_succ, i64_w, i32_w]
        rfl
      refine pure_ (i := 6) (N := some 24) (v := ?_) (a' := ?_) #[true, true, false, true, false, false, true, false, false, false, false, false, false, false] rfl rfl (by kernel_rfl) (fun _ _ _ h => h) (Or.inl ⟨by rfl, ?_⟩) ?_ ?_
      rotate_left
      · intro w'
        go_simp
        with_reducible rfl
      rotate_left
      · simp only [Act.put, List.setIfInBounds_toArray, List.set_cons_zero, List.set_cons_succ, i64_w, i32_w]
        rfl
      refine pure_ (i := 7) (N := some 25) (v := ?_) (a' := ?_) #[true, true, false, true, false, false, true, true, false, false, false, false, false, false] rfl rfl (by kernel_rfl) (fun _ _ _ h => h) (Or.inl ⟨by rfl, ?_⟩) ?_ ?_
      rotate_left
      · intro w'
        go_simp
        with_reducible rfl
      rotate_left
      · simp only [Act.put, List.setIfInBounds_toArray, List.set_cons_zero, List.set_cons_succ, i64_w, i32_w]
        rfl
      refine pure_ (i := 9) (N := some 27) (v := ?_) (a' := ?_) #[true, true, false, true, false, false, true, true, false, true, false, false, false, false] rfl rfl (by kernel_rfl) (fun _ _ _ h => h) (Or.inl ⟨by rfl, ?_⟩) ?_ ?_
      rotate_left
      · intro w'
        go_simp
        with_reducible rfl
      rotate_left
      · simp only [Act.put, List.setIfInBounds_toArray, List.set_cons_zero, List.set_cons_succ, i64_w, i32_w]
        rfl
      refine take_ (i := 2) (N := some 20) (v := ?_) (a' := ?_) #[true, true, true, true, false, false, true, true, false, true, false, false, false, false] rfl rfl (by kernel_rfl) (fun _ _ _ h => h) (Or.inl ⟨by rfl, ?_⟩) hHeld ?_ ?_
      rotate_left
      · rintro w' ⟨s0, s1⟩
        go_simp
        with_reducible rfl
      rotate_left
      · simp only [Act.put, List.setIfInBounds_toArray, List.set_cons_zero, List.set_cons_succ, i64_w, i32_w]
        rfl
      refine take_ (i := 4) (N := some 22) (v := ?_) (a' := ?_) #[true, true, true, true, true, false, true, true, false, true, false, false, false, false] rfl rfl (by kernel_rfl) (fun _ _ _ h => h) (Or.inl ⟨by rfl, ?_⟩) hHeld ?_ ?_
      rotate_left
      · rintro w' ⟨s0, s1⟩
        go_simp
        with_reducible rfl
      rotate_left
      · simp only [Act.put, List.setIfInBounds_toArray, List.set_cons_zero, List.set_cons_succ, i64_w, i32_w]
        rfl
      refine take_ (i := 8) (N := some 26) (v := ?_) (a' := ?_) #[true, true, true, true, true, false, true, true, true, true, false, false, false, false] rfl rfl (by kernel_rfl) (fun _ _ _ h => h) (Or.inl ⟨by rfl, ?_⟩) hHeld ?_ ?_
      rotate_left
      · rintro w' ⟨s0, s1⟩
        go_simp
        with_reducible rfl
      rotate_left
      · simp only [Act.put, List.setIfInBounds_toArray, List.set_cons_zero, List.set_cons_succ, i64_w, i32_w]
        rfl
      refine take_ (i := 10) (N := some 28) (v := ?_) (a' := ?_) #[true, true, true, true, true, false, true, true, true, true, true, false, false, false] rfl rfl (by kernel_rfl) (fun _ _ _ h => h) (Or.inl ⟨by rfl, ?_⟩) hHeld ?_ ?_
      rotate_left
      · rintro w' ⟨s0, s1⟩
        go_simp
        with_reducible rfl
      rotate_left
      · simp only [Act.put, List.setIfInBounds_toArray, List.set_cons_zero, List.set_cons_succ, i64_w, i32_w]
        rfl
      refine one_ (i := 5) (N := some 23) #[true, true, true, true, true, true, true, true, true, true, true, false, false, false] rfl rfl (by kernel_rfl) (by decide) (fun K hK => ?_)
      refine goes_ Tryd.func9 (by kernel_rfl) rfl #[.pointer (some ⟨gp, 0, none⟩), .int .i64 d, .int .i64 asked] (by rfl) rfl rfl (by simp only [List.map_toArray, List.map_cons, List.map_nil]; rfl) ?_
      with_reducible refine (hearP_at HST2.out 1 rfl (by decide) d asked).mono ?_
      rintro e w3 ⟨rfl, h3⟩
      have HST3 := Aside0.mk (show St W S w3 [Res.agree W Fo, PBook gp (hearB B d asked), RBook gr B, Res.blk b (.cells #[.int .i64 kind, .int .i64 d, .int .i64 asked, .slice A 40 c] 29 (0, 0))] from h3)
      clear h3
      refine ⟨_, rfl, ?_⟩
      refine hK.out _ _ ⟨(cell_blk (blk_see HST3.out 3 rfl) 1 rfl), (cell_blk (blk_see HST3.out 3 rfl) 2 rfl)⟩ (fun hHeld => ?_)
      clear hK K
      refine norm_ (a' := ?_) ?_ ?_
      rotate_left
      · show Act.put _ (some 23) _ = _
        simp only [Act.put, List.setIfInBounds_toArray, List.set_cons_zero, List.set_cons_succ, i64_w, i32_w]
        rfl
      refine one_ (i := 11) (N := some 29) #[true, true, true, true, true, true, true, true, true, true, true, true, false, false] rfl rfl (by kernel_rfl) (by decide) (fun K hK => ?_)
      refine goes_ Tryd.func27 (by kernel_rfl) rfl #[.pointer (some ⟨gr, 0, none⟩), .int .i64 d, .int .i64 asked] (by rfl) rfl rfl (by simp only [List.map_toArray, List.map_cons, List.map_nil]; rfl) ?_
      with_reducible refine (hearR_at HST3.out 2 rfl (by decide) d asked).mono ?_
      rintro e w4 ⟨rfl, h4⟩
      have HST4 := Aside0.mk (show St W S w4 [Res.agree W Fo, PBook gp (hearB B d asked), RBook gr (hearB B d asked), Res.blk b (.cells #[.int .i64 kind, .int .i64 d, .int .i64 asked, .slice A 40 c] 29 (0, 0))] from h4)
      clear h4
      refine ⟨_, rfl, ?_⟩
      refine hK.out _ _ ⟨(cell_blk (blk_see HST4.out 3 rfl) 1 rfl), (cell_blk (blk_see HST4.out 3 rfl) 2 rfl)⟩ (fun hHeld => ?_)
      clear hK K
      refine norm_ (a' := ?_) ?_ ?_
      rotate_left
      · show Act.put _ (some 29) _ = _
        simp only [Act.put, List.setIfInBounds_toArray, List.set_cons_zero, List.set_cons_succ, i64_w, i32_w]
        rfl
      refine pure_ (i := 12) (N := some 30) (v := ?_) (a' := ?_) #[true, true, true, true, true, true, true, true, true, true, true, true, true, false] rfl rfl (by kernel_rfl) (fun _ _ _ h => h) (Or.inl ⟨by rfl, ?_⟩) ?_ ?_
      rotate_left
      · intro w'
        go_simp
        with_reducible rfl
      rotate_left
      · simp only [Act.put, List.setIfInBounds_toArray, List.set_cons_zero, List.set_cons_succ, i64_w, i32_w]
        rfl
      refine pure_ (i := 13) (N := some 6) (v := ?_) (a' := ?_) #[true, true, true, true, true, true, true, true, true, true, true, true, true, true] rfl rfl (by kernel_rfl) (fun _ _ _ h => h) (Or.inl ⟨by rfl, ?_⟩) ?_ ?_
      rotate_left
      · intro w'
        go_simp
        with_reducible rfl
      rotate_left
      · simp only [Act.put, List.setIfInBounds_toArray, List.set_cons_zero, List.set_cons_succ, i64_w, i32_w]
        rfl
      refine done_ (by kernel_rfl) ?_
      go_wp2_with fail
      go_ret
      rw [HSB.out]
      exact ⟨by simp, drop3 HST4.out⟩
    · have hkb : (kind == 1) = false := by simp [hk1]
      have HSB := Aside0.mk (show stepB kind d asked l B = (learnB B d lc asked) by unfold stepB; rw [if_neg hk1, HELC.out])
      clear hk1
      have HX := Aside0.mk e1
      clear e1
      go_enter Tryd.func12, Tryd.ntmps12
      go_wp2_with fail
      rw [← HX.out, ← eb]
      clear HX
      clear eb
      obtain ⟨w2, e_w2⟩ : ∃ w_, w_ = World.drew w1 := ⟨_, rfl⟩
      have HBw2 := Aside0.mk (show Below (World.heap w1).size w1 w2 by rw [e_w2]; exact below_drew (Below.refl _ _))
      have HST2 := Aside0.mk (HST1.out.on HBw2.out)
      refine start_ (n := 18) (S := fun w' => w'.cell? ⟨b, 1, none⟩ = some (.int .i64 d) ∧ w'.cell? ⟨b, 2, none⟩ = some (.int .i64 asked) ∧ w'.cell? ⟨b, 3, none⟩ = some (.slice A 40 c)) (ds := []) #[false, false, false, false, false, false, false, false, false, false, false, false, false, false, false, false, false, false] (by kernel_rfl) rfl rfl ⟨(by rw [← e_w2]; exact (cell_blk (blk_see HST2.out 3 rfl) 1 rfl)), (by rw [← e_w2]; exact (cell_blk (blk_see HST2.out 3 rfl) 2 rfl)), (by rw [← e_w2]; exact (cell_blk (blk_see HST2.out 3 rfl) 3 rfl))⟩ (fun hHeld => ?_)
      rw [← e_w2] at hHeld ⊢
      clear e_w2
      refine pure_ (i := 0) (N := some 31) (v := ?_) (a' := ?_) #[true, false, false, false, false, false, false, false, false, false, false, false, false, false, false, false, false, false] rfl rfl (by kernel_rfl) (fun _ _ _ h => h) (Or.inl ⟨by rfl, ?_⟩) ?_ ?_
      rotate_left
      · intro w'
        go_simp
        with_reducible rfl
      rotate_left
      · simp only [Act.put, List.setIfInBounds_toArray, List.set_cons_zero, List.set_cons_succ, i64_w, i32_w]
        rfl
      refine pure_ (i := 1) (N := some 32) (v := ?_) (a' := ?_) #[true, true, false, false, false, false, false, false, false, false, false, false, false, false, false, false, false, false] rfl rfl (by kernel_rfl) (fun _ _ _ h => h) (Or.inl ⟨by rfl, ?_⟩) ?_ ?_
      rotate_left
      · intro w'
        go_simp
        with_reducible rfl
      rotate_left
      · simp only [Act.put, List.setIfInBounds_toArray, List.set_cons_zero, List.set_cons_succ, i64_w, i32_w]
        rfl
      refine pure_ (i := 3) (N := some 34) (v := ?_) (a' := ?_) #[true, true, false, true, false, false, false, false, false, false, false, false, false, false, false, false, false, false] rfl rfl (by kernel_rfl) (fun _ _ _ h => h) (Or.inl ⟨by rfl, ?_⟩) ?_ ?_
      rotate_left
      · intro w'
        go_simp
        with_reducible rfl
      rotate_left
      · simp only [Act.put, List.setIfInBounds_toArray, List.set_cons_zero, List.set_cons_succ, i64_w, i32_w]
        rfl
      refine pure_ (i := 5) (N := some 36) (v := ?_) (a' := ?_) #[true, true, false, true, false, true, false, false, false, false, false, false, false, false, false, false, false, false] rfl rfl (by kernel_rfl) (fun _ _ _ h => h) (Or.inl ⟨by rfl, ?_⟩) ?_ ?_
      rotate_left
      · intro w'
        go_simp
        with_reducible rfl
      rotate_left
      · simp only [Act.put, List.setIfInBounds_toArray, List.set_cons_zero, List.set_cons_succ, i64_w, i32_w]
        rfl
      refine pure_ (i := 8) (N := some 39) (v := ?_) (a' := ?_) #[true, true, false, true, false, true, false, false, true, false, false, false, false, false, false, false, false, false] rfl rfl (by kernel_rfl) (fun _ _ _ h => h) (Or.inl ⟨by rfl, ?_⟩) ?_ ?_
      rotate_left
      · intro w'
        go_simp
        with_reducible rfl
      rotate_left
      · simp only [Act.put, List.setIfInBounds_toArray, List.set_cons_zero, List.set_cons_succ, i64_w, i32_w]
        rfl
      refine pure_ (i := 9) (N := some 40) (v := ?_) (a' := ?_) #[true, true, false, true, false, true, false, false, true, true, false, false, false, false, false, false, false, false] rfl rfl (by kernel_rfl) (fun _ _ _ h => h) (Or.inl ⟨by rfl, ?_⟩) ?_ ?_
      rotate_left
      · intro w'
        go_simp
        with_reducible rfl
      rotate_left
      · simp only [Act.put, List.setIfInBounds_toArray, List.set_cons_zero, List.set_cons_succ, i64_w, i32_w]
        rfl
      refine pure_ (i := 11) (N := some 42) (v := ?_) (a' := ?_) #[true, true, false, true, false, true, false, false, true, true, false, true, false, false, false, false, false, false] rfl rfl (by kernel_rfl) (fun _ _ _ h => h) (Or.inl ⟨by rfl, ?_⟩) ?_ ?_
      rotate_left
      · intro w'
        go_simp
        with_reducible rfl
      rotate_left
      · simp only [Act.put, List.setIfInBounds_toArray, List.set_cons_zero, List.set_cons_succ, i64_w, i32_w]
        rfl
      refine pure_ (i := 13) (N := some 44) (v := ?_) (a' := ?_) #[true, true, false, true, false, true, false, false, true, true, false, true, false, true, false, false, false, false] rfl rfl (by kernel_rfl) (fun _ _ _ h => h) (Or.inl ⟨by rfl, ?_⟩) ?_ ?_
      rotate_left
      · intro w'
        go_simp
        with_reducible rfl
      rotate_left
      · simp only [Act.put, List.setIfInBounds_toArray, List.set_cons_zero, List.set_cons_succ, i64_w, i32_w]
        rfl
      refine take_ (i := 2) (N := some 33) (v := ?_) (a' := ?_) #[true, true, true, true, false, true, false, false, true, true, false, true, false, true, false, false, false, false] rfl rfl (by kernel_rfl) (fun _ _ _ h => h) (Or.inl ⟨by rfl, ?_⟩) hHeld ?_ ?_
      rotate_left
      · rintro w' ⟨s0, s1, s2⟩
        go_simp
        with_reducible rfl
      rotate_left
      · simp only [Act.put, List.setIfInBounds_toArray, List.set_cons_zero, List.set_cons_succ, i64_w, i32_w]
        rfl
      refine take_ (i := 4) (N := some 35) (v := ?_) (a' := ?_) #[true, true, true, true, true, true, false, false, true, true, false, true, false, true, false, false, false, false] rfl rfl (by kernel_rfl) (fun _ _ _ h => h) (Or.inl ⟨by rfl, ?_⟩) hHeld ?_ ?_
      rotate_left
      · rintro w' ⟨s0, s1, s2⟩
        go_simp
        with_reducible rfl
      rotate_left
      · simp only [Act.put, List.setIfInBounds_toArray, List.set_cons_zero, List.set_cons_succ, i64_w, i32_w]
        rfl
      refine take_ (i := 6) (N := some 37) (v := ?_) (a' := ?_) #[true, true, true, true, true, true, true, false, true, true, false, true, false, true, false, false, false, false] rfl rfl (by kernel_rfl) (fun _ _ _ h => h) (Or.inl ⟨by rfl, ?_⟩) hHeld ?_ ?_
      rotate_left
      · rintro w' ⟨s0, s1, s2⟩
        go_simp
        with_reducible rfl
      rotate_left
      · simp only [Act.put, List.setIfInBounds_toArray, List.set_cons_zero, List.set_cons_succ, i64_w, i32_w]
        rfl
      refine take_ (i := 10) (N := some 41) (v := ?_) (a' := ?_) #[true, true, true, true, true, true, true, false, true, true, true, true, false, true, false, false, false, false] rfl rfl (by kernel_rfl) (fun _ _ _ h => h) (Or.inl ⟨by rfl, ?_⟩) hHeld ?_ ?_
      rotate_left
      · rintro w' ⟨s0, s1, s2⟩
        go_simp
        with_reducible rfl
      rotate_left
      · simp only [Act.put, List.setIfInBounds_toArray, List.set_cons_zero, List.set_cons_succ, i64_w, i32_w]
        rfl
      refine take_ (i := 12) (N := some 43) (v := ?_) (a' := ?_) #[true, true, true, true, true, true, true, false, true, true, true, true, true, true, false, false, false, false] rfl rfl (by kernel_rfl) (fun _ _ _ h => h) (Or.inl ⟨by rfl, ?_⟩) hHeld ?_ ?_
      rotate_left
      · rintro w' ⟨s0, s1, s2⟩
        go_simp
        with_reducible rfl
      rotate_left
      · simp only [Act.put, List.setIfInBounds_toArray, List.set_cons_zero, List.set_cons_succ, i64_w, i32_w]
        rfl
      refine take_ (i := 14) (N := some 45) (v := ?_) (a' := ?_) #[true, true, true, true, true, true, true, false, true, true, true, true, true, true, true, false, false, false] rfl rfl (by kernel_rfl) (fun _ _ _ h => h) (Or.inl ⟨by rfl, ?_⟩) hHeld ?_ ?_
      rotate_left
      · rintro w' ⟨s0, s1, s2⟩
        go_simp
        with_reducible rfl
      rotate_left
      · simp only [Act.put, List.setIfInBounds_toArray, List.set_cons_zero, List.set_cons_succ, i64_w, i32_w]
        rfl
      refine one_ (i := 7) (N := some 38) #[true, true, true, true, true, true, true, true, true, true, true, true, true, true, true, false, false, false] rfl rfl (by kernel_rfl) (by decide) (fun K hK => ?_)
      refine goes_ Tryd.func10 (by kernel_rfl) rfl #[.pointer (some ⟨gp, 0, none⟩), .int .i64 d, .slice A 40 c, .int .i64 asked] (by rfl) rfl rfl (by simp only [List.map_toArray, List.map_cons, List.map_nil]; rfl) ?_
      with_reducible refine (learnP_at HST2.out 1 rfl (by decide) HG.out d asked HLN.out (HCT.out _ (agree_of HST2.out)) HLT.out).mono ?_
      rintro e w3 ⟨rfl, h3⟩
      have HST3 := Aside0.mk (show St W S w3 [Res.agree W Fo, PBook gp (learnB B d lc asked), RBook gr B, Res.blk b (.cells #[.int .i64 kind, .int .i64 d, .int .i64 asked, .slice A 40 c] 29 (0, 0))] from h3)
      clear h3
      refine ⟨_, rfl, ?_⟩
      refine hK.out _ _ ⟨(cell_blk (blk_see HST3.out 3 rfl) 1 rfl), (cell_blk (blk_see HST3.out 3 rfl) 2 rfl), (cell_blk (blk_see HST3.out 3 rfl) 3 rfl)⟩ (fun hHeld => ?_)
      clear hK K
      refine norm_ (a' := ?_) ?_ ?_
      rotate_left
      · show Act.put _ (some 38) _ = _
        simp only [Act.put, List.setIfInBounds_toArray, List.set_cons_zero, List.set_cons_succ, i64_w, i32_w]
        rfl
      refine one_ (i := 15) (N := some 46) #[true, true, true, true, true, true, true, true, true, true, true, true, true, true, true, true, false, false] rfl rfl (by kernel_rfl) (by decide) (fun K hK => ?_)
      refine goes_ Tryd.func28 (by kernel_rfl) rfl #[.pointer (some ⟨gr, 0, none⟩), .int .i64 d, .slice A 40 c, .int .i64 asked] (by rfl) rfl rfl (by simp only [List.map_toArray, List.map_cons, List.map_nil]; rfl) ?_
      with_reducible refine (learnR_at HST3.out 2 rfl (by decide) HG.out d asked HLN.out (HCT.out _ (agree_of HST3.out)) HLT.out).mono ?_
      rintro e w4 ⟨rfl, h4⟩
      have HST4 := Aside0.mk (show St W S w4 [Res.agree W Fo, PBook gp (learnB B d lc asked), RBook gr (learnB B d lc asked), Res.blk b (.cells #[.int .i64 kind, .int .i64 d, .int .i64 asked, .slice A 40 c] 29 (0, 0))] from h4)
      clear h4
      refine ⟨_, rfl, ?_⟩
      refine hK.out _ _ ⟨(cell_blk (blk_see HST4.out 3 rfl) 1 rfl), (cell_blk (blk_see HST4.out 3 rfl) 2 rfl), (cell_blk (blk_see HST4.out 3 rfl) 3 rfl)⟩ (fun hHeld => ?_)
      clear hK K
      refine norm_ (a' := ?_) ?_ ?_
      rotate_left
      · show Act.put _ (some 46) _ = _
        simp only [Act.put, List.setIfInBounds_toArray, List.set_cons_zero, List.set_cons_succ, i64_w, i32_w]
        rfl
      refine pure_ (i := 16) (N := some 47) (v := ?_) (a' := ?_) #[true, true, true, true, true, true, true, true, true, true, true, true, true, true, true, true, true, false] rfl rfl (by kernel_rfl) (fun _ _ _ h => h) (Or.inl ⟨by rfl, ?_⟩) ?_ ?_
      rotate_left
      · intro w'
        go_simp
        with_reducible rfl
      rotate_left
      · simp only [Act.put, List.setIfInBounds_toArray, List.set_cons_zero, List.set_cons_succ, i64_w, i32_w]
        rfl
      refine pure_ (i := 17) (N := some 6) (v := ?_) (a' := ?_) #[true, true, true, true, true, true, true, true, true, true, true, true, true, true, true, true, true, true] rfl rfl (by kernel_rfl) (fun _ _ _ h => h) (Or.inl ⟨by rfl, ?_⟩) ?_ ?_
      rotate_left
      · intro w'
        go_simp
        with_reducible rfl
      rotate_left
      · simp only [Act.put, List.setIfInBounds_toArray, List.set_cons_zero, List.set_cons_succ, i64_w, i32_w]
        rfl
      refine done_ (by kernel_rfl) ?_
      go_wp2_with fail
      go_ret
      rw [HSB.out]
      exact ⟨by simp, drop3 HST4.out⟩
  · have h1 : decide ((40 : Int) < (l.length : Int)) = false := decide_eq_false (by omega)
    obtain ⟨n, en⟩ : ∃ n, l.length = n := ⟨_, rfl⟩
    have hln : lc.length = n := by omega
    have HLN := Aside0.mk hln
    rw [hln] at HCT
    rw [en] at h1 ⊢
    have HLT := Aside0.mk (show n ≤ c ∧ n ≤ 40 by omega)
    clear h40 hlc hln en
    obtain ⟨b, eb⟩ : ∃ b, b = W.heap.size := ⟨_, rfl⟩
    obtain ⟨w1, e1⟩ : ∃ w1, w1 = W.alloc (.cells #[.int .i64 kind, .int .i64 d, .int .i64 asked, .slice A n c] 29) := ⟨_, rfl⟩
    have hst1 := blk_add HST0.out (.cells #[.int .i64 kind, .int .i64 d, .int .i64 asked, .slice A n c] 29)
    rw [← eb, ← e1] at hst1
    have HST1 := Aside0.mk (show St W S w1 [Res.agree W Fo, PBook gp B, RBook gr B, Res.blk b (.cells #[.int .i64 kind, .int .i64 d, .int .i64 asked, .slice A n c] 29 (0, 0))] from hst1)
    clear hst1
    by_cases hk1 : kind = 1
    · have hkb : (kind == 1) = true := by simp [hk1]
      have HSB := Aside0.mk (show stepB kind d asked l B = (hearB B d asked) by unfold stepB; rw [if_pos hk1])
      clear hk1
      have HX := Aside0.mk e1
      clear e1
      go_enter Tryd.func12, Tryd.ntmps12
      go_wp2_with fail
      rw [← HX.out, ← eb]
      clear HX
      clear eb
      obtain ⟨w2, e_w2⟩ : ∃ w_, w_ = World.drew w1 := ⟨_, rfl⟩
      have HBw2 := Aside0.mk (show Below (World.heap w1).size w1 w2 by rw [e_w2]; exact below_drew (Below.refl _ _))
      have HST2 := Aside0.mk (HST1.out.on HBw2.out)
      refine start_ (n := 14) (S := fun w' => w'.cell? ⟨b, 1, none⟩ = some (.int .i64 d) ∧ w'.cell? ⟨b, 2, none⟩ = some (.int .i64 asked)) (ds := []) #[false, false, false, false, false, false, false, false, false, false, false, false, false, false] (by kernel_rfl) rfl rfl ⟨(by rw [← e_w2]; exact (cell_blk (blk_see HST2.out 3 rfl) 1 rfl)), (by rw [← e_w2]; exact (cell_blk (blk_see HST2.out 3 rfl) 2 rfl))⟩ (fun hHeld => ?_)
      rw [← e_w2] at hHeld ⊢
      clear e_w2
      refine pure_ (i := 0) (N := some 18) (v := ?_) (a' := ?_) #[true, false, false, false, false, false, false, false, false, false, false, false, false, false] rfl rfl (by kernel_rfl) (fun _ _ _ h => h) (Or.inl ⟨by rfl, ?_⟩) ?_ ?_
      rotate_left
      · intro w'
        go_simp
        with_reducible rfl
      rotate_left
      · simp only [Act.put, List.setIfInBounds_toArray, List.set_cons_zero, List.set_cons_succ, i64_w, i32_w]
        rfl
      refine pure_ (i := 1) (N := some 19) (v := ?_) (a' := ?_) #[true, true, false, false, false, false, false, false, false, false, false, false, false, false] rfl rfl (by kernel_rfl) (fun _ _ _ h => h) (Or.inl ⟨by rfl, ?_⟩) ?_ ?_
      rotate_left
      · intro w'
        go_simp
        with_reducible rfl
      rotate_left
      · simp only [Act.put, List.setIfInBounds_toArray, List.set_cons_zero, List.set_cons_succ, i64_w, i32_w]
        rfl
      refine pure_ (i := 3) (N := some 21) (v := ?_) (a' := ?_) #[true, true, false, true, false, false, false, false, false, false, false, false, false, false] rfl rfl (by kernel_rfl) (fun _ _ _ h => h) (Or.inl ⟨by rfl, ?_⟩) ?_ ?_
      rotate_left
      · intro w'
        go_simp
        with_reducible rfl
      rotate_left
      · simp only [Act.put, List.setIfInBounds_toArray, List.set_cons_zero, List.set_cons_succ, i64_w, i32_w]
        rfl
      refine pure_ (i := 6) (N := some 24) (v := ?_) (a' := ?_) #[true, true, false, true, false, false, true, false, false, false, false, false, false, false] rfl rfl (by kernel_rfl) (fun _ _ _ h => h) (Or.inl ⟨by rfl, ?_⟩) ?_ ?_
      rotate_left
      · intro w'
        go_simp
        with_reducible rfl
      rotate_left
      · simp only [Act.put, List.setIfInBounds_toArray, List.set_cons_zero, List.set_cons_succ, i64_w, i32_w]
        rfl
      refine pure_ (i := 7) (N := some 25) (v := ?_) (a' := ?_) #[true, true, false, true, false, false, true, true, false, false, false, false, false, false] rfl rfl (by kernel_rfl) (fun _ _ _ h => h) (Or.inl ⟨by rfl, ?_⟩) ?_ ?_
      rotate_left
      · intro w'
        go_simp
        with_reducible rfl
      rotate_left
      · simp only [Act.put, List.setIfInBounds_toArray, List.set_cons_zero, List.set_cons_succ, i64_w, i32_w]
        rfl
      refine pure_ (i := 9) (N := some 27) (v := ?_) (a' := ?_) #[true, true, false, true, false, false, true, true, false, true, false, false, false, false] rfl rfl (by kernel_rfl) (fun _ _ _ h => h) (Or.inl ⟨by rfl, ?_⟩) ?_ ?_
      rotate_left
      · intro w'
        go_simp
        with_reducible rfl
      rotate_left
      · simp only [Act.put, List.setIfInBounds_toArray, List.set_cons_zero, List.set_cons_succ, i64_w, i32_w]
        rfl
      refine take_ (i := 2) (N := some 20) (v := ?_) (a' := ?_) #[true, true, true, true, false, false, true, true, false, true, false, false, false, false] rfl rfl (by kernel_rfl) (fun _ _ _ h => h) (Or.inl ⟨by rfl, ?_⟩) hHeld ?_ ?_
      rotate_left
      · rintro w' ⟨s0, s1⟩
        go_simp
        with_reducible rfl
      rotate_left
      · simp only [Act.put, List.setIfInBounds_toArray, List.set_cons_zero, List.set_cons_succ, i64_w, i32_w]
        rfl
      refine take_ (i := 4) (N := some 22) (v := ?_) (a' := ?_) #[true, true, true, true, true, false, true, true, false, true, false, false, false, false] rfl rfl (by kernel_rfl) (fun _ _ _ h => h) (Or.inl ⟨by rfl, ?_⟩) hHeld ?_ ?_
      rotate_left
      · rintro w' ⟨s0, s1⟩
        go_simp
        with_reducible rfl
      rotate_left
      · simp only [Act.put, List.setIfInBounds_toArray, List.set_cons_zero, List.set_cons_succ, i64_w, i32_w]
        rfl
      refine take_ (i := 8) (N := some 26) (v := ?_) (a' := ?_) #[true, true, true, true, true, false, true, true, true, true, false, false, false, false] rfl rfl (by kernel_rfl) (fun _ _ _ h => h) (Or.inl ⟨by rfl, ?_⟩) hHeld ?_ ?_
      rotate_left
      · rintro w' ⟨s0, s1⟩
        go_simp
        with_reducible rfl
      rotate_left
      · simp only [Act.put, List.setIfInBounds_toArray, List.set_cons_zero, List.set_cons_succ, i64_w, i32_w]
        rfl
      refine take_ (i := 10) (N := some 28) (v := ?_) (a' := ?_) #[true, true, true, true, true, false, true, true, true, true, true, false, false, false] rfl rfl (by kernel_rfl) (fun _ _ _ h => h) (Or.inl ⟨by rfl, ?_⟩) hHeld ?_ ?_
      rotate_left
      · rintro w' ⟨s0, s1⟩
        go_simp
        with_reducible rfl
      rotate_left
      · simp only [Act.put, List.setIfInBounds_toArray, List.set_cons_zero, List.set_cons_succ, i64_w, i32_w]
        rfl
      refine one_ (i := 5) (N := some 23) #[true, true, true, true, true, true, true, true, true, true, true, false, false, false] rfl rfl (by kernel_rfl) (by decide) (fun K hK => ?_)
      refine goes_ Tryd.func9 (by kernel_rfl) rfl #[.pointer (some ⟨gp, 0, none⟩), .int .i64 d, .int .i64 asked] (by rfl) rfl rfl (by simp only [List.map_toArray, List.map_cons, List.map_nil]; rfl) ?_
      with_reducible refine (hearP_at HST2.out 1 rfl (by decide) d asked).mono ?_
      rintro e w3 ⟨rfl, h3⟩
      have HST3 := Aside0.mk (show St W S w3 [Res.agree W Fo, PBook gp (hearB B d asked), RBook gr B, Res.blk b (.cells #[.int .i64 kind, .int .i64 d, .int .i64 asked, .slice A n c] 29 (0, 0))] from h3)
      clear h3
      refine ⟨_, rfl, ?_⟩
      refine hK.out _ _ ⟨(cell_blk (blk_see HST3.out 3 rfl) 1 rfl), (cell_blk (blk_see HST3.out 3 rfl) 2 rfl)⟩ (fun hHeld => ?_)
      clear hK K
      refine norm_ (a' := ?_) ?_ ?_
      rotate_left
      · show Act.put _ (some 23) _ = _
        simp only [Act.put, List.setIfInBounds_toArray, List.set_cons_zero, List.set_cons_succ, i64_w, i32_w]
        rfl
      refine one_ (i := 11) (N := some 29) #[true, true, true, true, true, true, true, true, true, true, true, true, false, false] rfl rfl (by kernel_rfl) (by decide) (fun K hK => ?_)
      refine goes_ Tryd.func27 (by kernel_rfl) rfl #[.pointer (some ⟨gr, 0, none⟩), .int .i64 d, .int .i64 asked] (by rfl) rfl rfl (by simp only [List.map_toArray, List.map_cons, List.map_nil]; rfl) ?_
      with_reducible refine (hearR_at HST3.out 2 rfl (by decide) d asked).mono ?_
      rintro e w4 ⟨rfl, h4⟩
      have HST4 := Aside0.mk (show St W S w4 [Res.agree W Fo, PBook gp (hearB B d asked), RBook gr (hearB B d asked), Res.blk b (.cells #[.int .i64 kind, .int .i64 d, .int .i64 asked, .slice A n c] 29 (0, 0))] from h4)
      clear h4
      refine ⟨_, rfl, ?_⟩
      refine hK.out _ _ ⟨(cell_blk (blk_see HST4.out 3 rfl) 1 rfl), (cell_blk (blk_see HST4.out 3 rfl) 2 rfl)⟩ (fun hHeld => ?_)
      clear hK K
      refine norm_ (a' := ?_) ?_ ?_
      rotate_left
      · show Act.put _ (some 29) _ = _
        simp only [Act.put, List.setIfInBounds_toArray, List.set_cons_zero, List.set_cons_succ, i64_w, i32_w]
        rfl
      refine pure_ (i := 12) (N := some 30) (v := ?_) (a' := ?_) #[true, true, true, true, true, true, true, true, true, true, true, true, true, false] rfl rfl (by kernel_rfl) (fun _ _ _ h => h) (Or.inl ⟨by rfl, ?_⟩) ?_ ?_
      rotate_left
      · intro w'
        go_simp
        with_reducible rfl
      rotate_left
      · simp only [Act.put, List.setIfInBounds_toArray, List.set_cons_zero, List.set_cons_succ, i64_w, i32_w]
        rfl
      refine pure_ (i := 13) (N := some 6) (v := ?_) (a' := ?_) #[true, true, true, true, true, true, true, true, true, true, true, true, true, true] rfl rfl (by kernel_rfl) (fun _ _ _ h => h) (Or.inl ⟨by rfl, ?_⟩) ?_ ?_
      rotate_left
      · intro w'
        go_simp
        with_reducible rfl
      rotate_left
      · simp only [Act.put, List.setIfInBounds_toArray, List.set_cons_zero, List.set_cons_succ, i64_w, i32_w]
        rfl
      refine done_ (by kernel_rfl) ?_
      go_wp2_with fail
      go_ret
      rw [HSB.out]
      exact ⟨by simp, drop3 HST4.out⟩
    · have hkb : (kind == 1) = false := by simp [hk1]
      have HSB := Aside0.mk (show stepB kind d asked l B = (learnB B d lc asked) by unfold stepB; rw [if_neg hk1, HELC.out])
      clear hk1
      have HX := Aside0.mk e1
      clear e1
      go_enter Tryd.func12, Tryd.ntmps12
      go_wp2_with fail
      rw [← HX.out, ← eb]
      clear HX
      clear eb
      obtain ⟨w2, e_w2⟩ : ∃ w_, w_ = World.drew w1 := ⟨_, rfl⟩
      have HBw2 := Aside0.mk (show Below (World.heap w1).size w1 w2 by rw [e_w2]; exact below_drew (Below.refl _ _))
      have HST2 := Aside0.mk (HST1.out.on HBw2.out)
      refine start_ (n := 18) (S := fun w' => w'.cell? ⟨b, 1, none⟩ = some (.int .i64 d) ∧ w'.cell? ⟨b, 2, none⟩ = some (.int .i64 asked) ∧ w'.cell? ⟨b, 3, none⟩ = some (.slice A n c)) (ds := []) #[false, false, false, false, false, false, false, false, false, false, false, false, false, false, false, false, false, false] (by kernel_rfl) rfl rfl ⟨(by rw [← e_w2]; exact (cell_blk (blk_see HST2.out 3 rfl) 1 rfl)), (by rw [← e_w2]; exact (cell_blk (blk_see HST2.out 3 rfl) 2 rfl)), (by rw [← e_w2]; exact (cell_blk (blk_see HST2.out 3 rfl) 3 rfl))⟩ (fun hHeld => ?_)
      rw [← e_w2] at hHeld ⊢
      clear e_w2
      refine pure_ (i := 0) (N := some 31) (v := ?_) (a' := ?_) #[true, false, false, false, false, false, false, false, false, false, false, false, false, false, false, false, false, false] rfl rfl (by kernel_rfl) (fun _ _ _ h => h) (Or.inl ⟨by rfl, ?_⟩) ?_ ?_
      rotate_left
      · intro w'
        go_simp
        with_reducible rfl
      rotate_left
      · simp only [Act.put, List.setIfInBounds_toArray, List.set_cons_zero, List.set_cons_succ, i64_w, i32_w]
        rfl
      refine pure_ (i := 1) (N := some 32) (v := ?_) (a' := ?_) #[true, true, false, false, false, false, false, false, false, false, false, false, false, false, false, false, false, false] rfl rfl (by kernel_rfl) (fun _ _ _ h => h) (Or.inl ⟨by rfl, ?_⟩) ?_ ?_
      rotate_left
      · intro w'
        go_simp
        with_reducible rfl
      rotate_left
      · simp only [Act.put, List.setIfInBounds_toArray, List.set_cons_zero, List.set_cons_succ, i64_w, i32_w]
        rfl
      refine pure_ (i := 3) (N := some 34) (v := ?_) (a' := ?_) #[true, true, false, true, false, false, false, false, false, false, false, false, false, false, false, false, false, false] rfl rfl (by kernel_rfl) (fun _ _ _ h => h) (Or.inl ⟨by rfl, ?_⟩) ?_ ?_
      rotate_left
      · intro w'
        go_simp
        with_reducible rfl
      rotate_left
      · simp only [Act.put, List.setIfInBounds_toArray, List.set_cons_zero, List.set_cons_succ, i64_w, i32_w]
        rfl
      refine pure_ (i := 5) (N := some 36) (v := ?_) (a' := ?_) #[true, true, false, true, false, true, false, false, false, false, false, false, false, false, false, false, false, false] rfl rfl (by kernel_rfl) (fun _ _ _ h => h) (Or.inl ⟨by rfl, ?_⟩) ?_ ?_
      rotate_left
      · intro w'
        go_simp
        with_reducible rfl
      rotate_left
      · simp only [Act.put, List.setIfInBounds_toArray, List.set_cons_zero, List.set_cons_succ, i64_w, i32_w]
        rfl
      refine pure_ (i := 8) (N := some 39) (v := ?_) (a' := ?_) #[true, true, false, true, false, true, false, false, true, false, false, false, false, false, false, false, false, false] rfl rfl (by kernel_rfl) (fun _ _ _ h => h) (Or.inl ⟨by rfl, ?_⟩) ?_ ?_
      rotate_left
      · intro w'
        go_simp
        with_reducible rfl
      rotate_left
      · simp only [Act.put, List.setIfInBounds_toArray, List.set_cons_zero, List.set_cons_succ, i64_w, i32_w]
        rfl
      refine pure_ (i := 9) (N := some 40) (v := ?_) (a' := ?_) #[true, true, false, true, false, true, false, false, true, true, false, false, false, false, false, false, false, false] rfl rfl (by kernel_rfl) (fun _ _ _ h => h) (Or.inl ⟨by rfl, ?_⟩) ?_ ?_
      rotate_left
      · intro w'
        go_simp
        with_reducible rfl
      rotate_left
      · simp only [Act.put, List.setIfInBounds_toArray, List.set_cons_zero, List.set_cons_succ, i64_w, i32_w]
        rfl
      refine pure_ (i := 11) (N := some 42) (v := ?_) (a' := ?_) #[true, true, false, true, false, true, false, false, true, true, false, true, false, false, false, false, false, false] rfl rfl (by kernel_rfl) (fun _ _ _ h => h) (Or.inl ⟨by rfl, ?_⟩) ?_ ?_
      rotate_left
      · intro w'
        go_simp
        with_reducible rfl
      rotate_left
      · simp only [Act.put, List.setIfInBounds_toArray, List.set_cons_zero, List.set_cons_succ, i64_w, i32_w]
        rfl
      refine pure_ (i := 13) (N := some 44) (v := ?_) (a' := ?_) #[true, true, false, true, false, true, false, false, true, true, false, true, false, true, false, false, false, false] rfl rfl (by kernel_rfl) (fun _ _ _ h => h) (Or.inl ⟨by rfl, ?_⟩) ?_ ?_
      rotate_left
      · intro w'
        go_simp
        with_reducible rfl
      rotate_left
      · simp only [Act.put, List.setIfInBounds_toArray, List.set_cons_zero, List.set_cons_succ, i64_w, i32_w]
        rfl
      refine take_ (i := 2) (N := some 33) (v := ?_) (a' := ?_) #[true, true, true, true, false, true, false, false, true, true, false, true, false, true, false, false, false, false] rfl rfl (by kernel_rfl) (fun _ _ _ h => h) (Or.inl ⟨by rfl, ?_⟩) hHeld ?_ ?_
      rotate_left
      · rintro w' ⟨s0, s1, s2⟩
        go_simp
        with_reducible rfl
      rotate_left
      · simp only [Act.put, List.setIfInBounds_toArray, List.set_cons_zero, List.set_cons_succ, i64_w, i32_w]
        rfl
      refine take_ (i := 4) (N := some 35) (v := ?_) (a' := ?_) #[true, true, true, true, true, true, false, false, true, true, false, true, false, true, false, false, false, false] rfl rfl (by kernel_rfl) (fun _ _ _ h => h) (Or.inl ⟨by rfl, ?_⟩) hHeld ?_ ?_
      rotate_left
      · rintro w' ⟨s0, s1, s2⟩
        go_simp
        with_reducible rfl
      rotate_left
      · simp only [Act.put, List.setIfInBounds_toArray, List.set_cons_zero, List.set_cons_succ, i64_w, i32_w]
        rfl
      refine take_ (i := 6) (N := some 37) (v := ?_) (a' := ?_) #[true, true, true, true, true, true, true, false, true, true, false, true, false, true, false, false, false, false] rfl rfl (by kernel_rfl) (fun _ _ _ h => h) (Or.inl ⟨by rfl, ?_⟩) hHeld ?_ ?_
      rotate_left
      · rintro w' ⟨s0, s1, s2⟩
        go_simp
        with_reducible rfl
      rotate_left
      · simp only [Act.put, List.setIfInBounds_toArray, List.set_cons_zero, List.set_cons_succ, i64_w, i32_w]
        rfl
      refine take_ (i := 10) (N := some 41) (v := ?_) (a' := ?_) #[true, true, true, true, true, true, true, false, true, true, true, true, false, true, false, false, false, false] rfl rfl (by kernel_rfl) (fun _ _ _ h => h) (Or.inl ⟨by rfl, ?_⟩) hHeld ?_ ?_
      rotate_left
      · rintro w' ⟨s0, s1, s2⟩
        go_simp
        with_reducible rfl
      rotate_left
      · simp only [Act.put, List.setIfInBounds_toArray, List.set_cons_zero, List.set_cons_succ, i64_w, i32_w]
        rfl
      refine take_ (i := 12) (N := some 43) (v := ?_) (a' := ?_) #[true, true, true, true, true, true, true, false, true, true, true, true, true, true, false, false, false, false] rfl rfl (by kernel_rfl) (fun _ _ _ h => h) (Or.inl ⟨by rfl, ?_⟩) hHeld ?_ ?_
      rotate_left
      · rintro w' ⟨s0, s1, s2⟩
        go_simp
        with_reducible rfl
      rotate_left
      · simp only [Act.put, List.setIfInBounds_toArray, List.set_cons_zero, List.set_cons_succ, i64_w, i32_w]
        rfl
      refine take_ (i := 14) (N := some 45) (v := ?_) (a' := ?_) #[true, true, true, true, true, true, true, false, true, true, true, true, true, true, true, false, false, false] rfl rfl (by kernel_rfl) (fun _ _ _ h => h) (Or.inl ⟨by rfl, ?_⟩) hHeld ?_ ?_
      rotate_left
      · rintro w' ⟨s0, s1, s2⟩
        go_simp
        with_reducible rfl
      rotate_left
      · simp only [Act.put, List.setIfInBounds_toArray, List.set_cons_zero, List.set_cons_succ, i64_w, i32_w]
        rfl
      refine one_ (i := 7) (N := some 38) #[true, true, true, true, true, true, true, true, true, true, true, true, true, true, true, false, false, false] rfl rfl (by kernel_rfl) (by decide) (fun K hK => ?_)
      refine goes_ Tryd.func10 (by kernel_rfl) rfl #[.pointer (some ⟨gp, 0, none⟩), .int .i64 d, .slice A n c, .int .i64 asked] (by rfl) rfl rfl (by simp only [List.map_toArray, List.map_cons, List.map_nil]; rfl) ?_
      with_reducible refine (learnP_at HST2.out 1 rfl (by decide) HG.out d asked HLN.out (HCT.out _ (agree_of HST2.out)) HLT.out).mono ?_
      rintro e w3 ⟨rfl, h3⟩
      have HST3 := Aside0.mk (show St W S w3 [Res.agree W Fo, PBook gp (learnB B d lc asked), RBook gr B, Res.blk b (.cells #[.int .i64 kind, .int .i64 d, .int .i64 asked, .slice A n c] 29 (0, 0))] from h3)
      clear h3
      refine ⟨_, rfl, ?_⟩
      refine hK.out _ _ ⟨(cell_blk (blk_see HST3.out 3 rfl) 1 rfl), (cell_blk (blk_see HST3.out 3 rfl) 2 rfl), (cell_blk (blk_see HST3.out 3 rfl) 3 rfl)⟩ (fun hHeld => ?_)
      clear hK K
      refine norm_ (a' := ?_) ?_ ?_
      rotate_left
      · show Act.put _ (some 38) _ = _
        simp only [Act.put, List.setIfInBounds_toArray, List.set_cons_zero, List.set_cons_succ, i64_w, i32_w]
        rfl
      refine one_ (i := 15) (N := some 46) #[true, true, true, true, true, true, true, true, true, true, true, true, true, true, true, true, false, false] rfl rfl (by kernel_rfl) (by decide) (fun K hK => ?_)
      refine goes_ Tryd.func28 (by kernel_rfl) rfl #[.pointer (some ⟨gr, 0, none⟩), .int .i64 d, .slice A n c, .int .i64 asked] (by rfl) rfl rfl (by simp only [List.map_toArray, List.map_cons, List.map_nil]; rfl) ?_
      with_reducible refine (learnR_at HST3.out 2 rfl (by decide) HG.out d asked HLN.out (HCT.out _ (agree_of HST3.out)) HLT.out).mono ?_
      rintro e w4 ⟨rfl, h4⟩
      have HST4 := Aside0.mk (show St W S w4 [Res.agree W Fo, PBook gp (learnB B d lc asked), RBook gr (learnB B d lc asked), Res.blk b (.cells #[.int .i64 kind, .int .i64 d, .int .i64 asked, .slice A n c] 29 (0, 0))] from h4)
      clear h4
      refine ⟨_, rfl, ?_⟩
      refine hK.out _ _ ⟨(cell_blk (blk_see HST4.out 3 rfl) 1 rfl), (cell_blk (blk_see HST4.out 3 rfl) 2 rfl), (cell_blk (blk_see HST4.out 3 rfl) 3 rfl)⟩ (fun hHeld => ?_)
      clear hK K
      refine norm_ (a' := ?_) ?_ ?_
      rotate_left
      · show Act.put _ (some 46) _ = _
        simp only [Act.put, List.setIfInBounds_toArray, List.set_cons_zero, List.set_cons_succ, i64_w, i32_w]
        rfl
      refine pure_ (i := 16) (N := some 47) (v := ?_) (a' := ?_) #[true, true, true, true, true, true, true, true, true, true, true, true, true, true, true, true, true, false] rfl rfl (by kernel_rfl) (fun _ _ _ h => h) (Or.inl ⟨by rfl, ?_⟩) ?_ ?_
      rotate_left
      · intro w'
        go_simp
        with_reducible rfl
      rotate_left
      · simp only [Act.put, List.setIfInBounds_toArray, List.set_cons_zero, List.set_cons_succ, i64_w, i32_w]
        rfl
      refine pure_ (i := 17) (N := some 6) (v := ?_) (a' := ?_) #[true, true, true, true, true, true, true, true, true, true, true, true, true, true, true, true, true, true] rfl rfl (by kernel_rfl) (fun _ _ _ h => h) (Or.inl ⟨by rfl, ?_⟩) ?_ ?_
      rotate_left
      · intro w'
        go_simp
        with_reducible rfl
      rotate_left
      · simp only [Act.put, List.setIfInBounds_toArray, List.set_cons_zero, List.set_cons_succ, i64_w, i32_w]
        rfl
      refine done_ (by kernel_rfl) ?_
      go_wp2_with fail
      go_ret
      rw [HSB.out]
      exact ⟨by simp, drop3 HST4.out⟩
end Go.Proofs.YtpdcmdofojckdaaDoor.P
