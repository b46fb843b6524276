/- Texts of this claim, laid into one. -/
import Derived.Test.YtmfmoddaejoekaaR17
import Derived.Test.YtmfmoddaejoekaaHTapeA
section
/- An object: a block that is known whole, and parts to which it leads, each in blocks of its own. Plain words, for whatever program. -/
set_option linter.unusedVariables false
set_option linter.unusedSimpArgs false
namespace Go.Proofs.YtmfmoddaejoekaaW.PrintWords
open Go.RowKit
/-- The block g of type t with cells cs, and the parts Rs. -/
def Res.obj (g : Nat) (t : TypeId) (cs : List Value) (Rs : List Res) : Res where
  P := fun ok W => ok g ∧ W.heap[g]? = some (.cells cs.toArray t (0, 0)) ∧ ∃ own : Nat → Nat, ∀ (i : Nat) (R : Res), Rs[i]? = some R → R.P (fun k => (ok k ∧ k < W.heap.size) ∧ k ≠ g ∧ own k = i) W
  mono := fun hok ⟨h1, h2, own, h3⟩ => ⟨hok _ h1, h2, own, fun i R hi => R.mono (fun k hk => ⟨⟨hok k hk.1.1, hk.1.2⟩, hk.2⟩) (h3 i R hi)⟩
  step := fun h hm => by
    obtain ⟨h1, h2, own, h3⟩ := h
    refine ⟨h1, (hm _ h1 (blk_lt h2)).trans h2, own, fun i R hi => ?_⟩
    refine R.mono (fun k hk => ?_) (R.step (h3 i R hi) (fun k hk hlt => hm k hk.1.1 hlt))
    exact ⟨⟨hk.1.1, heap_lt (hm k hk.1.1 hk.1.2) hk.1.2⟩, hk.2⟩
  bound := fun ⟨h1, h2, own, h3⟩ => ⟨⟨h1, blk_lt h2⟩, h2, own, fun i R hi => R.mono (fun k hk => ⟨⟨hk.1, hk.1.2⟩, hk.2⟩) (h3 i R hi)⟩
section
variable {g i : Nat} {t : TypeId} {cs : List Value} {Rs : List Res} {R R' : Res} {ok : Nat → Prop} {W W' : World}
theorem obj_ok (h : (Res.obj g t cs Rs).P ok W) : ok g := h.1
theorem obj_blk (h : (Res.obj g t cs Rs).P ok W) : W.heap[g]? = some (.cells cs.toArray t (0, 0)) := h.2.1
theorem obj_get (h : (Res.obj g t cs Rs).P ok W) (i : Nat) (hi : Rs[i]? = some R) : ∃ oki : Nat → Prop, R.P oki W ∧ (∀ k, oki k → ok k ∧ k < W.heap.size ∧ k ≠ g) := by
  obtain ⟨h1, h2, own, h3⟩ := h
  exact ⟨_, h3 i R hi, fun k hk => ⟨hk.1.1, hk.1.2, hk.2.1⟩⟩
/-- A cell of the block is written. -/
theorem obj_set (h : (Res.obj g t cs Rs).P ok W) (j : Nat) (u : Value) : (Res.obj g t (cs.set j u) Rs).P ok (W.setCell ⟨g, j, none⟩ u) ∧ Keeps W (W.setCell ⟨g, j, none⟩ u) ok := by
  obtain ⟨h1, h2, own, h3⟩ := h
  have hk := Keeps.of_set W ⟨g, j, none⟩ u
  have hsz : (W.setCell ⟨g, j, none⟩ u).heap.size = W.heap.size := by simp [World.setCell]
  refine ⟨⟨h1, ?_, own, fun i R hi => ?_⟩, hk.mono (fun k _ he => by rw [he]; exact h1)⟩
  · rw [blk_set h2 j u, List.setIfInBounds_toArray]
  · refine R.mono (fun k hk2 => ?_) (R.step (h3 i R hi) (fun k hk2 hlt => hk.block k hlt hk2.2.1))
    rw [hsz]
    exact hk2
/-- The part number i is turned by a call, or by a writing of its own. -/
theorem obj_turn (h : (Res.obj g t cs Rs).P ok W) (i : Nat) (hi : Rs[i]? = some R) : ∃ oki : Nat → Prop, R.P oki W ∧ (∀ k, oki k → ok k ∧ k < W.heap.size ∧ k ≠ g) ∧
    ∀ {W' : World} {R' : Res}, Turned oki W W' R' → Turned ok W W' (Res.obj g t cs (Rs.set i R')) := by
  obtain ⟨h1, h2, own, h3⟩ := h
  refine ⟨fun k => (ok k ∧ k < W.heap.size) ∧ k ≠ g ∧ own k = i, h3 i R hi, fun k hk => ⟨hk.1.1, hk.1.2, hk.2.1⟩, fun {W' R'} ht => ?_⟩
  have hlt : i < Rs.length := (List.getElem?_eq_some_iff.1 hi).1
  refine ⟨ht.1.mono (fun k _ hk => hk.1.1), .inl h1, (ht.1.block g (blk_lt h2) (fun hh => hh.2.1 rfl)).trans h2, fun k => if k < W.heap.size then own k else i, fun j Rj hj => ?_⟩
  by_cases e : i = j
  · subst e
    rw [List.getElem?_set_self hlt] at hj
    cases hj
    refine R'.mono (fun k hk => ?_) (R'.bound ht.2)
    obtain ⟨hk1, hk2⟩ := hk
    rcases hk1 with hk1 | hk1
    · exact ⟨⟨.inl hk1.1.1, hk2⟩, hk1.2.1, by show (if k < W.heap.size then own k else i) = i; rw [if_pos hk1.1.2]; exact hk1.2.2⟩
    · refine ⟨⟨.inr hk1, hk2⟩, fun he => ?_, by show (if k < W.heap.size then own k else i) = i; rw [if_neg (by omega)]⟩
      have := blk_lt h2
      omega
  · rw [List.getElem?_set_ne e] at hj
    refine Rj.mono (fun k hk => ?_) (Rj.step (h3 j Rj hj) (fun k hk hlt2 => ht.1.block k hlt2 (fun hh => e (hh.2.2.symm.trans hk.2.2))))
    exact ⟨⟨.inl hk.1.1, Nat.lt_of_lt_of_le hk.1.2 ht.1.size⟩, hk.2.1, by show (if k < W.heap.size then own k else i) = j; rw [if_pos hk.1.2]; exact hk.2.2⟩
/-- A part that is new takes the place of number i. -/
theorem obj_new (h : (Res.obj g t cs Rs).P ok W) (i : Nat) (hb : Below W.heap.size W W') (hR : R'.P (fun k => W.heap.size ≤ k) W') : Turned ok W W' (Res.obj g t cs (Rs.set i R')) := by
  obtain ⟨h1, h2, own, h3⟩ := h
  refine ⟨Keeps.of_below hb _, .inl h1, (hb.block g (blk_lt h2)).trans h2, fun k => if k < W.heap.size then own k else i, fun j Rj hj => ?_⟩
  by_cases e : i = j
  · subst e
    by_cases hlt : i < Rs.length
    · rw [List.getElem?_set_self hlt] at hj
      cases hj
      refine R'.mono (fun k hk => ⟨⟨.inr hk.1, hk.2⟩, fun he => ?_, by have := hk.1; show (if k < W.heap.size then own k else i) = i; rw [if_neg (by omega)]⟩) (R'.bound hR)
      have := blk_lt h2
      have := hk.1
      omega
    · rw [List.set_eq_of_length_le (by omega)] at hj
      have := (List.getElem?_eq_some_iff.1 hj).1
      omega
  · rw [List.getElem?_set_ne e] at hj
    refine Rj.mono (fun k hk => ?_) (Rj.step (h3 j Rj hj) (fun k hk hlt2 => hb.block k hlt2))
    exact ⟨⟨.inl hk.1.1, Nat.lt_of_lt_of_le hk.1.2 hb.size⟩, hk.2.1, by show (if k < W.heap.size then own k else i) = j; rw [if_pos hk.1.2]; exact hk.2.2⟩
/-- Parts may be told as less. -/
theorem obj_less (h : (Res.obj g t cs Rs).P ok W) (i : Nat) (hi : Rs[i]? = some R) (hl : ∀ ok, R.P ok W → R'.P ok W) : (Res.obj g t cs (Rs.set i R')).P ok W := by
  obtain ⟨h1, h2, own, h3⟩ := h
  refine ⟨h1, h2, own, fun j Rj hj => ?_⟩
  have hlt : i < Rs.length := (List.getElem?_eq_some_iff.1 hi).1
  by_cases e : i = j
  · subst e
    rw [List.getElem?_set_self hlt] at hj
    cases hj
    exact hl _ (h3 i R hi)
  · rw [List.getElem?_set_ne e] at hj
    exact h3 j Rj hj
end
end Go.Proofs.YtmfmoddaejoekaaW.PrintWords
end
section
/- Contracts, typed by hand: the program's tape: what it is; New, ready, Units. -/
set_option linter.unusedVariables false
set_option linter.unusedSimpArgs false
namespace Go.Proofs.Ytmfmoddaejoekaa.P
open Go.RowKit Go.Proofs.YtmfmoddaejoekaaW.PrintWords Go.Proofs.YtmfmoddaejoekaaW.PrintLast Go.Proofs.YtmfmoddaejoekaaW.PrintMore
/-- Units. -/
abbrev UnR (v : Value) (us : List Un) : Res := Res.row k89 84 v us
/-- A tape's block and what it leads to. -/
abbrev TapeC (g : Nat) (v0 v1 m0 m1 vu : Value) (a b n0 n1 : List Int) (us : List Un) (burns : Bool) (x : Int) : Res :=
  Res.obj g 62 [v0, v1, m0, m1, vu, .bool burns, .int .i64 x] [SideR v0 a, SideR v1 b, SideR m0 n0, SideR m1 n1, UnR vu us]
/-- The program's tape. -/
def PTape (g : Nat) (T : TM) : Res := Res.ex fun p : Value × Value × Value × Value × Value × Int =>
  Res.with_ (T.burns = true → p.2.2.2.2.2 = T.left) (TapeC g p.1 p.2.1 p.2.2.1 p.2.2.2.1 p.2.2.2.2.1 T.s0 T.s1 (T.now 0) (T.now 1) T.us T.burns p.2.2.2.2.2)
theorem ptape_open {g : Nat} {T : TM} {ok : Nat → Prop} {W : World} (h : (PTape g T).P ok W) : ∃ v0 v1 m0 m1 vu x, (T.burns = true → x = T.left) ∧ (TapeC g v0 v1 m0 m1 vu T.s0 T.s1 (T.now 0) (T.now 1) T.us T.burns x).P ok W := by
  obtain ⟨p, h1, h2⟩ := h
  exact ⟨_, _, _, _, _, _, h1, h2⟩
theorem ptape_mk {g : Nat} {T : TM} {ok : Nat → Prop} {W : World} {v0 v1 m0 m1 vu : Value} {x : Int} (h1 : T.burns = true → x = T.left) (h2 : (TapeC g v0 v1 m0 m1 vu T.s0 T.s1 (T.now 0) (T.now 1) T.us T.burns x).P ok W) : (PTape g T).P ok W := ⟨(v0, v1, m0, m1, vu, x), h1, h2⟩
theorem tape_blk {g : Nat} {v0 v1 m0 m1 vu : Value} {a b n0 n1 : List Int} {us : List Un} {burns : Bool} {x : Int} {ok : Nat → Prop} {W : World} (h : (TapeC g v0 v1 m0 m1 vu a b n0 n1 us burns x).P ok W) : W.heap[g]? = some (.cells #[v0, v1, m0, m1, vu, .bool burns, .int .i64 x] 62 (0, 0)) := obj_blk h
set_option maxHeartbeats 2000000 in
theorem tape_ready.calls (g : Nat) (T : TM) (i : Int) (W : World) (ok : Nat → Prop) (hP : (PTape g T).P ok W) :
    Calls Try.prog 47 #[.pointer (some ⟨g, 0, none⟩), .int .i64 i] W fun e W' => e = .returned (.int .i64 (T.ready i)) ∧ W = W' := by
  obtain ⟨v0, v1, m0, m1, vu, x, hx, hC⟩ := ptape_open hP
  obtain ⟨x0, x1, x2, x3, x4, x5, x6, _⟩ := blk_all7 (tape_blk hC)
  clear hP hC
  obtain ⟨bu, eb⟩ : ∃ bu, T.burns = bu := ⟨_, rfl⟩
  rw [eb] at x5 hx
  by_cases h1 : i < 0
  · have b1 : decide (i < 0) = true := decide_eq_true h1
    have HR := Aside0.mk (show T.ready i = 1 by unfold TM.ready; rw [if_pos (.inl h1)])
    clear h1 hx eb
    go_enter Try.func47, Try.ntmps47
    go_wp2_with fail
    go_ret
    exact ⟨by rw [HR.out]; rfl, rfl⟩
  · have b1 : decide (i < 0) = false := decide_eq_false h1
    by_cases h2 : 2 ≤ i
    · have b2 : decide (2 ≤ i) = true := decide_eq_true h2
      have HR := Aside0.mk (show T.ready i = 1 by unfold TM.ready; rw [if_pos (.inr h2)])
      clear h1 h2 hx eb
      go_enter Try.func47, Try.ntmps47
      go_wp2_with fail
      go_ret
      exact ⟨by rw [HR.out]; rfl, rfl⟩
    · have b2 : decide (2 ≤ i) = false := decide_eq_false h2
      cases bu with
      | false =>
        have HR := Aside0.mk (show T.ready i = 0 by unfold TM.ready; rw [if_neg (by omega), if_neg (by rw [eb]; simp)])
        clear h1 h2 hx eb
        go_enter Try.func47, Try.ntmps47
        go_wp2_with fail
        go_ret
        exact ⟨by rw [HR.out]; rfl, rfl⟩
      | true =>
        have hxl := hx rfl
        by_cases h0 : x = 0
        · have HR := Aside0.mk (show T.ready i = 40 by unfold TM.ready; rw [if_neg (by omega), if_pos ⟨eb, by omega⟩])
          have b3 : (x == 0) = true := by simp [h0]
          clear h1 h2 hx eb hxl h0
          go_enter Try.func47, Try.ntmps47
          go_wp2_with fail
          go_ret
          exact ⟨by rw [HR.out]; rfl, rfl⟩
        · have HR := Aside0.mk (show T.ready i = 0 by unfold TM.ready; rw [if_neg (by omega), if_neg (by rw [← hxl]; exact fun hh => h0 hh.2)])
          have b3 : (x == 0) = false := by simp [h0]
          clear h1 h2 hx eb hxl h0
          go_enter Try.func47, Try.ntmps47
          go_wp2_with fail
          go_ret
          exact ⟨by rw [HR.out]; rfl, rfl⟩
theorem tape_Units.calls (g : Nat) (T : TM) (W : World) (ok : Nat → Prop) (hP : (PTape g T).P ok W) :
    Calls Try.prog 58 #[.pointer (some ⟨g, 0, none⟩)] W fun e W' => e = .returned (.int .i64 (T.us.length : Int)) ∧ W = W' := by
  obtain ⟨v0, v1, m0, m1, vu, x, hx, hC⟩ := ptape_open hP
  obtain ⟨oku, hu, _⟩ := obj_get hC 4 rfl
  obtain ⟨A, c, ev⟩ := Kd.R_slice (show (k89).R 84 W 0 oku vu T.us from hu)
  subst ev
  obtain ⟨x0, x1, x2, x3, x4, x5, x6, _⟩ := blk_all7 (tape_blk hC)
  clear hP hC hu hx
  go_enter Try.func58, Try.ntmps58
  go_wp2_with fail
  go_ret
  exact ⟨rfl, rfl⟩
end Go.Proofs.Ytmfmoddaejoekaa.P
end
section
/- Contracts, typed by hand: what any unit does to a side. -/
set_option linter.unusedVariables false
set_option linter.unusedSimpArgs false
namespace Go.Proofs.Ytmfmoddaejoekaa.P
open Go.RowKit Go.Proofs.YtmfmoddaejoekaaW.PrintWords Go.Proofs.YtmfmoddaejoekaaW.PrintLast Go.Proofs.YtmfmoddaejoekaaW.PrintMore
theorem done.side0 (v v1 : Value) (l : List Int) (u : Un) (W : World) (ok : Nat → Prop) (h : (SideR v l).P ok W) (hu : u.f0 = 0) (hl : l.length ≤ 65536) (hc : 0 ≤ u.f1 → u.f1 ≤ (l.length : Int)) (hv : ∃ A n c, v1 = .slice A n c) :
    Calls Try.prog 59 #[.agg #[v, v1], .agg #[.int .i64 u.f0, .int .i64 u.f1, .int .u8 u.f2]] W fun e W' => ∃ v', e = .returned (.agg #[v', v1]) ∧ (∃ A n c, v' = .slice A n c) ∧ Turned ok W W' (SideR v' (unit1 l 0 u)) := by
  obtain ⟨A1, n1, c1, rfl⟩ := hv
  rw [hu]
  unfold unit1
  rw [if_pos hu]
  have hb := (SideR v l).bound h
  by_cases h0 : 0 ≤ u.f1
  · rw [if_pos h0]
    obtain ⟨m, em⟩ : ∃ m : Nat, u.f1 = (m : Int) := ⟨u.f1.toNat, by omega⟩
    have hm : m ≤ l.length := by have := hc h0; omega
    rw [em, Int.toNat_natCast]
    obtain ⟨A, c, rfl⟩ := side_slice h
    refine (done.cut0 A c l A1 n1 c1 m u.f2 W ok h hm hl).mono fun e W' hh => ⟨_, hh.1, ⟨_, _, _, rfl⟩, ?_⟩
    exact (Turned.refl (side_cut h m hm)).on hh.2
  · rw [if_neg h0]
    rcases hb with hR | ⟨ad, rfl, hF⟩
    · obtain ⟨A, c, rfl⟩ := Kd.R_slice hR
      refine (done.put0 A c l A1 n1 c1 u.f1 u.f2 W _ hR (fun k hk => hk.2) (by omega) hl).mono fun e W' ⟨A9, c9, he, ht⟩ => ⟨_, he, ⟨_, _, _, rfl⟩, ht.1.mono (fun k _ hk => hk.1), (SideR _ _).mono (fun k hk => hk.imp (·.1) id) ht.2⟩
    · refine (done.put0c ad l A1 n1 c1 u.f1 u.f2 W _ hF (fun k hk => hk.2) (by omega) hl).mono fun e W' ⟨A9, c9, he, ht⟩ => ⟨_, he, ⟨_, _, _, rfl⟩, ht.1.mono (fun k _ hk => hk.1), (SideR _ _).mono (fun k hk => hk.imp (·.1) id) ht.2⟩
theorem done.side1 (v v1 : Value) (l : List Int) (u : Un) (W : World) (ok : Nat → Prop) (h : (SideR v l).P ok W) (hu : u.f0 = 1) (hl : l.length ≤ 65536) (hc : 0 ≤ u.f1 → u.f1 ≤ (l.length : Int)) (hv : ∃ A n c, v1 = .slice A n c) :
    Calls Try.prog 59 #[.agg #[v1, v], .agg #[.int .i64 u.f0, .int .i64 u.f1, .int .u8 u.f2]] W fun e W' => ∃ v', e = .returned (.agg #[v1, v']) ∧ (∃ A n c, v' = .slice A n c) ∧ Turned ok W W' (SideR v' (unit1 l 1 u)) := by
  obtain ⟨A1, n1, c1, rfl⟩ := hv
  rw [hu]
  unfold unit1
  rw [if_pos hu]
  have hb := (SideR v l).bound h
  by_cases h0 : 0 ≤ u.f1
  · rw [if_pos h0]
    obtain ⟨m, em⟩ : ∃ m : Nat, u.f1 = (m : Int) := ⟨u.f1.toNat, by omega⟩
    have hm : m ≤ l.length := by have := hc h0; omega
    rw [em, Int.toNat_natCast]
    obtain ⟨A, c, rfl⟩ := side_slice h
    refine (done.cut1 A c l A1 n1 c1 m u.f2 W ok h hm hl).mono fun e W' hh => ⟨_, hh.1, ⟨_, _, _, rfl⟩, ?_⟩
    exact (Turned.refl (side_cut h m hm)).on hh.2
  · rw [if_neg h0]
    rcases hb with hR | ⟨ad, rfl, hF⟩
    · obtain ⟨A, c, rfl⟩ := Kd.R_slice hR
      refine (done.put1 A c l A1 n1 c1 u.f1 u.f2 W _ hR (fun k hk => hk.2) (by omega) hl).mono fun e W' ⟨A9, c9, he, ht⟩ => ⟨_, he, ⟨_, _, _, rfl⟩, ht.1.mono (fun k _ hk => hk.1), (SideR _ _).mono (fun k hk => hk.imp (·.1) id) ht.2⟩
    · refine (done.put1c ad l A1 n1 c1 u.f1 u.f2 W _ hF (fun k hk => hk.2) (by omega) hl).mono fun e W' ⟨A9, c9, he, ht⟩ => ⟨_, he, ⟨_, _, _, rfl⟩, ht.1.mono (fun k _ hk => hk.1), (SideR _ _).mono (fun k hk => hk.imp (·.1) id) ht.2⟩
end Go.Proofs.Ytmfmoddaejoekaa.P
end
