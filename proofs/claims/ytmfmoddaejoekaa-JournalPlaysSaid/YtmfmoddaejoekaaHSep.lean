/- Texts of this claim, laid into one. -/
import Derived.Test.YtmfmoddaejoekaaR17
import Derived.Test.YtmfmoddaejoekaaHTapeA
section
/- An object: a block that is known whole, and parts to which it leads, each in blocks of its own. Plain words, for whatever program. -/
set_option linter.unusedVariables false
set_option linter.unusedSimpArgs false
namespace Go.Proofs.YtmfmoddaejoekaaW.PrintWords
open Go.RowKit
/-- The block g of type t with cells cs, and the parts Rs. -/
def Res.obj (g : Nat) (t : TypeId) (cs : List Value) (Rs : List Res) : Res where
 P := fun ok W => ok g ∧ W.heap[g]? = some (.cells cs.toArray t (0, 0)) ∧ ∃ own : Nat → Nat, ∀ (i : Nat) (R : Res), Rs[i]? = some R → R.P (fun k => (ok k ∧ k < W.heap.size) ∧ k ≠ g ∧ own k = i) W
 mono := fun hok ⟨h1, h2, own, h3⟩ => ⟨hok _ h1, h2, own, fun i R hi => R.mono (fun k hk => ⟨⟨hok k hk.1.1, hk.1.2⟩, hk.2⟩) (h3 i R hi)⟩
 step := fun h hm => by
  obtain ⟨h1, h2, own, h3⟩ := h
  refine ⟨h1, (hm _ h1 (blk_lt h2)).trans h2, own, fun i R hi => ?_⟩
  refine R.mono (fun k hk => ?_) (R.step (h3 i R hi) (fun k hk hlt => hm k hk.1.1 hlt))
  exact ⟨⟨hk.1.1, heap_lt (hm k hk.1.1 hk.1.2) hk.1.2⟩, hk.2⟩
 bound := fun ⟨h1, h2, own, h3⟩ => ⟨⟨h1, blk_lt h2⟩, h2, own, fun i R hi => R.mono (fun k hk => ⟨⟨hk.1, hk.1.2⟩, hk.2⟩) (h3 i R hi)⟩
section
variable {g i : Nat} {t : TypeId} {cs : List Value} {Rs : List Res} {R R' : Res} {ok : Nat → Prop} {W W' : World}
theorem obj_ok (h : (Res.obj g t cs Rs).P ok W) : ok g := h.1
theorem obj_blk (h : (Res.obj g t cs Rs).P ok W) : W.heap[g]? = some (.cells cs.toArray t (0, 0)) := h.2.1
theorem obj_get (h : (Res.obj g t cs Rs).P ok W) (i : Nat) (hi : Rs[i]? = some R) : ∃ oki : Nat → Prop, R.P oki W ∧ (∀ k, oki k → ok k ∧ k < W.heap.size ∧ k ≠ g) := by
 obtain ⟨h1, h2, own, h3⟩ := h
 exact ⟨_, h3 i R hi, fun k hk => ⟨hk.1.1, hk.1.2, hk.2.1⟩⟩
/-- A cell of the block is written. -/
theorem obj_set (h : (Res.obj g t cs Rs).P ok W) (j : Nat) (u : Value) : (Res.obj g t (cs.set j u) Rs).P ok (W.setCell ⟨g, j, none⟩ u) ∧ Keeps W (W.setCell ⟨g, j, none⟩ u) ok := by
 obtain ⟨h1, h2, own, h3⟩ := h
 have hk := Keeps.of_set W ⟨g, j, none⟩ u
 have hsz : (W.setCell ⟨g, j, none⟩ u).heap.size = W.heap.size := by simp [World.setCell]
 refine ⟨⟨h1, ?_, own, fun i R hi => ?_⟩, hk.mono (fun k _ he => by rw [he]; exact h1)⟩
 ·rw [blk_set h2 j u, List.setIfInBounds_toArray]
 ·refine R.mono (fun k hk2 => ?_) (R.step (h3 i R hi) (fun k hk2 hlt => hk.block k hlt hk2.2.1))
  rw [hsz]
  exact hk2
/-- The part number i is turned by a call, or by a writing of its own. -/
theorem obj_turn (h : (Res.obj g t cs Rs).P ok W) (i : Nat) (hi : Rs[i]? = some R) : ∃ oki : Nat → Prop, R.P oki W ∧ (∀ k, oki k → ok k ∧ k < W.heap.size ∧ k ≠ g) ∧
  ∀ {W' : World} {R' : Res}, Turned oki W W' R' → Turned ok W W' (Res.obj g t cs (Rs.set i R')) := by
 obtain ⟨h1, h2, own, h3⟩ := h
 refine ⟨fun k => (ok k ∧ k < W.heap.size) ∧ k ≠ g ∧ own k = i, h3 i R hi, fun k hk => ⟨hk.1.1, hk.1.2, hk.2.1⟩, fun {W' R'} ht => ?_⟩
 have hlt : i < Rs.length := (List.getElem?_eq_some_iff.1 hi).1
 refine ⟨ht.1.mono (fun k _ hk => hk.1.1), .inl h1, (ht.1.block g (blk_lt h2) (fun hh => hh.2.1 rfl)).trans h2, fun k => if k < W.heap.size then own k else i, fun j Rj hj => ?_⟩
 by_cases e : i = j
 ·subst e
  rw [List.getElem?_set_self hlt] at hj
  cases hj
  refine R'.mono (fun k hk => ?_) (R'.bound ht.2)
  obtain ⟨hk1, hk2⟩ := hk
  rcases hk1 with hk1 | hk1
  ·exact ⟨⟨.inl hk1.1.1, hk2⟩, hk1.2.1, by show (if k < W.heap.size then own k else i) = i; rw [if_pos hk1.1.2]; exact hk1.2.2⟩
  ·refine ⟨⟨.inr hk1, hk2⟩, fun he => ?_, by show (if k < W.heap.size then own k else i) = i; rw [if_neg (by omega)]⟩
   have := blk_lt h2
   omega
 ·rw [List.getElem?_set_ne e] at hj
  refine Rj.mono (fun k hk => ?_) (Rj.step (h3 j Rj hj) (fun k hk hlt2 => ht.1.block k hlt2 (fun hh => e (hh.2.2.symm.trans hk.2.2))))
  exact ⟨⟨.inl hk.1.1, Nat.lt_of_lt_of_le hk.1.2 ht.1.size⟩, hk.2.1, by show (if k < W.heap.size then own k else i) = j; rw [if_pos hk.1.2]; exact hk.2.2⟩
/-- A part that is new takes the place of number i. -/
theorem obj_new (h : (Res.obj g t cs Rs).P ok W) (i : Nat) (hb : Below W.heap.size W W') (hR : R'.P (fun k => W.heap.size ≤ k) W') : Turned ok W W' (Res.obj g t cs (Rs.set i R')) := by
 obtain ⟨h1, h2, own, h3⟩ := h
 refine ⟨Keeps.of_below hb _, .inl h1, (hb.block g (blk_lt h2)).trans h2, fun k => if k < W.heap.size then own k else i, fun j Rj hj => ?_⟩
 by_cases e : i = j
 ·subst e
  by_cases hlt : i < Rs.length
  ·rw [List.getElem?_set_self hlt] at hj
   cases hj
   refine R'.mono (fun k hk => ⟨⟨.inr hk.1, hk.2⟩, fun he => ?_, by have := hk.1; show (if k < W.heap.size then own k else i) = i; rw [if_neg (by omega)]⟩) (R'.bound hR)
   have := blk_lt h2
   have := hk.1
   omega
  ·rw [List.set_eq_of_length_le (by omega)] at hj
   have := (List.getElem?_eq_some_iff.1 hj).1
   omega
 ·rw [List.getElem?_set_ne e] at hj
  refine Rj.mono (fun k hk => ?_) (Rj.step (h3 j Rj hj) (fun k hk hlt2 => hb.block k hlt2))
  exact ⟨⟨.inl hk.1.1, Nat.lt_of_lt_of_le hk.1.2 hb.size⟩, hk.2.1, by show (if k < W.heap.size then own k else i) = j; rw [if_pos hk.1.2]; exact hk.2.2⟩
/-- Parts may be told as less. -/
theorem obj_less (h : (Res.obj g t cs Rs).P ok W) (i : Nat) (hi : Rs[i]? = some R) (hl : ∀ ok, R.P ok W → R'.P ok W) : (Res.obj g t cs (Rs.set i R')).P ok W := by
 obtain ⟨h1, h2, own, h3⟩ := h
 refine ⟨h1, h2, own, fun j Rj hj => ?_⟩
 have hlt : i < Rs.length := (List.getElem?_eq_some_iff.1 hi).1
 by_cases e : i = j
 ·subst e
  rw [List.getElem?_set_self hlt] at hj
  cases hj
  exact hl _ (h3 i R hi)
 ·rw [List.getElem?_set_ne e] at hj
  exact h3 j Rj hj
end
end Go.Proofs.YtmfmoddaejoekaaW.PrintWords
end
section
/- Contracts, typed by hand: the program's tape: what it is; New, ready, Units. -/
set_option linter.unusedVariables false
set_option linter.unusedSimpArgs false
namespace Go.Proofs.Ytmfmoddaejoekaa.P
open Go.RowKit Go.Proofs.YtmfmoddaejoekaaW.PrintWords Go.Proofs.YtmfmoddaejoekaaW.PrintLast Go.Proofs.YtmfmoddaejoekaaW.PrintMore
/-- Units. -/
abbrev UnR (v : Value) (us : List Un) : Res := Res.row k89 84 v us
/-- A tape's block and what it leads to. -/
abbrev TapeC (g : Nat) (v0 v1 m0 m1 vu : Value) (a b n0 n1 : List Int) (us : List Un) (burns : Bool) (x : Int) : Res :=
 Res.obj g 62 [v0, v1, m0, m1, vu, .bool burns, .int .i64 x] [SideR v0 a, SideR v1 b, SideR m0 n0, SideR m1 n1, UnR vu us]
/-- The program's tape. -/
def PTape (g : Nat) (T : TM) : Res := Res.ex fun p : Value × Value × Value × Value × Value × Int =>
 Res.with_ (T.burns = true → p.2.2.2.2.2 = T.left) (TapeC g p.1 p.2.1 p.2.2.1 p.2.2.2.1 p.2.2.2.2.1 T.s0 T.s1 (T.now 0) (T.now 1) T.us T.burns p.2.2.2.2.2)
theorem ptape_open {g : Nat} {T : TM} {ok : Nat → Prop} {W : World} (h : (PTape g T).P ok W) : ∃ v0 v1 m0 m1 vu x, (T.burns = true → x = T.left) ∧ (TapeC g v0 v1 m0 m1 vu T.s0 T.s1 (T.now 0) (T.now 1) T.us T.burns x).P ok W := by
 obtain ⟨p, h1, h2⟩ := h
 exact ⟨_, _, _, _, _, _, h1, h2⟩
theorem ptape_mk {g : Nat} {T : TM} {ok : Nat → Prop} {W : World} {v0 v1 m0 m1 vu : Value} {x : Int} (h1 : T.burns = true → x = T.left) (h2 : (TapeC g v0 v1 m0 m1 vu T.s0 T.s1 (T.now 0) (T.now 1) T.us T.burns x).P ok W) : (PTape g T).P ok W := ⟨(v0, v1, m0, m1, vu, x), h1, h2⟩
theorem tape_blk {g : Nat} {v0 v1 m0 m1 vu : Value} {a b n0 n1 : List Int} {us : List Un} {burns : Bool} {x : Int} {ok : Nat → Prop} {W : World} (h : (TapeC g v0 v1 m0 m1 vu a b n0 n1 us burns x).P ok W) : W.heap[g]? = some (.cells #[v0, v1, m0, m1, vu, .bool burns, .int .i64 x] 62 (0, 0)) := obj_blk h
set_option maxHeartbeats 2000000 in
theorem tape_ready.calls (g : Nat) (T : TM) (i : Int) (W : World) (ok : Nat → Prop) (hP : (PTape g T).P ok W) :
  Calls Try.prog 47 #[.pointer (some ⟨g, 0, none⟩), .int .i64 i] W fun e W' => e = .returned (.int .i64 (T.ready i)) ∧ W = W' := by
 obtain ⟨v0, v1, m0, m1, vu, x, hx, hC⟩ := ptape_open hP
 obtain ⟨x0, x1, x2, x3, x4, x5, x6, _⟩ := blk_all7 (tape_blk hC)
 clear hP hC
 obtain ⟨bu, eb⟩ : ∃ bu, T.burns = bu := ⟨_, rfl⟩
 rw [eb] at x5 hx
 by_cases h1 : i < 0
 ·have b1 : decide (i < 0) = true := decide_eq_true h1
  have HR := Aside0.mk (show T.ready i = 1 by unfold TM.ready; rw [if_pos (.inl h1)])
  clear h1 hx eb
  go_enter Try.func47, Try.ntmps47
  go_wp2_with fail
  go_ret
  exact ⟨by rw [HR.out]; rfl, rfl⟩
 ·have b1 : decide (i < 0) = false := decide_eq_false h1
  by_cases h2 : 2 ≤ i
  ·have b2 : decide (2 ≤ i) = true := decide_eq_true h2
   have HR := Aside0.mk (show T.ready i = 1 by unfold TM.ready; rw [if_pos (.inr h2)])
   clear h1 h2 hx eb
   go_enter Try.func47, Try.ntmps47
   go_wp2_with fail
   go_ret
   exact ⟨by rw [HR.out]; rfl, rfl⟩
  ·have b2 : decide (2 ≤ i) = false := decide_eq_false h2
   cases bu with
   | false =>
    have HR := Aside0.mk (show T.ready i = 0 by unfold TM.ready; rw [if_neg (by omega), if_neg (by rw [eb]; simp)])
    clear h1 h2 hx eb
    go_enter Try.func47, Try.ntmps47
    go_wp2_with fail
    go_ret
    exact ⟨by rw [HR.out]; rfl, rfl⟩
   | true =>
    have hxl := hx rfl
    by_cases h0 : x = 0
    ·have HR := Aside0.mk (show T.ready i = 40 by unfold TM.ready; rw [if_neg (by omega), if_pos ⟨eb, by omega⟩])
     have b3 : (x == 0) = true := by simp [h0]
     clear h1 h2 hx eb hxl h0
     go_enter Try.func47, Try.ntmps47
     go_wp2_with fail
     go_ret
     exact ⟨by rw [HR.out]; rfl, rfl⟩
    ·have HR := Aside0.mk (show T.ready i = 0 by unfold TM.ready; rw [if_neg (by omega), if_neg (by rw [← hxl]; exact fun hh => h0 hh.2)])
     have b3 : (x == 0) = false := by simp [h0]
     clear h1 h2 hx eb hxl h0
     go_enter Try.func47, Try.ntmps47
     go_wp2_with fail
     go_ret
     exact ⟨by rw [HR.out]; rfl, rfl⟩
theorem tape_Units.calls (g : Nat) (T : TM) (W : World) (ok : Nat → Prop) (hP : (PTape g T).P ok W) :
  Calls Try.prog 58 #[.pointer (some ⟨g, 0, none⟩)] W fun e W' => e = .returned (.int .i64 (T.us.length : Int)) ∧ W = W' := by
 obtain ⟨v0, v1, m0, m1, vu, x, hx, hC⟩ := ptape_open hP
 obtain ⟨oku, hu, _⟩ := obj_get hC 4 rfl
 obtain ⟨A, c, ev⟩ := Kd.R_slice (show (k89).R 84 W 0 oku vu T.us from hu)
 subst ev
 obtain ⟨x0, x1, x2, x3, x4, x5, x6, _⟩ := blk_all7 (tape_blk hC)
 clear hP hC hu hx
 go_enter Try.func58, Try.ntmps58
 go_wp2_with fail
 go_ret
 exact ⟨rfl, rfl⟩
end Go.Proofs.Ytmfmoddaejoekaa.P
end
section
/- Two parts, each in blocks of its own, written one by one; a row of one's own that may begin inside its block, as a part. Plain words, for whatever program. -/
set_option linter.unusedVariables false
set_option linter.unusedSimpArgs false
namespace Go.Proofs.YtmfmoddaejoekaaW.PrintWords
open Go.RowKit
section
variable {A B A' B' : Res} {ok : Nat → Prop} {W W' : World}
theorem sep_left (h : (Res.sep A B).P ok W) : ∃ oka : Nat → Prop, A.P oka W ∧ (∀ k, oka k → ok k ∧ k < W.heap.size) ∧ ∀ {W' : World} {A' : Res}, Turned oka W W' A' → Turned ok W W' (Res.sep A' B) := by
 obtain ⟨f, ha, hb⟩ := h
 refine ⟨fun k => (ok k ∧ f k) ∧ k < W.heap.size, A.bound ha, fun k hk => ⟨hk.1.1, hk.2⟩, fun {W' A'} ht => ⟨ht.1.mono (fun k _ hk => hk.1.1), fun k => if k < W.heap.size then f k else True, ?_, ?_⟩⟩
 ·refine A'.mono (fun k hk => ?_) ht.2
  rcases hk with hk | hk
  ·exact ⟨.inl hk.1.1, by show (if k < W.heap.size then f k else True); rw [if_pos hk.2]; exact hk.1.2⟩
  ·exact ⟨.inr hk, by show (if k < W.heap.size then f k else True); rw [if_neg (by omega)]; trivial⟩
 ·refine B.mono (fun k hk => ?_) (B.step (B.bound hb) (fun k hk hlt => ht.1.block k hlt (fun hh => hk.1.2 hh.1.2)))
  exact ⟨.inl hk.1.1, by show ¬ (if k < W.heap.size then f k else True); rw [if_pos hk.2]; exact hk.1.2⟩
theorem sep_right (h : (Res.sep A B).P ok W) : ∃ okb : Nat → Prop, B.P okb W ∧ (∀ k, okb k → ok k ∧ k < W.heap.size) ∧ ∀ {W' : World} {B' : Res}, Turned okb W W' B' → Turned ok W W' (Res.sep A B') := by
 obtain ⟨f, ha, hb⟩ := h
 refine ⟨fun k => (ok k ∧ ¬ f k) ∧ k < W.heap.size, B.bound hb, fun k hk => ⟨hk.1.1, hk.2⟩, fun {W' B'} ht => ⟨ht.1.mono (fun k _ hk => hk.1.1), fun k => if k < W.heap.size then f k else False, ?_, ?_⟩⟩
 ·refine A.mono (fun k hk => ?_) (A.step (A.bound ha) (fun k hk hlt => ht.1.block k hlt (fun hh => hh.1.2 hk.1.2)))
  exact ⟨.inl hk.1.1, by show (if k < W.heap.size then f k else False); rw [if_pos hk.2]; exact hk.1.2⟩
 ·refine B'.mono (fun k hk => ?_) ht.2
  rcases hk with hk | hk
  ·exact ⟨.inl hk.1.1, by show ¬ (if k < W.heap.size then f k else False); rw [if_pos hk.2]; exact hk.1.2⟩
  ·exact ⟨.inr hk, by show ¬ (if k < W.heap.size then f k else False); rw [if_neg (by omega)]; exact id⟩
theorem sep_left2 (h : (Res.sep A B).P ok W) : ∃ oka okb : Nat → Prop, A.P oka W ∧ B.P okb W ∧ (∀ k, oka k → ¬ okb k) ∧ (∀ k, oka k → ok k ∧ k < W.heap.size) ∧ ∀ {W' : World} {A' : Res}, Turned oka W W' A' → Turned ok W W' (Res.sep A' B) := by
 obtain ⟨f, ha, hb⟩ := h
 refine ⟨fun k => (ok k ∧ f k) ∧ k < W.heap.size, fun k => ok k ∧ ¬ f k, A.bound ha, hb, fun k hk hh => hh.2 hk.1.2, fun k hk => ⟨hk.1.1, hk.2⟩, fun {W' A'} ht => ⟨ht.1.mono (fun k _ hk => hk.1.1), fun k => if k < W.heap.size then f k else True, ?_, ?_⟩⟩
 ·refine A'.mono (fun k hk => ?_) ht.2
  rcases hk with hk | hk
  ·exact ⟨.inl hk.1.1, by show (if k < W.heap.size then f k else True); rw [if_pos hk.2]; exact hk.1.2⟩
  ·exact ⟨.inr hk, by show (if k < W.heap.size then f k else True); rw [if_neg (by omega)]; trivial⟩
 ·refine B.mono (fun k hk => ?_) (B.step (B.bound hb) (fun k hk hlt => ht.1.block k hlt (fun hh => hk.1.2 hh.1.2)))
  exact ⟨.inl hk.1.1, by show ¬ (if k < W.heap.size then f k else True); rw [if_pos hk.2]; exact hk.1.2⟩
theorem sep_new (h : A.P ok W) (hb : Below W.heap.size W W') (hB : B.P (fun k => W.heap.size ≤ k) W') : Turned ok W W' (Res.sep A B) := by
 refine ⟨Keeps.of_below hb _, fun k => k < W.heap.size, ?_, ?_⟩
 ·exact A.mono (fun k hk => ⟨.inl hk.1, hk.2⟩) (A.step (A.bound h) (fun k hk hlt => hb.block k hlt))
 ·exact B.mono (fun k hk => ⟨.inr hk, by omega⟩) hB
theorem sep_fst (h : (Res.sep A B).P ok W) : ∃ oka : Nat → Prop, A.P oka W ∧ (∀ k, oka k → ok k) := ⟨_, h.choose_spec.1, fun k hk => hk.1⟩
theorem sep_snd (h : (Res.sep A B).P ok W) : ∃ okb : Nat → Prop, B.P okb W ∧ (∀ k, okb k → ok k) := ⟨_, h.choose_spec.2, fun k hk => hk.1⟩
theorem Turned.trans_ {ok : Nat → Prop} {W W1 W2 : World} {R R2 : Res} (h : Turned ok W W1 R) (k : Turned (fun k => ok k ∨ W.heap.size ≤ k) W1 W2 R2) : Turned ok W W2 R2 := h.then_ k.1 k.2
end
section
variable {A B : Res} {ok : Nat → Prop} {W : World} {g : Nat} {t : TypeId} {cs : List Value} {Rs : List Res}
theorem sep_drop (h : (Res.sep A B).P ok W) : A.P ok W := A.mono (fun k hk => hk.1) h.choose_spec.1
theorem sep_mk {oka okb : Nat → Prop} (hA : A.P oka W) (hB : B.P okb W) (hd : ∀ k, oka k → ¬ okb k) : (Res.sep A B).P (fun k => oka k ∨ okb k) W := ⟨oka, A.mono (fun k hk => ⟨.inl hk, hk⟩) hA, B.mono (fun k hk => ⟨.inr hk, fun h => hd k h hk⟩) hB⟩
theorem sep_exr2 {α : Type} {F : α → Res} (h : (Res.sep (Res.sep A (Res.ex F)) B).P ok W) : ∃ a, (Res.sep (Res.sep A (F a)) B).P ok W := by
 obtain ⟨f, ⟨f2, ha, a, hb⟩, hc⟩ := h
 exact ⟨a, f, ⟨f2, ha, hb⟩, hc⟩
theorem sep_deep {C : Res} (h : (Res.sep (Res.sep A B) C).P ok W) : ∃ oka okb : Nat → Prop, A.P oka W ∧ B.P okb W ∧ (∀ k, oka k → ¬ okb k) ∧ (∀ k, oka k → ok k ∧ k < W.heap.size) ∧ ∀ {W' : World} {A' : Res}, Turned oka W W' A' → Turned ok W W' (Res.sep (Res.sep A' B) C) := by
 obtain ⟨okx, hx, hxs, hxb⟩ := sep_left h
 obtain ⟨oka, okb, ha, hb, hd, hs, hback⟩ := sep_left2 hx
 exact ⟨oka, okb, ha, hb, hd, fun k hk => ⟨(hxs k (hs k hk).1).1, (hs k hk).2⟩, fun {W' A'} ht => hxb (hback ht)⟩
theorem sep_give (h : (Res.sep (Res.sep A (Res.obj g t cs Rs)) B).P ok W) (i : Nat) : (Res.sep A (Res.obj g t cs (Rs.set i B))).P ok W := by
 obtain ⟨f, ⟨f2, ha, h1, h2, own, h3⟩, hb⟩ := h
 refine ⟨fun k => f k ∧ f2 k, A.mono (fun k hk => ⟨hk.1.1, hk.1.2, hk.2⟩) ha, ⟨h1.1.1, fun hh => h1.2 hh.2⟩, h2, fun k => if @decide (f k) (Classical.propDecidable _) then own k else i, fun j Rj hj => ?_⟩
 by_cases e : i = j
 ·subst e
  by_cases hlt : i < Rs.length
  ·rw [List.getElem?_set_self hlt] at hj
   cases hj
   refine B.mono (fun k hk => ⟨⟨⟨hk.1.1, fun hh => hk.1.2 hh.1⟩, hk.2⟩, fun he => hk.1.2 (he ▸ h1.1.2), ?_⟩) (B.bound hb)
   show (if @decide (f k) (Classical.propDecidable _) then own k else i) = i
   simp [hk.1.2]
  ·rw [List.set_eq_of_length_le (by omega)] at hj
   have := (List.getElem?_eq_some_iff.1 hj).1
   omega
 ·rw [List.getElem?_set_ne e] at hj
  refine Rj.mono (fun k hk => ⟨⟨⟨hk.1.1.1.1, fun hh => hk.1.1.2 hh.2⟩, hk.1.2⟩, hk.2.1, ?_⟩) (h3 j Rj hj)
  show (if @decide (f k) (Classical.propDecidable _) then own k else i) = j
  simp [hk.1.1.1.2, hk.2.2]
end
theorem St.split {w0 W : World} {S : Nat → Prop} {Rs : List Res} {A B : Res} (h : St w0 S W Rs) (i : Nat) (hi : Rs[i]? = some (Res.sep A B)) (h0 : i ≠ 0) : St w0 S W (Rs.set i A ++ [B]) := by
 obtain ⟨hk, own, ho, hr⟩ := h
 obtain ⟨f, ha, hb⟩ := hr i _ hi
 have hlt : i < Rs.length := (List.getElem?_eq_some_iff.1 hi).1
 refine ⟨hk, fun k => if @decide (own k = i ∧ ¬ f k) (Classical.propDecidable _) then Rs.length else own k, fun k h1 h2 => ?_, fun j Rj hj => ?_⟩
 ·have := ho k h1 h2
  show (if @decide (own k = i ∧ ¬ f k) (Classical.propDecidable _) then Rs.length else own k) = 0
  rw [if_neg (by simp only [decide_eq_true_eq]; omega), this]
 ·rcases Nat.lt_or_ge j Rs.length with hjl | hge
  ·rw [List.getElem?_append_left (by simpa using hjl)] at hj
   by_cases e : i = j
   ·subst e
    rw [List.getElem?_set_self hlt] at hj
    cases hj
    refine A.mono (fun k hk2 => ?_) ha
    show (if @decide (own k = i ∧ ¬ f k) (Classical.propDecidable _) then Rs.length else own k) = i
    rw [if_neg (by simp only [decide_eq_true_eq]; exact fun hh => hh.2 hk2.2)]
    exact hk2.1
   ·rw [List.getElem?_set_ne e] at hj
    refine Rj.mono (fun k hk2 => ?_) (hr j Rj hj)
    have hk3 : own k = j := hk2
    show (if @decide (own k = i ∧ ¬ f k) (Classical.propDecidable _) then Rs.length else own k) = j
    rw [if_neg (by simp only [decide_eq_true_eq]; omega), hk3]
  ·rw [List.getElem?_append_right (by simpa using hge), List.length_set] at hj
   have hj0 : j = Rs.length := by
    have := (List.getElem?_eq_some_iff.1 hj).1
    simp at this
    omega
   subst hj0
   rw [Nat.sub_self] at hj
   cases hj
   refine B.mono (fun k hk2 => ?_) hb
   show (if @decide (own k = i ∧ ¬ f k) (Classical.propDecidable _) then Rs.length else own k) = Rs.length
   rw [if_pos (by simp only [decide_eq_true_eq]; exact ⟨hk2.1, hk2.2⟩)]
def Res.rowq {α : Type} (d : Kd α) (e : TypeId) (v : Value) (xs : List α) : Res := ⟨fun ok W => d.Q e W 0 ok v xs, fun hok h => Kd.Q_mono h hok, fun h hm => Kd.Q_step h hm, fun h => Kd.Q_mono (Kd.Q_bound h) (fun _ hk => ⟨hk.1, hk.2.2.1⟩)⟩
end Go.Proofs.YtmfmoddaejoekaaW.PrintWords
end
