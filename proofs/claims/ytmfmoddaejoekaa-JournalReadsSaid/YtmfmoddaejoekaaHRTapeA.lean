/- Texts of this claim, laid into one. -/
import Derived.Test.YtmfmoddaejoekaaHLaw17
import Derived.Test.YtmfmoddaejoekaaHLive17
import Derived.Test.YtmfmoddaejoekaaP2
import Derived.Test.YtmfmoddaejoekaaP6
import Derived.Lib.SlBytesConst
section
/- The plain model of layer 17: many calls that go through. -/
set_option linter.unusedVariables false
set_option linter.unusedSimpArgs false
namespace Go.Proofs.Ytmfmoddaejoekaa.P
open Go.RowKit Go.Proofs.YtmfmoddaejoekaaW.PrintWords Go.Proofs.YtmfmoddaejoekaaW.PrintLast Go.Proofs.YtmfmoddaejoekaaW.PrintMore
/-- A tape and its journal behind so many calls, none of which failed. -/
structure Calm (i : Nat) (T : TM) (J : JM) : Prop where
  good : Good T J
  burns : T.burns = false
  len : ∀ q, q = 0 ∨ q = 1 → (T.safe q).length ≤ 100 + 400 * i
  g : J.g ≤ 1 + i
  L : J.L.length ≤ 5 + i
  rcs : ∀ r ∈ J.L, 1 ≤ r.length ∧ r.length ≤ 70
  ok : T.Ok (20 + 70000 * i)
  by_ : T.By
theorem Calm.size {i : Nat} {T : TM} {J : JM} (h : Calm i T J) (hi : i ≤ 40) : 0 ≤ J.size ∧ J.size ≤ 100000 := by
  have h1 := h.good.size
  have h2 := h.len J.side h.good.sd
  omega
theorem Calm.open_ {i : Nat} {T : TM} {J : JM} (h : Calm i T J) : openM T = (0, T, some J) := h.good.open_ (TM.calm_ready h.burns (.inl rfl))
end Go.Proofs.Ytmfmoddaejoekaa.P
end
section
/- The plain model of layer 17: calls that fail, and what every loss of power leaves. -/
set_option linter.unusedVariables false
set_option linter.unusedSimpArgs false
namespace Go.Proofs.Ytmfmoddaejoekaa.P
open Go.RowKit Go.Proofs.YtmfmoddaejoekaaW.PrintWords Go.Proofs.YtmfmoddaejoekaaW.PrintLast Go.Proofs.YtmfmoddaejoekaaW.PrintMore
/-- Two sides hold records of which X speaks. -/
def Hold (i : Nat) (a b : List Int) (X : List (List Int) → Prop) : Prop :=
  ∃ p g L, Keep a b p g L ∧ X L ∧ g ≤ 1 + (i : Int) ∧ L.length ≤ 5 + i ∧ (∀ r ∈ L, 1 ≤ r.length ∧ r.length ≤ 70) ∧ ∀ q, q = 0 ∨ q = 1 → (sideOf q a b).length ≤ 100 + 400 * i
theorem Hold.mono {i : Nat} {a b : List Int} {X Y : List (List Int) → Prop} (h : Hold i a b X) (hX : ∀ L, X L → Y L) : Hold (i + 1) a b Y := by
  obtain ⟨p, g, L, h1, h2, h3, h4, h5, h6⟩ := h
  exact ⟨p, g, L, h1, hX L h2, by omega, by omega, h5, fun q hq => by have := h6 q hq; omega⟩
/-- .. whatever of the units stays. -/
def Pend (T : TM) (P : List Int → List Int → Prop) : Prop := ∀ k, P (afterU T.s0 0 (T.us.take k)) (afterU T.s1 1 (T.us.take k))
theorem Pend.none {T : TM} {P : List Int → List Int → Prop} (hu : T.us = []) (h : P T.s0 T.s1) : Pend T P := fun k => by rw [hu, List.take_nil]; exact h
/-- A tape and its journal, a fuse perhaps. -/
structure KeptS (i : Nat) (T : TM) (J : JM) : Prop where
  good : Good T J
  len : ∀ q, q = 0 ∨ q = 1 → (T.safe q).length ≤ 100 + 400 * i
  g : J.g ≤ 1 + i
  L : J.L.length ≤ 5 + i
  rcs : ∀ r ∈ J.L, 1 ≤ r.length ∧ r.length ≤ 70
  ok : T.Ok (20 + 70000 * i)
  by_ : T.By
theorem KeptS.size {i : Nat} {T : TM} {J : JM} (h : KeptS i T J) (hi : i ≤ 40) : 0 ≤ J.size ∧ J.size ≤ 100000 := by
  have h1 := h.good.size
  have h2 := h.len J.side h.good.sd
  omega
end Go.Proofs.Ytmfmoddaejoekaa.P
end
section
/- What the laws of the journal share: the deeds that came in, rows that are written over, calls on a state. -/
set_option linter.unusedVariables false
set_option linter.unusedSimpArgs false
namespace Go.Proofs.YtmfmoddaejoekaaW.PrintWords
open Go.RowKit
section
variable {P : Program} {ops : Array Oper} {rest : List Oper} {o : Oper} {a : Act} {Q : Exit → Act → World → Prop}
end
end Go.Proofs.YtmfmoddaejoekaaW.PrintWords
namespace Go.Proofs.Ytmfmoddaejoekaa.P
open Go.RowKit Go.Proofs.YtmfmoddaejoekaaW.PrintWords Go.Proofs.YtmfmoddaejoekaaW.PrintLast Go.Proofs.YtmfmoddaejoekaaW.PrintMore
theorem agree_of {w W w0 : World} {S Fo : Nat → Prop} {Rs : List Res} (h : St w0 S W (Res.agree w Fo :: Rs)) : Agree w Fo W := (h.get 0 rfl).elim fun ok hp => hp.2
theorem law_stQ {w : World} {Q : World → Prop} (h : Foot Q w (fun k => k < w.heap.size)) : ∃ Fo, Foot Q w Fo ∧ St w (fun _ => False) w [Res.agree w Fo] := by
  obtain ⟨Fo, _, hF, hst⟩ := St.freeze (St.mk0 w (fun _ => False) (Q := Q) (Foot.mono h (fun k _ hf => hf)))
  exact ⟨Fo, hF, hst⟩
theorem F_take {W : World} {Fo : Nat → Prop} {A : Option Addr} {l : List Int} (h : Kd.F (Kd.int .u8) W Fo A l.length l) (n : Nat) : Kd.F (Kd.int .u8) W Fo A (l.take n).length (l.take n) := by
  by_cases h20 : n ≤ l.length
  · exact Kd.F_take h h20
  · rw [List.take_of_length_le (by omega)]; exact h
theorem C_take {W : World} {A : Option Addr} {l : List Int} (h : Kd.C (Kd.int .u8) W A l.length l) (n : Nat) : Kd.C (Kd.int .u8) W A (l.take n).length (l.take n) := by
  by_cases h20 : n ≤ l.length
  · exact Kd.C_take h h20
  · rw [List.take_of_length_le (by omega)]; exact h
set_option maxHeartbeats 4000000 in
theorem few17.calls (A : Option Addr) (c : Nat) (l : List Int) (n : Nat) (w : World) (hc : l.length ≤ c) (hn : n ≤ 100000) :
    Calls Try.prog 10 #[.slice A l.length c, .int .i64 (n : Int)] w fun e W' => e = .returned (.slice A (l.take n).length c) ∧ W' = w := by
  go_enter Try.func10, Try.ntmps10
  by_cases h : n < l.length
  · have h1 : (n : Int) < (l.length : Int) := by omega
    have h2 : decide ((l.length : Int) > (n : Int)) = true := decide_eq_true h1
    have h3 : decide ((n : Int) < (l.length : Int)) = true := decide_eq_true h1
    go_wp2_with fail
    go_ret
    refine ⟨?_, rfl⟩
    rw [List.length_take, Nat.min_eq_left (by omega)]
    try rfl
    try simp
  · have h2 : decide ((l.length : Int) > (n : Int)) = false := decide_eq_false (by omega)
    have h3 : decide ((n : Int) < (l.length : Int)) = false := decide_eq_false (by omega)
    go_wp2_with fail
    go_ret
    refine ⟨?_, rfl⟩
    rw [List.take_of_length_le (by omega)]
    rfl
theorem lives_at {w0 W : World} {S : Nat → Prop} {Rs : List Res} (h : St w0 S W Rs) : Calls Try.prog 16 #[] W fun e W' => e = .returned (.bool true) ∧ St w0 S W' Rs := (liverylaw17_lives.calls W).mono fun e W' hh => ⟨hh.1, h.on hh.2⟩
section
variable {P : Program} {ops : Array Oper} {o : Oper} {a : Act} {Kc : Act → World → Prop} {Q : Exit → Act → World → Prop}
end
theorem hinfoB : (Try.prog.info? 5).map (fun i => (i.zero, i.size, i.bytes)) = some (some (.int .u8 0), 1, 1) := by kernel_rfl
theorem wf8 {x : Int} (h : (Lit.int .u8 x).wf = true) : 0 ≤ x ∧ x ≤ 255 := by
  simp only [Lit.wf, Bool.and_eq_true, decide_eq_true_eq] at h
  exact h
theorem wfB {l : List Int} (h : ∀ x ∈ l, (Lit.int .u8 x).wf = true) : okB l = true := okB_of fun x hx => wf8 (h x hx)
/-! Rows whose numbers are written over: their shape alone is told. -/
section
variable {w0 W : World} {S : Nat → Prop} {Rs : List Res} {A : Option Addr} {n : Nat} {lens : Nat → Nat}
end
end Go.Proofs.Ytmfmoddaejoekaa.P
end
section
/- Contracts, typed by hand: the document's tape: what it is; New, ready, Fuse, Done, Now. -/
set_option linter.unusedVariables false
set_option linter.unusedSimpArgs false
namespace Go.Proofs.Ytmfmoddaejoekaa.P
open Go.RowKit Go.Proofs.YtmfmoddaejoekaaW.PrintWords Go.Proofs.YtmfmoddaejoekaaW.PrintLast Go.Proofs.YtmfmoddaejoekaaW.PrintMore
attribute [local go_sem] max2_int min2_int max_two min_two
theorem two_rows {W : World} {ok : Nat → Prop} {u0 u1 : Value} {l0 l1 : List Int} (h0 : (Kd.int .u8).R 5 W 0 ok u0 l0) (h1 : (Kd.int .u8).R 5 W 0 ok u1 l1) :
    (Kd.slice 5 (Kd.int .u8)).R 30 (W.alloc (.cells #[u0, u1] 30)) 0 (fun k => ok k ∨ W.heap.size ≤ k) (.slice (some ⟨W.heap.size, 0, none⟩) 2 2) [l0, l1] := by
  have hb : Below W.heap.size W (W.alloc (.cells #[u0, u1] 30)) := below_alloc (Below.refl _ _) _
  have move : ∀ {u : Value} {l : List Int}, (Kd.int .u8).R 5 W 0 ok u l → (Kd.int .u8).R 5 (W.alloc (.cells #[u0, u1] 30)) 0 (fun k => (ok k ∨ W.heap.size ≤ k) ∧ some k ≠ (Value.slice (some ⟨W.heap.size, 0, none⟩) 2 2).ownBlock) u l := fun h =>
    Kd.R_mono (Kd.R_below (Kd.R_bound h) hb) (fun k hk => ⟨.inl hk.1, fun he => by
      have h2 : k = W.heap.size := by
        simp only [Value.ownBlock] at he
        injection he
      have := hk.2.2.1
      omega⟩)
  refine ⟨fun k hk => .inr ?_, [u0, u1], ?_, rfl, fun j p hj => ?_⟩
  · simp only [Value.ownBlock] at hk
    injection hk with hk
    omega
  · have := World.ownsRow_lit (base := 0) (e := 30) (size := 1) W #[u0, u1] 2 (Nat.zero_le _) (by decide) rfl
    exact this
  · match j, hj with
    | 0, hj => cases hj; exact ⟨u0, rfl, move h0⟩
    | 1, hj => cases hj; exact ⟨u1, rfl, move h1⟩
abbrev UnD (v : Value) (us : List Un) : Res := Res.row k89 89 v us
abbrev RTapeC (g : Nat) (v0 vu : Value) (a b : List Int) (us : List Un) (burns : Bool) (x : Int) : Res :=
  Res.obj g 82 [v0, vu, .bool burns, .int .i64 x] [RowL v0 [a, b], UnD vu us]
def RTape (g : Nat) (T : TM) : Res := Res.ex fun p : Value × Value => RTapeC g p.1 p.2 T.s0 T.s1 T.us T.burns T.left
theorem rtape_open {g : Nat} {T : TM} {ok : Nat → Prop} {W : World} (h : (RTape g T).P ok W) : ∃ v0 vu, (RTapeC g v0 vu T.s0 T.s1 T.us T.burns T.left).P ok W := by
  obtain ⟨p, h2⟩ := h
  exact ⟨_, _, h2⟩
theorem rtape_mk {g : Nat} {T : TM} {ok : Nat → Prop} {W : World} {v0 vu : Value} (h2 : (RTapeC g v0 vu T.s0 T.s1 T.us T.burns T.left).P ok W) : (RTape g T).P ok W := ⟨(v0, vu), h2⟩
theorem rtape_blk {g : Nat} {v0 vu : Value} {a b : List Int} {us : List Un} {burns : Bool} {x : Int} {ok : Nat → Prop} {W : World} (h : (RTapeC g v0 vu a b us burns x).P ok W) : W.heap[g]? = some (.cells #[v0, vu, .bool burns, .int .i64 x] 82 (0, 0)) := obj_blk h
theorem rtape_New.calls (W : World) :
    Calls Try.prog 18 #[] W fun e W' => ∃ g, e = .returned (.pointer (some ⟨g, 0, none⟩)) ∧ (RTape g TM.new).P (fun k => W.heap.size ≤ k) W' ∧ Below W.heap.size W W' := by
  go_enter Try.func18, Try.ntmps18
  go_wp2_with fail
  go_ret
  have hr := two_rows (W := W) (ok := fun _ => False) (Kd.R_nil (Kd.int .u8) 5 W 0 _) (Kd.R_nil (Kd.int .u8) 5 W 0 _)
  have hb : Below W.heap.size W (W.alloc (.cells #[.slice none 0 0, .slice none 0 0] 30)) := below_alloc (Below.refl _ _) _
  have hz : (W.alloc (.cells #[.slice none 0 0, .slice none 0 0] 30)).heap.size = W.heap.size + 1 := heap_size_alloc2 _ _
  refine ⟨W.heap.size + 1, by simp, rtape_mk (v0 := .slice (some ⟨W.heap.size, 0, none⟩) 2 2) (vu := .slice none 0 0) ⟨by omega, ?_, fun k => 0, fun i R hi => ?_⟩, below_alloc hb _⟩
  · have := heap_alloc_new (W.alloc (.cells #[.slice none 0 0, .slice none 0 0] 30)) (.cells #[.slice (some ⟨W.heap.size, 0, none⟩) 2 2, .slice none 0 0, .bool false, .int .i64 0] 82)
    rw [hz] at this
    exact this
  · match i, hi with
    | 0, hi =>
      cases hi
      refine Kd.R_mono (Kd.R_below (Kd.R_bound hr) (below_alloc (Below.refl _ _) _)) (fun k hk => ?_)
      have h1 := hk.2.2.1
      have h2 : W.heap.size ≤ k := hk.1.elim (fun h => h.elim) id
      rw [hz] at h1
      refine ⟨⟨h2, ?_⟩, by omega, rfl⟩
      rw [heap_size_alloc2, hz]
      omega
    | 1, hi => cases hi; exact Kd.R_nil _ _ _ _ _
set_option maxHeartbeats 2000000 in
theorem rtape_ready.calls (g : Nat) (T : TM) (i : Int) (W : World) (ok : Nat → Prop) (hP : (RTape g T).P ok W) :
    Calls Try.prog 50 #[.pointer (some ⟨g, 0, none⟩), .int .i64 i] W fun e W' => e = .returned (.int .i64 (T.ready i)) ∧ W = W' := by
  obtain ⟨v0, vu, hC⟩ := rtape_open hP
  obtain ⟨x0, x1, x2, x3, _⟩ := blk_all4 (rtape_blk hC)
  clear hP hC
  obtain ⟨bu, eb⟩ : ∃ bu, T.burns = bu := ⟨_, rfl⟩
  obtain ⟨x, ex⟩ : ∃ x, T.left = x := ⟨_, rfl⟩
  rw [eb] at x2
  rw [ex] at x3
  by_cases h1 : i < 0
  · have b1 : decide (i < 0) = true := decide_eq_true h1
    have HR := Aside0.mk (show T.ready i = 1 by unfold TM.ready; rw [if_pos (.inl h1)])
    clear h1 eb ex
    go_enter Try.func50, Try.ntmps50
    go_wp2_with fail
    go_ret
    exact ⟨by rw [HR.out]; rfl, rfl⟩
  · have b1 : decide (i < 0) = false := decide_eq_false h1
    by_cases h2 : 2 ≤ i
    · have b2 : decide (i > 1) = true := decide_eq_true (by omega)
      have b3 : decide (1 < i) = true := decide_eq_true (by omega)
      have HR := Aside0.mk (show T.ready i = 1 by unfold TM.ready; rw [if_pos (.inr h2)])
      clear h1 h2 eb ex
      go_enter Try.func50, Try.ntmps50
      go_wp2_with fail
      go_ret
      exact ⟨by rw [HR.out]; rfl, rfl⟩
    · have b2 : decide (i > 1) = false := decide_eq_false (by omega)
      have b3 : decide (1 < i) = false := decide_eq_false (by omega)
      cases bu with
      | false =>
        have HR := Aside0.mk (show T.ready i = 0 by unfold TM.ready; rw [if_neg (by omega), if_neg (by rw [eb]; simp)])
        clear h1 h2 eb ex
        go_enter Try.func50, Try.ntmps50
        go_wp2_with fail
        go_ret
        exact ⟨by rw [HR.out]; rfl, rfl⟩
      | true =>
        by_cases h0 : x = 0
        · have HR := Aside0.mk (show T.ready i = 40 by unfold TM.ready; rw [if_neg (by omega), if_pos ⟨eb, by omega⟩])
          have b4 : (x == 0) = true := by simp [h0]
          clear h1 h2 eb ex h0
          go_enter Try.func50, Try.ntmps50
          go_wp2_with fail
          go_ret
          exact ⟨by rw [HR.out]; rfl, rfl⟩
        · have HR := Aside0.mk (show T.ready i = 0 by unfold TM.ready; rw [if_neg (by omega), if_neg (by rw [ex]; exact fun hh => h0 hh.2)])
          have b4 : (x == 0) = false := by simp [h0]
          clear h1 h2 eb ex h0
          go_enter Try.func50, Try.ntmps50
          go_wp2_with fail
          go_ret
          exact ⟨by rw [HR.out]; rfl, rfl⟩
end Go.Proofs.Ytmfmoddaejoekaa.P
end
