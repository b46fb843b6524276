/- What the laws of the journal share: the deeds that came in, rows that are written over, calls on a state. -/
import Derived.Test.YtmfmoddaejoekaaHLive17
import Derived.Test.YtmfmoddaejoekaaR17g
import Derived.Test.YtmfmoddaejoekaaHMethods
import Derived.Test.YtmfmoddaejoekaaP6
import Derived.Lib.SlBytesConst
set_option linter.unusedVariables false
set_option linter.unusedSimpArgs false
namespace Go.Proofs.YtmfmoddaejoekaaW.PrintWords
open Go.RowKit
section
variable {P : Program} {ops : Array Oper} {rest : List Oper} {o : Oper} {a : Act} {Q : Exit → Act → World → Prop}
theorem St.app_row {w0 W : World} {S : Nat → Prop} {Rs : List Res} {α : Type} {d : Kd α} {e2 : Nat} (hgd : o.guard = none) (s x : Operand) (t e : TypeId)
    (ho : o.op = .call { callee := .builtin .append, args := #[s, x], argTypes := #[t, t] })
    (ht : P.underlying t = some (.slice e)) (hinfo : (P.info? e).map (fun i => (i.zero, i.size, i.bytes)) = some (some (.slice none 0 0), 1, 24))
    (HS : St w0 S W Rs) (i j : Nat) (v u : Value) (xs : List (List α)) (y : List α) (hs : a.eval s = v) (hx : a.eval x = .slice (some ⟨W.heap.size, 0, none⟩) 1 1)
    (hi : Rs[i]? = some (Res.row (Kd.slice e2 d) e v xs)) (hj : Rs[j]? = some (Res.row d e2 u y)) (h0 : i ≠ 0) (h0' : j ≠ 0) (hij : i ≠ j) (hl : (xs.length + 1) * 24 ≤ 140737488355328)
    (h : ∀ v1 w1, St w0 S w1 ((Rs.set i (Res.row (Kd.slice e2 d) e v1 (xs ++ [y]))).set j Res.any) → wpList P ops Q rest (a.put o.dst v1) w1) :
    wpList P ops Q (o :: rest) a (W.alloc (.cells #[u] e)) := by
  obtain ⟨ok1, ok2, h1, h2, hd, hback⟩ := HS.write2 i j hi hj h0 h0' hij
  have h1' : (Kd.slice e2 d).R e W 0 ok1 v xs := h1
  have h2' : d.R e2 W 0 ok2 u y := h2
  have hp : (Kd.slice e2 d).M W 0 ok2 y [u] := ⟨u, rfl, h2'⟩
  refine Kd.R_append (Kd.slice e2 d) (w0 := W) 0 hgd s x t e (.slice none 0 0) 24 ho ht hinfo rfl Nat.one_pos (by decide) v xs y [u] (fun k => ok1 k ∨ ok2 k ∨ W.heap.size ≤ k) ok2 hs hx hp
    (fun k hk => ⟨.inr (.inl hk), fun he => hd k (h1'.1 k he.symm) hk⟩) (fun k hk => .inr (.inr hk)) (Kd.R_mono h1' (fun k hk => .inl hk)) (Below.refl _ _) (Nat.zero_le _) hl ?_
  intro v1 w1 hR _ hg _
  exact h v1 w1 (hback ((Keeps.of_grown hg).mono (fun k _ hk => .inl (h1'.1 k hk.symm))) hR)
end
end Go.Proofs.YtmfmoddaejoekaaW.PrintWords
namespace Go.Proofs.Ytmfmoddaejoekaa.P
open Go.RowKit Go.Proofs.YtmfmoddaejoekaaW.PrintWords Go.Proofs.YtmfmoddaejoekaaW.PrintLast Go.Proofs.YtmfmoddaejoekaaW.PrintMore
abbrev F33 (W : World) (Fo : Nat → Prop) (A : Option Addr) (xs : List S33) : Prop := Kd.F k33 W Fo A xs.length xs
theorem deed_at {W : World} {Fo : Nat → Prop} {A : Option Addr} {xs : List S33} (h : F33 W Fo A xs) (i : Nat) (hi : i < xs.length) : ∃ ad A2 c2 A3 c3, ∃ x : S33, A = some ad ∧ x = xs.getD i z33 ∧ W.cell? (ad.add (i * 4)) = some (.int .i64 x.f0) ∧ W.cell? ⟨(ad.add (i * 4)).block, (ad.add (i * 4)).off + 1, none⟩ = some (.int .i64 x.f1) ∧ W.cell? ⟨(ad.add (i * 4)).block, (ad.add (i * 4)).off + 2, none⟩ = some (.slice A2 x.f2.length c2) ∧ W.cell? ⟨(ad.add (i * 4)).block, (ad.add (i * 4)).off + 3, none⟩ = some (.slice A3 x.f3.length c3) ∧ x.f2.length ≤ c2 ∧ x.f3.length ≤ c3 ∧ Kd.F (Kd.int .u8) W Fo A2 x.f2.length x.f2 ∧ Kd.F (Kd.slice 5 (Kd.int .u8)) W Fo A3 x.f3.length x.f3 := by
  obtain ⟨ad, c, e, _, hK, hc0, _⟩ := Kd.F_get h z33 (i : Int) (by omega) (by omega)
  rw [Int.toNat_natCast] at hK hc0
  have hc : ∀ j u, c[j]? = some u → W.cell? (ad.add (i * 4 + j)) = some u := hc0
  obtain ⟨A3, c3, A4, c4, rfl, l3, g3, l4, g4⟩ := k33_openF hK
  exact ⟨ad, A3, c3, A4, c4, _, e, rfl, hc 0 _ rfl, by rw [← add_field _ _ 1 (by omega)]; exact hc 1 _ rfl, by rw [← add_field _ _ 2 (by omega)]; exact hc 2 _ rfl, by rw [← add_field _ _ 3 (by omega)]; exact hc 3 _ rfl, l3, l4, g3, g4⟩
theorem agree_of {w W w0 : World} {S Fo : Nat → Prop} {Rs : List Res} (h : St w0 S W (Res.agree w Fo :: Rs)) : Agree w Fo W := (h.get 0 rfl).elim fun ok hp => hp.2
theorem law_stQ {w : World} {Q : World → Prop} (h : Foot Q w (fun k => k < w.heap.size)) : ∃ Fo, Foot Q w Fo ∧ St w (fun _ => False) w [Res.agree w Fo] := by
  obtain ⟨Fo, _, hF, hst⟩ := St.freeze (St.mk0 w (fun _ => False) (Q := Q) (Foot.mono h (fun k _ hf => hf)))
  exact ⟨Fo, hF, hst⟩
theorem law_st {w : World} {A0 : Option Addr} {l0 : List S33} (h : Kd.C k33 w A0 l0.length l0) : ∃ Fo, F33 w Fo A0 l0 ∧ St w (fun _ => False) w [Res.agree w Fo] := law_stQ (Q := fun W => Kd.C k33 W A0 l0.length l0) (Kd.C_F k33_heap h)
theorem F_take {W : World} {Fo : Nat → Prop} {A : Option Addr} {l : List Int} (h : Kd.F (Kd.int .u8) W Fo A l.length l) (n : Nat) : Kd.F (Kd.int .u8) W Fo A (l.take n).length (l.take n) := by
  by_cases h20 : n ≤ l.length
  · exact Kd.F_take h h20
  · rw [List.take_of_length_le (by omega)]; exact h
theorem C_take {W : World} {A : Option Addr} {l : List Int} (h : Kd.C (Kd.int .u8) W A l.length l) (n : Nat) : Kd.C (Kd.int .u8) W A (l.take n).length (l.take n) := by
  by_cases h20 : n ≤ l.length
  · exact Kd.C_take h h20
  · rw [List.take_of_length_le (by omega)]; exact h
set_option maxHeartbeats 4000000 in
theorem few17.calls (A : Option Addr) (c : Nat) (l : List Int) (n : Nat) (w : World) (hc : l.length ≤ c) (hn : n ≤ 100000) :
    Calls Try.prog 10 #[.slice A l.length c, .int .i64 (n : Int)] w fun e W' => e = .returned (.slice A (l.take n).length c) ∧ W' = w := by
  go_enter Try.func10, Try.ntmps10
  by_cases h : n < l.length
  · have h1 : (n : Int) < (l.length : Int) := by omega
    have h2 : decide ((l.length : Int) > (n : Int)) = true := decide_eq_true h1
    have h3 : decide ((n : Int) < (l.length : Int)) = true := decide_eq_true h1
    go_wp2_with fail
    go_ret
    refine ⟨?_, rfl⟩
    rw [List.length_take, Nat.min_eq_left (by omega)]
    try rfl
    try simp
  · have h2 : decide ((l.length : Int) > (n : Int)) = false := decide_eq_false (by omega)
    have h3 : decide ((n : Int) < (l.length : Int)) = false := decide_eq_false (by omega)
    go_wp2_with fail
    go_ret
    refine ⟨?_, rfl⟩
    rw [List.take_of_length_le (by omega)]
    rfl
def pk (a n : Int) : Int := if a < 0 then Int.tmod (wrap64 (-(wrap64 (a + 1)))) n else Int.tmod a n
theorem pk_range (a n : Int) (ha : -9223372036854775808 ≤ a ∧ a ≤ 9223372036854775807) (hn : 0 < n) : 0 ≤ pk a n ∧ pk a n < n := by
  unfold pk
  split
  · have e : wrap64 (-(wrap64 (a + 1))) = -(a + 1) := by unfold wrap64; omega
    rw [e, Int.tmod_eq_emod_of_nonneg (by omega)]
    exact ⟨Int.emod_nonneg _ (by omega), Int.emod_lt_of_pos _ hn⟩
  · rw [Int.tmod_eq_emod_of_nonneg (by omega)]
    exact ⟨Int.emod_nonneg _ (by omega), Int.emod_lt_of_pos _ hn⟩
theorem pick_at {w0 W : World} {S : Nat → Prop} {Rs : List Res} (h : St w0 S W Rs) (a n : Int) (hn : n ≠ 0) : Calls Try.prog 11 #[.int .i64 a, .int .i64 n] W fun e W' => e = .returned (.int .i64 (pk a n)) ∧ St w0 S W' Rs :=
  (liverylaw17_pick.calls a n (pk a n) W (by unfold liverylaw17_pick.f pk; rw [if_neg hn, if_neg hn]; split <;> rfl)).mono fun e W' hh => ⟨hh.1, h.on hh.2.below⟩
theorem lives_at {w0 W : World} {S : Nat → Prop} {Rs : List Res} (h : St w0 S W Rs) : Calls Try.prog 16 #[] W fun e W' => e = .returned (.bool true) ∧ St w0 S W' Rs := (liverylaw17_lives.calls W).mono fun e W' hh => ⟨hh.1, h.on hh.2⟩
theorem same_at {w0 W : World} {S : Nat → Prop} {Rs : List Res} (h : St w0 S W Rs) {A B : Option Addr} {c d : Nat} {L M : List (List Int)} (hA : Kd.C (Kd.slice 5 (Kd.int .u8)) W A L.length L) (hc : L.length ≤ c) (hB : Kd.C (Kd.slice 5 (Kd.int .u8)) W B M.length M) (hd : M.length ≤ d) (hm : L.length ≤ 1000000) (hr : ∀ r ∈ L, r.length < 1000000) :
    Calls Try.prog 15 #[.slice A L.length c, .slice B M.length d] W fun e W' => e = .returned (.bool (decide (L = M))) ∧ St w0 S W' Rs := by
  obtain ⟨k, hk⟩ := same17 L M hm hr
  exact (liveryref17_Same.calls k A c L B d M (decide (L = M)) W hA hc hB hd hk).mono fun e W' hh => ⟨hh.1, h.on hh.2.below⟩
theorem row_C {α : Type} {d : Kd α} {e : TypeId} {w0 W : World} {S : Nat → Prop} {Rs : List Res} {A : Option Addr} {n c : Nat} {L : List α} (h : St w0 S W Rs) (i : Nat) (hi : Rs[i]? = some (Res.row d e (.slice A n c) L)) : n = L.length ∧ L.length ≤ c ∧ d.C W A L.length L := by
  obtain ⟨ok, hR⟩ := h.get i hi
  have h4 := Kd.R_reads' (show d.R e W 0 ok (.slice A n c) L from hR)
  obtain ⟨rfl, h5, h6⟩ := h4
  exact ⟨rfl, h5, h6⟩
theorem row_slice {α : Type} {d : Kd α} {e : TypeId} {w0 W : World} {S : Nat → Prop} {Rs : List Res} {v : Value} {L : List α} (h : St w0 S W Rs) (i : Nat) (hi : Rs[i]? = some (Res.row d e v L)) : ∃ A c, v = .slice A L.length c ∧ L.length ≤ c ∧ d.C W A L.length L := by
  obtain ⟨ok, hR⟩ := h.get i hi
  obtain ⟨A, c, rfl⟩ := Kd.R_slice (show d.R e W 0 ok v L from hR)
  have h4 := Kd.R_reads' (show d.R e W 0 ok (.slice A L.length c) L from hR)
  exact ⟨A, c, rfl, h4.2⟩
theorem rows1_C {W : World} {A : Option Addr} {c g : Nat} {l : List Int} {fr : Nat × Nat} (hc : l.length ≤ c) (h0 : Kd.C (Kd.int .u8) W A l.length l) (h2 : W.heap[g]? = some (.cells #[.slice A l.length c] 30 fr)) :
    Kd.C (Kd.slice 5 (Kd.int .u8)) W (some ⟨g, 0, none⟩) 1 [l] := by
  refine ⟨rfl, by decide, fun _ => ⟨_, rfl, fun j p hj => ?_⟩⟩
  match j, hj with
  | 0, hj =>
    cases hj
    refine ⟨[.slice A _ c], rfl, ⟨_, _, rfl, hc, h0⟩, fun i x hx => ?_⟩
    rw [add_plain, cell_of_row W g _ _ _ fr h2]
    match i, hx with
    | 0, hx => exact hx
theorem hinfoB : (Try.prog.info? 5).map (fun i => (i.zero, i.size, i.bytes)) = some (some (.int .u8 0), 1, 1) := by kernel_rfl
theorem hinfoR : (Try.prog.info? 30).map (fun i => (i.zero, i.size, i.bytes)) = some (some (.slice none 0 0), 1, 24) := by kernel_rfl
theorem wf64 {x : Int} (h : (Lit.int .i64 x).wf = true) : -9223372036854775808 ≤ x ∧ x ≤ 9223372036854775807 := by
  simp only [Lit.wf, Bool.and_eq_true, decide_eq_true_eq] at h
  exact h
theorem wf8 {x : Int} (h : (Lit.int .u8 x).wf = true) : 0 ≤ x ∧ x ≤ 255 := by
  simp only [Lit.wf, Bool.and_eq_true, decide_eq_true_eq] at h
  exact h
theorem wfB {l : List Int} (h : ∀ x ∈ l, (Lit.int .u8 x).wf = true) : okB l = true := okB_of fun x hx => wf8 (h x hx)
/-! Rows whose numbers are written over: their shape alone is told. -/
def Pad (A : Option Addr) (n : Nat) : Res where
  P := fun ok W => n = 0 ∨ ∃ g, A = some ⟨g, 0, none⟩ ∧ ok g ∧ ∃ ds t, W.heap[g]? = some (.cells ds t (0, 0)) ∧ n ≤ ds.size
  mono := fun hok h => h.imp id (fun ⟨g, h1, h2, h3⟩ => ⟨g, h1, hok g h2, h3⟩)
  step := fun h hm => h.imp id (fun ⟨g, h1, h2, ds, t, h3, h4⟩ => ⟨g, h1, h2, ds, t, (hm g h2 (blk_lt h3)).trans h3, h4⟩)
  bound := fun h => h.imp id (fun ⟨g, h1, h2, ds, t, h3, h4⟩ => ⟨g, h1, ⟨h2, blk_lt h3⟩, ds, t, h3, h4⟩)
def Hull (A : Option Addr) (n : Nat) (lens : Nat → Nat) : Res where
  P := fun ok W => n = 0 ∨ ∃ g, A = some ⟨g, 0, none⟩ ∧ ok g ∧ ∃ cs t, W.heap[g]? = some (.cells cs t (0, 0)) ∧ ∀ i, i < n → ∃ B c, cs[i]? = some (.slice B (lens i) c) ∧ (lens i = 0 ∨ ∃ gi, B = some ⟨gi, 0, none⟩ ∧ ok gi ∧ gi ≠ g ∧ ∃ ds t, W.heap[gi]? = some (.cells ds t (0, 0)) ∧ lens i ≤ ds.size)
  mono := fun hok h => h.imp id (fun ⟨g, h1, h2, cs, t, h3, h4⟩ => ⟨g, h1, hok g h2, cs, t, h3, fun i hi => (h4 i hi).imp fun B hB => hB.imp fun c hc => ⟨hc.1, hc.2.imp id (fun ⟨gi, h5, h6, h7, h8⟩ => ⟨gi, h5, hok gi h6, h7, h8⟩)⟩⟩)
  step := fun h hm => h.imp id (fun ⟨g, h1, h2, cs, t, h3, h4⟩ => ⟨g, h1, h2, cs, t, (hm g h2 (blk_lt h3)).trans h3, fun i hi => (h4 i hi).imp fun B hB => hB.imp fun c hc => ⟨hc.1, hc.2.imp id (fun ⟨gi, h5, h6, h7, ds, t2, h8, h9⟩ => ⟨gi, h5, h6, h7, ds, t2, (hm gi h6 (blk_lt h8)).trans h8, h9⟩)⟩⟩)
  bound := fun h => h.imp id (fun ⟨g, h1, h2, cs, t, h3, h4⟩ => ⟨g, h1, ⟨h2, blk_lt h3⟩, cs, t, h3, fun i hi => (h4 i hi).imp fun B hB => hB.imp fun c hc => ⟨hc.1, hc.2.imp id (fun ⟨gi, h5, h6, h7, ds, t2, h8, h9⟩ => ⟨gi, h5, ⟨h6, blk_lt h8⟩, h7, ds, t2, h8, h9⟩)⟩⟩)
theorem row_block {W : World} {ok : Nat → Prop} {A : Option Addr} {n c : Nat} {l : List Int} (h : (Kd.int .u8).R 5 W 0 ok (.slice A n c) l) : n = 0 ∨ ∃ g, A = some ⟨g, 0, none⟩ ∧ ok g ∧ ∃ ds t, W.heap[g]? = some (.cells ds t (0, 0)) ∧ n ≤ ds.size := by
  have hn := (Kd.R_reads' h).1
  by_cases h0 : n = 0
  · exact .inl h0
  obtain ⟨g, cap, ev, _, _, cells, hb⟩ := Kd.R_form h (by omega)
  injection ev with e1 e2 e3
  subst e1
  refine .inr ⟨g, rfl, h.1 g rfl, cells, _, hb, ?_⟩
  subst hn
  have h1 := (Kd.R_cell (0 : Int) h ((l.length : Int) - 1) (by omega) (by omega)).1
  rw [show ((l.length : Int) - 1).toNat = l.length - 1 by omega, blk_cell hb] at h1
  have := (Array.getElem?_eq_some_iff.1 h1).1
  omega
theorem pad_of_row {W : World} {ok : Nat → Prop} {A : Option Addr} {n c : Nat} {l : List Int} (h : (Res.row (Kd.int .u8) 5 (.slice A n c) l).P ok W) : (Pad A n).P ok W := row_block h
theorem hull_of_rows {W : World} {ok : Nat → Prop} {A : Option Addr} {n c : Nat} {m : List (List Int)} (h : (Res.row (Kd.slice 5 (Kd.int .u8)) 30 (.slice A n c) m).P ok W) : (Hull A n (fun i => (m.getD i []).length)).P ok W := by
  have h' : (Kd.slice 5 (Kd.int .u8)).R 30 W 0 ok (.slice A n c) m := h
  have hn := (Kd.R_reads' h').1
  by_cases h0 : n = 0
  · exact .inl h0
  obtain ⟨g, cap, ev, _, _, cells, hb⟩ := Kd.R_form h' (by omega)
  injection ev with e1 e2 e3
  subst e1
  refine .inr ⟨g, rfl, h'.1 g rfl, cells, _, hb, fun i hi => ?_⟩
  obtain ⟨cc, hcl, hM, hcc, _⟩ := Kd.R_elem h' [] (i : Int) (by omega) (by omega)
  rw [Int.toNat_natCast] at hM hcc
  obtain ⟨u, rfl, hR⟩ := hM
  obtain ⟨B, cb, rfl⟩ := Kd.R_slice hR
  have h1 := hcc 0 _ rfl
  have e3 : i * (Kd.slice 5 (Kd.int .u8)).sz + 0 = i := Nat.mul_one i
  rw [e3, blk_cell hb] at h1
  refine ⟨B, cb, h1, (row_block hR).imp id (fun ⟨gi, h2, h3, h4⟩ => ⟨gi, h2, h3.1, fun e => h3.2 (by rw [e]), h4⟩)⟩
section
variable {w0 W : World} {S : Nat → Prop} {Rs : List Res} {A : Option Addr} {n : Nat} {lens : Nat → Nat}
theorem set_same {Rs : List Res} {i : Nat} {R : Res} (hi : Rs[i]? = some R) : Rs.set i R = Rs := by
  apply List.ext_getElem?
  intro k
  by_cases e : i = k
  · subst e
    rw [List.getElem?_set_self (List.getElem?_eq_some_iff.1 hi).1, hi]
  · rw [List.getElem?_set_ne e]
theorem pad_at (h : St w0 S W Rs) (i : Nat) (hi : Rs[i]? = some (Pad A n)) (h0 : i ≠ 0) (j : Nat) (hj : j < n) : ∃ g v, A = some ⟨g, 0, none⟩ ∧ W.cell? ⟨g, j, none⟩ = some v ∧ W.frozen? ⟨g, j, none⟩ = false ∧ ∀ u, St w0 S (W.setCell ⟨g, j, none⟩ u) Rs := by
  obtain ⟨ok, hP, hback⟩ := h.write i hi h0
  obtain h1 | ⟨g, h1, h2, ds, t, h3, h4⟩ := (show n = 0 ∨ _ from hP)
  · omega
  refine ⟨g, ds[j], h1, by rw [blk_cell h3]; exact Array.getElem?_eq_getElem (by omega), blk_frozen h3 j, fun u => ?_⟩
  have := hback (W' := W.setCell ⟨g, j, none⟩ u) (R' := Pad A n) ((Keeps.of_set W _ u).mono (fun k _ hk => by rw [hk]; exact h2)) (.inr ⟨g, h1, .inl h2, _, t, blk_set h3 j u, by simpa using h4⟩)
  rwa [set_same hi] at this
theorem hull_cell (h : St w0 S W Rs) (i : Nat) (hi : Rs[i]? = some (Hull A n lens)) (j : Nat) (hj : j < n) : ∃ g B c, A = some ⟨g, 0, none⟩ ∧ W.cell? ⟨g, j, none⟩ = some (.slice B (lens j) c) := by
  obtain ⟨ok, hP⟩ := h.get i hi
  obtain h1 | ⟨g, h1, h2, cs, t, h3, h4⟩ := (show n = 0 ∨ _ from hP)
  · omega
  obtain ⟨B, c, h5, _⟩ := h4 j hj
  exact ⟨g, B, c, h1, by rw [blk_cell h3]; exact h5⟩
theorem hull_at (h : St w0 S W Rs) (i : Nat) (hi : Rs[i]? = some (Hull A n lens)) (h0 : i ≠ 0) (j q : Nat) (hj : j < n) (hq : q < lens j) : ∃ g gi c v, A = some ⟨g, 0, none⟩ ∧ W.cell? ⟨g, j, none⟩ = some (.slice (some ⟨gi, 0, none⟩) (lens j) c) ∧ W.cell? ⟨gi, q, none⟩ = some v ∧ W.frozen? ⟨gi, q, none⟩ = false ∧ ∀ u, St w0 S (W.setCell ⟨gi, q, none⟩ u) Rs := by
  obtain ⟨ok, hP, hback⟩ := h.write i hi h0
  obtain h1 | ⟨g, h1, h2, cs, t, h3, h4⟩ := (show n = 0 ∨ _ from hP)
  · omega
  obtain ⟨B, c, h5, h6⟩ := h4 j hj
  obtain h6 | ⟨gi, h6, h7, h8, ds, t2, h9, h10⟩ := h6
  · omega
  subst h6
  refine ⟨g, gi, c, ds[q], h1, by rw [blk_cell h3]; exact h5, by rw [blk_cell h9]; exact Array.getElem?_eq_getElem (by omega), blk_frozen h9 q, fun u => ?_⟩
  have hg : (W.setCell ⟨gi, q, none⟩ u).heap[g]? = some (.cells cs t (0, 0)) := (Below.heap_setCell W ⟨gi, q, none⟩ u g (fun e => h8 e.symm)).trans h3
  have := hback (W' := W.setCell ⟨gi, q, none⟩ u) (R' := Hull A n lens) ((Keeps.of_set W _ u).mono (fun k _ hk => by rw [hk]; exact h7)) (.inr ⟨g, h1, .inl h2, cs, t, hg, fun i2 hi2 => ?_⟩)
  · rwa [set_same hi] at this
  · obtain ⟨B2, c2, h11, h12⟩ := h4 i2 hi2
    refine ⟨B2, c2, h11, h12.imp id (fun ⟨g2, h13, h14, h15, ds2, t3, h16, h17⟩ => ⟨g2, h13, .inl h14, h15, ?_⟩)⟩
    by_cases e : g2 = gi
    · subst e
      rw [h9] at h16
      cases h16
      exact ⟨_, t2, blk_set h9 q u, by simpa using h17⟩
    · exact ⟨ds2, t3, (Below.heap_setCell W ⟨gi, q, none⟩ u g2 e).trans h16, h17⟩
end
end Go.Proofs.Ytmfmoddaejoekaa.P
