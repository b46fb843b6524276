/- What the laws of the journal share: the deeds that came in, rows that are written over, calls on a state. -/
import Derived.Test.YtmfmoddaejoekaaHLive17
import Derived.Test.YtmfmoddaejoekaaR17g
import Derived.Test.YtmfmoddaejoekaaHMethods
import Derived.Test.YtmfmoddaejoekaaP6
import Derived.Lib.SlBytesConst
set_option linter.unusedVariables false
set_option linter.unusedSimpArgs false
namespace Go.Proofs.YtmfmoddaejoekaaW.PrintWords
open Go.RowKit
section
variable {P : Program} {ops : Array Oper} {rest : List Oper} {o : Oper} {a : Act} {Q : Exit → Act → World → Prop}
theorem St.app_row {w0 W : World} {S : Nat → Prop} {Rs : List Res} {α : Type} {d : Kd α} {e2 : Nat} (hgd : o.guard = none) (s x : Operand) (t e : TypeId)
    (ho : o.op = .call { callee := .builtin .append, args := #[s, x], argTypes := #[t, t] })
    (ht : P.underlying t = some (.slice e)) (hinfo : (P.info? e).map (fun i => (i.zero, i.size, i.bytes)) = some (some (.slice none 0 0), 1, 24))
    (HS : St w0 S W Rs) (i j : Nat) (v u : Value) (xs : List (List α)) (y : List α) (hs : a.eval s = v) (hx : a.eval x = .slice (some ⟨W.heap.size, 0, none⟩) 1 1)
    (hi : Rs[i]? = some (Res.row (Kd.slice e2 d) e v xs)) (hj : Rs[j]? = some (Res.row d e2 u y)) (h0 : i ≠ 0) (h0' : j ≠ 0) (hij : i ≠ j) (hl : (xs.length + 1) * 24 ≤ 140737488355328)
    (h : ∀ v1 w1, St w0 S w1 ((Rs.set i (Res.row (Kd.slice e2 d) e v1 (xs ++ [y]))).set j Res.any) → wpList P ops Q rest (a.put o.dst v1) w1) :
    wpList P ops Q (o :: rest) a (W.alloc (.cells #[u] e)) := by
  obtain ⟨ok1, ok2, h1, h2, hd, hback⟩ := HS.write2 i j hi hj h0 h0' hij
  have h1' : (Kd.slice e2 d).R e W 0 ok1 v xs := h1
  have h2' : d.R e2 W 0 ok2 u y := h2
  have hp : (Kd.slice e2 d).M W 0 ok2 y [u] := ⟨u, rfl, h2'⟩
  refine Kd.R_append (Kd.slice e2 d) (w0 := W) 0 hgd s x t e (.slice none 0 0) 24 ho ht hinfo rfl Nat.one_pos (by decide) v xs y [u] (fun k => ok1 k ∨ ok2 k ∨ W.heap.size ≤ k) ok2 hs hx hp
    (fun k hk => ⟨.inr (.inl hk), fun he => hd k (h1'.1 k he.symm) hk⟩) (fun k hk => .inr (.inr hk)) (Kd.R_mono h1' (fun k hk => .inl hk)) (Below.refl _ _) (Nat.zero_le _) hl ?_
  intro v1 w1 hR _ hg _
  exact h v1 w1 (hback ((Keeps.of_grown hg).mono (fun k _ hk => .inl (h1'.1 k hk.symm))) hR)
end
end Go.Proofs.YtmfmoddaejoekaaW.PrintWords
namespace Go.Proofs.Ytmfmoddaejoekaa.P
open Go.RowKit Go.Proofs.YtmfmoddaejoekaaW.PrintWords Go.Proofs.YtmfmoddaejoekaaW.PrintLast Go.Proofs.YtmfmoddaejoekaaW.PrintMore
abbrev F33 (W : World) (Fo : Nat → Prop) (A : Option Addr) (xs : List S33) : Prop := Kd.F k33 W Fo A xs.length xs
theorem deed_at {W : World} {Fo : Nat → Prop} {A : Option Addr} {xs : List S33} (h : F33 W Fo A xs) (i : Nat) (hi : i < xs.length) : ∃ ad A2 c2 A3 c3, ∃ x : S33, A = some ad ∧ x = xs.getD i z33 ∧ W.cell? (ad.add (i * 4)) = some (.int .i64 x.f0) ∧ W.cell? ⟨(ad.add (i * 4)).block, (ad.add (i * 4)).off + 1, none⟩ = some (.int .i64 x.f1) ∧ W.cell? ⟨(ad.add (i * 4)).block, (ad.add (i * 4)).off + 2, none⟩ = some (.slice A2 x.f2.length c2) ∧ W.cell? ⟨(ad.add (i * 4)).block, (ad.add (i * 4)).off + 3, none⟩ = some (.slice A3 x.f3.length c3) ∧ x.f2.length ≤ c2 ∧ x.f3.length ≤ c3 ∧ Kd.F (Kd.int .u8) W Fo A2 x.f2.length x.f2 ∧ Kd.F (Kd.slice 5 (Kd.int .u8)) W Fo A3 x.f3.length x.f3 := by
  obtain ⟨ad, c, e, _, hK, hc0, _⟩ := Kd.F_get h z33 (i : Int) (by omega) (by omega)
  rw [Int.toNat_natCast] at hK hc0
  have hc : ∀ j u, c[j]? = some u → W.cell? (ad.add (i * 4 + j)) = some u := hc0
  obtain ⟨A3, c3, A4, c4, rfl, l3, g3, l4, g4⟩ := k33_openF hK
  exact ⟨ad, A3, c3, A4, c4, _, e, rfl, hc 0 _ rfl, by rw [← add_field _ _ 1 (by omega)]; exact hc 1 _ rfl, by rw [← add_field _ _ 2 (by omega)]; exact hc 2 _ rfl, by rw [← add_field _ _ 3 (by omega)]; exact hc 3 _ rfl, l3, l4, g3, g4⟩
theorem agree_of {w W w0 : World} {S Fo : Nat → Prop} {Rs : List Res} (h : St w0 S W (Res.agree w Fo :: Rs)) : Agree w Fo W := (h.get 0 rfl).elim fun ok hp => hp.2
theorem law_stQ {w : World} {Q : World → Prop} (h : Foot Q w (fun k => k < w.heap.size)) : ∃ Fo, Foot Q w Fo ∧ St w (fun _ => False) w [Res.agree w Fo] := by
  obtain ⟨Fo, _, hF, hst⟩ := St.freeze (St.mk0 w (fun _ => False) (Q := Q) (Foot.mono h (fun k _ hf => hf)))
  exact ⟨Fo, hF, hst⟩
theorem law_st2 {w : World} {A0 A1 : Option Addr} {l0 : List S33} {l1 : List Int} (h : Kd.C k33 w A0 l0.length l0) (h1 : Kd.C (Kd.int .i64) w A1 l1.length l1) : ∃ Fo, F33 w Fo A0 l0 ∧ Kd.F (Kd.int .i64) w Fo A1 l1.length l1 ∧ St w (fun _ => False) w [Res.agree w Fo] := by
  have f1 := Kd.C_F k33_heap h
  have f2 := Kd.C_F (Kd.heap_int .i64) h1
  obtain ⟨Fo, hF, hst⟩ := law_stQ (w := w) (Q := fun W => Kd.C k33 W A0 l0.length l0 ∧ Kd.C (Kd.int .i64) W A1 l1.length l1) (fun W' hW => ⟨f1 W' hW, f2 W' hW⟩)
  exact ⟨Fo, Foot.imp hF (fun _ h => h.1), Foot.imp hF (fun _ h => h.2), hst⟩
theorem F_take {W : World} {Fo : Nat → Prop} {A : Option Addr} {l : List Int} (h : Kd.F (Kd.int .u8) W Fo A l.length l) (n : Nat) : Kd.F (Kd.int .u8) W Fo A (l.take n).length (l.take n) := by
  by_cases h20 : n ≤ l.length
  · exact Kd.F_take h h20
  · rw [List.take_of_length_le (by omega)]; exact h
theorem C_take {W : World} {A : Option Addr} {l : List Int} (h : Kd.C (Kd.int .u8) W A l.length l) (n : Nat) : Kd.C (Kd.int .u8) W A (l.take n).length (l.take n) := by
  by_cases h20 : n ≤ l.length
  · exact Kd.C_take h h20
  · rw [List.take_of_length_le (by omega)]; exact h
set_option maxHeartbeats 4000000 in
theorem few17.calls (A : Option Addr) (c : Nat) (l : List Int) (n : Nat) (w : World) (hc : l.length ≤ c) (hn : n ≤ 100000) :
    Calls Try.prog 10 #[.slice A l.length c, .int .i64 (n : Int)] w fun e W' => e = .returned (.slice A (l.take n).length c) ∧ W' = w := by
  go_enter Try.func10, Try.ntmps10
  by_cases h : n < l.length
  · have h1 : (n : Int) < (l.length : Int) := by omega
    have h2 : decide ((l.length : Int) > (n : Int)) = true := decide_eq_true h1
    have h3 : decide ((n : Int) < (l.length : Int)) = true := decide_eq_true h1
    go_wp2_with fail
    go_ret
    refine ⟨?_, rfl⟩
    rw [List.length_take, Nat.min_eq_left (by omega)]
    try rfl
    try simp
  · have h2 : decide ((l.length : Int) > (n : Int)) = false := decide_eq_false (by omega)
    have h3 : decide ((n : Int) < (l.length : Int)) = false := decide_eq_false (by omega)
    go_wp2_with fail
    go_ret
    refine ⟨?_, rfl⟩
    rw [List.take_of_length_le (by omega)]
    rfl
def pk (a n : Int) : Int := if a < 0 then Int.tmod (wrap64 (-(wrap64 (a + 1)))) n else Int.tmod a n
theorem pk_range (a n : Int) (ha : -9223372036854775808 ≤ a ∧ a ≤ 9223372036854775807) (hn : 0 < n) : 0 ≤ pk a n ∧ pk a n < n := by
  unfold pk
  split
  · have e : wrap64 (-(wrap64 (a + 1))) = -(a + 1) := by unfold wrap64; omega
    rw [e, Int.tmod_eq_emod_of_nonneg (by omega)]
    exact ⟨Int.emod_nonneg _ (by omega), Int.emod_lt_of_pos _ hn⟩
  · rw [Int.tmod_eq_emod_of_nonneg (by omega)]
    exact ⟨Int.emod_nonneg _ (by omega), Int.emod_lt_of_pos _ hn⟩
theorem pick_at {w0 W : World} {S : Nat → Prop} {Rs : List Res} (h : St w0 S W Rs) (a n : Int) (hn : n ≠ 0) : Calls Try.prog 11 #[.int .i64 a, .int .i64 n] W fun e W' => e = .returned (.int .i64 (pk a n)) ∧ St w0 S W' Rs :=
  (liverylaw17_pick.calls a n (pk a n) W (by unfold liverylaw17_pick.f pk; rw [if_neg hn, if_neg hn]; split <;> rfl)).mono fun e W' hh => ⟨hh.1, h.on hh.2.below⟩
theorem lives_at {w0 W : World} {S : Nat → Prop} {Rs : List Res} (h : St w0 S W Rs) : Calls Try.prog 16 #[] W fun e W' => e = .returned (.bool true) ∧ St w0 S W' Rs := (liverylaw17_lives.calls W).mono fun e W' hh => ⟨hh.1, h.on hh.2⟩
theorem same_at {w0 W : World} {S : Nat → Prop} {Rs : List Res} (h : St w0 S W Rs) {A B : Option Addr} {c d : Nat} {L M : List (List Int)} (hA : Kd.C (Kd.slice 5 (Kd.int .u8)) W A L.length L) (hc : L.length ≤ c) (hB : Kd.C (Kd.slice 5 (Kd.int .u8)) W B M.length M) (hd : M.length ≤ d) (hm : L.length ≤ 1000000) (hr : ∀ r ∈ L, r.length < 1000000) :
    Calls Try.prog 15 #[.slice A L.length c, .slice B M.length d] W fun e W' => e = .returned (.bool (decide (L = M))) ∧ St w0 S W' Rs := by
  obtain ⟨k, hk⟩ := same17 L M hm hr
  exact (liveryref17_Same.calls k A c L B d M (decide (L = M)) W hA hc hB hd hk).mono fun e W' hh => ⟨hh.1, h.on hh.2.below⟩
theorem row_C {α : Type} {d : Kd α} {e : TypeId} {w0 W : World} {S : Nat → Prop} {Rs : List Res} {A : Option Addr} {n c : Nat} {L : List α} (h : St w0 S W Rs) (i : Nat) (hi : Rs[i]? = some (Res.row d e (.slice A n c) L)) : n = L.length ∧ L.length ≤ c ∧ d.C W A L.length L := by
  obtain ⟨ok, hR⟩ := h.get i hi
  have h4 := Kd.R_reads' (show d.R e W 0 ok (.slice A n c) L from hR)
  obtain ⟨rfl, h5, h6⟩ := h4
  exact ⟨rfl, h5, h6⟩
theorem row_slice {α : Type} {d : Kd α} {e : TypeId} {w0 W : World} {S : Nat → Prop} {Rs : List Res} {v : Value} {L : List α} (h : St w0 S W Rs) (i : Nat) (hi : Rs[i]? = some (Res.row d e v L)) : ∃ A c, v = .slice A L.length c ∧ L.length ≤ c ∧ d.C W A L.length L := by
  obtain ⟨ok, hR⟩ := h.get i hi
  obtain ⟨A, c, rfl⟩ := Kd.R_slice (show d.R e W 0 ok v L from hR)
  have h4 := Kd.R_reads' (show d.R e W 0 ok (.slice A L.length c) L from hR)
  exact ⟨A, c, rfl, h4.2⟩
theorem St.freeze2 {w0 W : World} {S : Nat → Prop} {Rs : List Res} {Ri Rj : Res} (h : St w0 S W Rs) (i j : Nat) (hi : Rs[i]? = some Ri) (hj : Rs[j]? = some Rj) (hi0 : i ≠ 0) (hj0 : j ≠ 0) (hij : i ≠ j) :
    ∃ Fo : Nat → Prop, (∀ k, Fo k → k < W.heap.size) ∧ Foot (fun W' => ∃ ok, Ri.P ok W') W Fo ∧ Foot (fun W' => ∃ ok, Rj.P ok W') W Fo ∧ St w0 S W ((Rs.set i (Res.agree W Fo)).set j Res.any) := by
  obtain ⟨hk, own, ho, hr⟩ := h
  refine ⟨fun k => (own k = i ∨ own k = j) ∧ k < W.heap.size, fun k hk => hk.2, ?_, ?_, hk, fun k => if own k = j then i else own k, fun k hlt hs => ?_, fun m R hm => ?_⟩
  · exact fun W' hW => ⟨_, Ri.step (hr i Ri hi) (fun k hk hlt => hW k ⟨.inl hk, hlt⟩ hlt)⟩
  · exact fun W' hW => ⟨_, Rj.step (hr j Rj hj) (fun k hk hlt => hW k ⟨.inr hk, hlt⟩ hlt)⟩
  · show (if own k = j then i else own k) = 0
    rw [ho k hlt hs, if_neg (fun e => hj0 e.symm)]
  · have hil := (List.getElem?_eq_some_iff.1 hi).1
    have hjl := (List.getElem?_eq_some_iff.1 hj).1
    by_cases e1 : j = m
    · subst e1
      rw [List.getElem?_set_self (by simpa using hjl)] at hm
      cases hm
      exact trivial
    · rw [List.getElem?_set_ne e1] at hm
      by_cases e2 : i = m
      · subst e2
        rw [List.getElem?_set_self hil] at hm
        cases hm
        refine ⟨fun k hk _ => ?_, Agree.refl _ _⟩
        show (if own k = j then i else own k) = i
        rcases hk.1 with hh | hh
        · rw [if_neg (by omega), hh]
        · rw [if_pos hh]
      · rw [List.getElem?_set_ne e2] at hm
        refine R.mono (fun k hk => ?_) (hr m R hm)
        show (if own k = j then i else own k) = m
        have hk' : own k = m := hk
        rw [if_neg (by omega), hk']
theorem lit_row {w0 W : World} {S : Nat → Prop} {Rs : List Res} (h : St w0 S W Rs) (a : Int) : St w0 S (W.alloc (.cells #[.int .u8 a] 5)) (Rs ++ [Res.row (Kd.int .u8) 5 (.slice (some ⟨W.heap.size, 0, none⟩) 1 1) [a]]) := by
  refine h.add (below_alloc (Below.refl _ _) _) ?_
  refine Kd.R_of_own (enc := Value.int .u8) (xs := [a]) (own_lit_of (enc := Value.int .u8) W 0 5 [a] (Nat.zero_le _) (by simp)) (fun k hk => ?_)
  simp only [Value.ownBlock] at hk
  try cases hk
  try exact Nat.le_refl _
theorem St.app_told {P : Program} {ops : Array Oper} {rest : List Oper} {o : Oper} {a : Act} {Q : Exit → Act → World → Prop} {w0 W W0 : World} {Fo : Nat → Prop} {S : Nat → Prop} {Rs : List Res} (hgd : o.guard = none) (s x : Operand) (t e : TypeId)
    (ho : o.op = .call { callee := .builtin .append, args := #[s, x], argTypes := #[t, t] })
    (ht : P.underlying t = some (.slice e)) (hinfo : (P.info? e).map (fun i => (i.zero, i.size, i.bytes)) = some (some (.slice none 0 0), 1, 24))
    (HS : St w0 S W Rs) (j : Nat) (v : Value) (xs ys : List (List Int)) (A : Option Addr) (m c : Nat) (hs : a.eval s = v) (hx : a.eval x = .slice A m c)
    (hj : Rs[j]? = some (Res.row (told (Kd.int .u8) 5 W0 Fo) e v xs)) (hj0 : j ≠ 0) (HR : (told (Kd.int .u8) 5 W0 Fo).C W A m ys) (hl : (xs.length + m) * 24 ≤ 140737488355328)
    (h : ∀ v1 w1, St w0 S w1 (Rs.set j (Res.row (told (Kd.int .u8) 5 W0 Fo) e v1 (xs ++ ys))) → wpList P ops Q rest (a.put o.dst v1) w1) :
    wpList P ops Q (o :: rest) a W := by
  obtain ⟨ok, hR, hback⟩ := HS.write j hj hj0
  have hR' : (told (Kd.int .u8) 5 W0 Fo).R e W 0 ok v xs := hR
  exact Kd.R_append_rows (told (Kd.int .u8) 5 W0 Fo) (Rr := (told (Kd.int .u8) 5 W0 Fo).K W) (w0 := W) 0 hgd s x t e (.slice none 0 0) 24 ho ht hinfo rfl Nat.one_pos (by decide) v xs ys A m c (fun k => ok k ∨ W.heap.size ≤ k) (fun _ => False) hs hx
    (Kd.R_mono hR' (fun _ hk => .inl hk)) HR (fun _ _ h => h) (fun _ h => h.elim) (fun _ hk => .inr hk) (Below.refl _ _) (Nat.zero_le _) hl (fun v1 w1 h1 _ h3 _ =>
      h v1 w1 (hback ((Keeps.of_grown h3).mono (fun k _ hk => hR'.1 k hk.symm)) h1))
theorem cell_lt {W : World} {p : Addr} {u : Value} (h : W.cell? p = some u) : p.block < W.heap.size := by
  by_cases hl : p.block < W.heap.size
  · exact hl
  · unfold World.cell? at h
    rw [Array.getElem?_eq_none (by omega)] at h
    simp at h
theorem told_of {W0 W : World} {Fo : Nat → Prop} {A : Option Addr} {L : List (List Int)} (h : Kd.F (Kd.slice 5 (Kd.int .u8)) W0 Fo A L.length L) (hW : Agree W0 Fo W) : (told (Kd.int .u8) 5 W0 Fo).C W A L.length L := by
  refine ⟨rfl, (Kd.F_now h).2.1, fun hn => ?_⟩
  obtain ⟨ad, e1, _⟩ := (Kd.F_now h).2.2 hn
  subst e1
  refine ⟨ad, rfl, fun j p hj => ?_⟩
  have hjl := (List.getElem?_eq_some_iff.1 hj).1
  obtain ⟨ad', c, e2, hcl, hK, hc, hok⟩ := Kd.F_get h [] (j : Int) (by omega) (by omega)
  cases e2
  rw [Int.toNat_natCast] at hK hc
  have ep : L.getD j [] = p := by rw [List.getD_eq_getElem?_getD, hj]; rfl
  rw [ep] at hK
  refine ⟨c, hcl, hK, fun i x hx => ?_⟩
  have h1 : W0.cell? (ad.add (j * 1 + i)) = some x := hc i x hx
  have eb : (ad.add (j * 1 + i)).block = ad.block := by
    unfold Addr.add
    split <;> rfl
  have h2 := hW ad.block (hok (by decide)) (by rw [← eb]; exact cell_lt h1)
  show W.cell? (ad.add (j * 1 + i)) = some x
  rw [← h1]
  unfold World.cell?
  rw [eb, h2]
theorem told_M {W0 W : World} {Fo ok : Nat → Prop} {A : Option Addr} {c : Nat} {l : List Int} (hc : l.length ≤ c) (h : Kd.F (Kd.int .u8) W0 Fo A l.length l) : (told (Kd.int .u8) 5 W0 Fo).M W 0 ok l [.slice A l.length c] := Kd.FK_slice_mk hc h
theorem St.app_told1 {P : Program} {ops : Array Oper} {rest : List Oper} {o : Oper} {a : Act} {Q : Exit → Act → World → Prop} {w0 W W0 : World} {Fo : Nat → Prop} {S : Nat → Prop} {Rs : List Res} (hgd : o.guard = none) (s x : Operand) (t e : TypeId)
    (ho : o.op = .call { callee := .builtin .append, args := #[s, x], argTypes := #[t, t] })
    (ht : P.underlying t = some (.slice e)) (hinfo : (P.info? e).map (fun i => (i.zero, i.size, i.bytes)) = some (some (.slice none 0 0), 1, 24))
    (HS : St w0 S W Rs) (i : Nat) (v : Value) (A : Option Addr) (c : Nat) (xs : List (List Int)) (y : List Int) (hs : a.eval s = v) (hx : a.eval x = .slice (some ⟨W.heap.size, 0, none⟩) 1 1)
    (hi : Rs[i]? = some (Res.row (told (Kd.int .u8) 5 W0 Fo) e v xs)) (h0 : i ≠ 0) (hc : y.length ≤ c) (hF : Kd.F (Kd.int .u8) W0 Fo A y.length y) (hl : (xs.length + 1) * 24 ≤ 140737488355328)
    (h : ∀ v1 w1, St w0 S w1 (Rs.set i (Res.row (told (Kd.int .u8) 5 W0 Fo) e v1 (xs ++ [y]))) → wpList P ops Q rest (a.put o.dst v1) w1) :
    wpList P ops Q (o :: rest) a (W.alloc (.cells #[.slice A y.length c] e)) := by
  obtain ⟨ok, hR, hback⟩ := HS.write i hi h0
  have hR' : (told (Kd.int .u8) 5 W0 Fo).R e W 0 ok v xs := hR
  refine Kd.R_append (told (Kd.int .u8) 5 W0 Fo) (w0 := W) 0 hgd s x t e (.slice none 0 0) 24 ho ht hinfo rfl Nat.one_pos (by decide) v xs y [.slice A y.length c] (fun k => ok k ∨ W.heap.size ≤ k) (fun _ => False) hs hx (told_M hc hF)
    (fun k hk => hk.elim) (fun k hk => .inr hk) (Kd.R_mono hR' (fun k hk => .inl hk)) (Below.refl _ _) (Nat.zero_le _) hl ?_
  intro v1 w1 h1 _ h3 _
  exact h v1 w1 (hback ((Keeps.of_grown h3).mono (fun k _ hk => hR'.1 k hk.symm)) h1)
section
variable {P : Program} {ops : Array Oper} {o : Oper} {a : Act} {Kc : Act → World → Prop} {Q : Exit → Act → World → Prop}
end
theorem hinfoB : (Try.prog.info? 5).map (fun i => (i.zero, i.size, i.bytes)) = some (some (.int .u8 0), 1, 1) := by kernel_rfl
theorem hinfoR : (Try.prog.info? 30).map (fun i => (i.zero, i.size, i.bytes)) = some (some (.slice none 0 0), 1, 24) := by kernel_rfl
theorem wf64 {x : Int} (h : (Lit.int .i64 x).wf = true) : -9223372036854775808 ≤ x ∧ x ≤ 9223372036854775807 := by
  simp only [Lit.wf, Bool.and_eq_true, decide_eq_true_eq] at h
  exact h
theorem wf8 {x : Int} (h : (Lit.int .u8 x).wf = true) : 0 ≤ x ∧ x ≤ 255 := by
  simp only [Lit.wf, Bool.and_eq_true, decide_eq_true_eq] at h
  exact h
theorem wfB {l : List Int} (h : ∀ x ∈ l, (Lit.int .u8 x).wf = true) : okB l = true := okB_of fun x hx => wf8 (h x hx)
/-! Rows whose numbers are written over: their shape alone is told. -/
section
variable {w0 W : World} {S : Nat → Prop} {Rs : List Res} {A : Option Addr} {n : Nat} {lens : Nat → Nat}
end
end Go.Proofs.Ytmfmoddaejoekaa.P
