/- What the laws of the sets share: the deeds that came in, and the calls on a state. -/
import Derived.Test.YtadkafhhkidecaaHLive11
set_option linter.unusedVariables false
set_option linter.unusedSimpArgs false
namespace Go.Proofs.YtadkafhhkidecaaW.PrintWords
open Go.RowKit
section
variable {P : Program} {ops : Array Oper} {rest : List Oper} {o : Oper} {a : Act} {Q : Exit → Act → World → Prop}
/-- append(v, u): a row of one's own becomes a row of the rows. -/
theorem St.app_row {w0 W : World} {S : Nat → Prop} {Rs : List Res} {α : Type} {d : Kd α} {e2 : Nat} (hgd : o.guard = none) (s x : Operand) (t e : TypeId)
    (ho : o.op = .call { callee := .builtin .append, args := #[s, x], argTypes := #[t, t] })
    (ht : P.underlying t = some (.slice e)) (hinfo : (P.info? e).map (fun i => (i.zero, i.size, i.bytes)) = some (some (.slice none 0 0), 1, 24))
    (HS : St w0 S W Rs) (i j : Nat) (v u : Value) (xs : List (List α)) (y : List α) (hs : a.eval s = v) (hx : a.eval x = .slice (some ⟨W.heap.size, 0, none⟩) 1 1)
    (hi : Rs[i]? = some (Res.row (Kd.slice e2 d) e v xs)) (hj : Rs[j]? = some (Res.row d e2 u y)) (h0 : i ≠ 0) (h0' : j ≠ 0) (hij : i ≠ j) (hl : (xs.length + 1) * 24 ≤ 140737488355328)
    (h : ∀ v1 w1, St w0 S w1 ((Rs.set i (Res.row (Kd.slice e2 d) e v1 (xs ++ [y]))).set j Res.any) → wpList P ops Q rest (a.put o.dst v1) w1) :
    wpList P ops Q (o :: rest) a (W.alloc (.cells #[u] e)) := by
  obtain ⟨ok1, ok2, h1, h2, hd, hback⟩ := HS.write2 i j hi hj h0 h0' hij
  have h1' : (Kd.slice e2 d).R e W 0 ok1 v xs := h1
  have h2' : d.R e2 W 0 ok2 u y := h2
  have hp : (Kd.slice e2 d).M W 0 ok2 y [u] := ⟨u, rfl, h2'⟩
  refine Kd.R_append (Kd.slice e2 d) (w0 := W) 0 hgd s x t e (.slice none 0 0) 24 ho ht hinfo rfl Nat.one_pos (by decide) v xs y [u] (fun k => ok1 k ∨ ok2 k ∨ W.heap.size ≤ k) ok2 hs hx hp
    (fun k hk => ⟨.inr (.inl hk), fun he => hd k (h1'.1 k he.symm) hk⟩) (fun k hk => .inr (.inr hk)) (Kd.R_mono h1' (fun k hk => .inl hk)) (Below.refl _ _) (Nat.zero_le _) hl ?_
  intro v1 w1 hR _ hg _
  exact h v1 w1 (hback ((Keeps.of_grown hg).mono (fun k _ hk => .inl (h1'.1 k hk.symm))) hR)
end
theorem St.sees {w0 W : World} {S : Nat → Prop} {Rs : List Res} {R : Res} (h : St w0 S W Rs) (i : Nat) (hi : Rs[i]? = some R) : ∃ ok, R.P ok W := h.get i hi
end Go.Proofs.YtadkafhhkidecaaW.PrintWords
namespace Go.Proofs.Ytadkafhhkidecaa.P
open Go.RowKit Go.Proofs.YtadkafhhkidecaaW.PrintWords Go.Proofs.YtadkafhhkidecaaW.PrintLast Go.Proofs.YtadkafhhkidecaaW.PrintMore
abbrev F33 (W : World) (Fo : Nat → Prop) (A : Option Addr) (xs : List S33) : Prop := Kd.F k33 W Fo A xs.length xs
theorem deed_at {W : World} {Fo : Nat → Prop} {A : Option Addr} {xs : List S33} (h : F33 W Fo A xs) (i : Nat) (hi : i < xs.length) : ∃ ad A3 c3 A4 c4, ∃ x : S33, A = some ad ∧ x = xs.getD i z33 ∧ W.cell? (ad.add (i * 5)) = some (.int .i64 x.f0) ∧ W.cell? ⟨(ad.add (i * 5)).block, (ad.add (i * 5)).off + 1, none⟩ = some (.int .i64 x.f1.f0) ∧ W.cell? ⟨(ad.add (i * 5)).block, (ad.add (i * 5)).off + 2, none⟩ = some (.int .i64 x.f1.f1) ∧ W.cell? ⟨(ad.add (i * 5)).block, (ad.add (i * 5)).off + 3, none⟩ = some (.slice A3 x.f2.length c3) ∧ W.cell? ⟨(ad.add (i * 5)).block, (ad.add (i * 5)).off + 4, none⟩ = some (.slice A4 x.f3.length c4) ∧ x.f2.length ≤ c3 ∧ x.f3.length ≤ c4 ∧ Kd.F (Kd.int .i64) W Fo A3 x.f2.length x.f2 ∧ Kd.F (Kd.slice 3 (Kd.int .i64)) W Fo A4 x.f3.length x.f3 := by
  obtain ⟨ad, c, e, _, hK, hc0, _⟩ := Kd.F_get h z33 (i : Int) (by omega) (by omega)
  rw [Int.toNat_natCast] at hK hc0
  have hc : ∀ j u, c[j]? = some u → W.cell? (ad.add (i * 5 + j)) = some u := hc0
  obtain ⟨A3, c3, A4, c4, rfl, l3, g3, l4, g4⟩ := k33_openF hK
  exact ⟨ad, A3, c3, A4, c4, _, e, rfl, hc 0 _ rfl, by rw [← add_field _ _ 1 (by omega)]; exact hc 1 _ rfl, by rw [← add_field _ _ 2 (by omega)]; exact hc 2 _ rfl, by rw [← add_field _ _ 3 (by omega)]; exact hc 3 _ rfl, by rw [← add_field _ _ 4 (by omega)]; exact hc 4 _ rfl, l3, l4, g3, g4⟩
section
variable {w0 W w : World} {S Fo : Nat → Prop} {R0 : Res} {Rs : List Res} {gs gr g : Nat} {L Lr : List (List Int)} {A1 A2 : Option Addr} {c1 c2 : Nat} {known : List Int} {more : List (List Int)}
theorem reads2_F (h1 : Kd.F (Kd.int .i64) w Fo A1 known.length known) (h2 : Kd.F (Kd.slice 3 (Kd.int .i64)) w Fo A2 more.length more) : ∀ W' ok, (Res.agree w Fo).P ok W' → Reads2 A1 known A2 more W' := fun W' ok h => ⟨h1 W' h.2, h2 W' h.2⟩
theorem does_at (h : St w0 S W (R0 :: PSet gs L :: RSet gr L :: Rs)) (hL : Good L) (kind d s : Int) (hc1 : known.length ≤ c1) (hc2 : more.length ≤ c2) (hQ : ∀ W' ok, R0.P ok W' → Reads2 A1 known A2 more W') :
    Calls Try.prog 10 #[.pointer (some ⟨gs, 0, none⟩), .pointer (some ⟨gr, 0, none⟩), .agg #[.int .i64 kind, .int .i64 d, .int .i64 s, .slice A1 known.length c1, .slice A2 more.length c2]] W fun e W' =>
      e = .returned (.bool true) ∧ St w0 S W' (R0 :: PSet gs (stepL kind d s known more L) :: RSet gr (stepL kind d s known more L) :: Rs) := by
  obtain ⟨S1, h1, hback⟩ := h.call2 1 2 rfl rfl (by decide) (by decide) (by decide) (Reads2 A1 known A2 more) (fun W' hW => (hW 0 R0 (by decide) (by decide) rfl).elim fun ok hp => hQ W' ok hp)
  refine (does.calls gs gr L hL kind d s A1 c1 known A2 c2 more W S1 _ hc1 hc2 h1 (fun _ h => h)).mono fun e W' hh => ⟨hh.1, ?_⟩
  have := hback (news := []) hh.2
  rwa [List.append_nil] at this
theorem does_gen (h : St w0 S W Rs) (i j : Nat) (hi : Rs[i]? = some (PSet gs L)) (hj : Rs[j]? = some (RSet gr L)) (h0 : i ≠ 0) (h0' : j ≠ 0) (hij : i ≠ j) (hL : Good L) (kind d s : Int) (hc1 : known.length ≤ c1) (hc2 : more.length ≤ c2) (hQ : ∀ W', (∀ (m : Nat) (Rm : Res), m ≠ i → m ≠ j → Rs[m]? = some Rm → ∃ ok, Rm.P ok W') → Reads2 A1 known A2 more W') :
    Calls Try.prog 10 #[.pointer (some ⟨gs, 0, none⟩), .pointer (some ⟨gr, 0, none⟩), .agg #[.int .i64 kind, .int .i64 d, .int .i64 s, .slice A1 known.length c1, .slice A2 more.length c2]] W fun e W' =>
      e = .returned (.bool true) ∧ St w0 S W' ((Rs.set i (PSet gs (stepL kind d s known more L))).set j (RSet gr (stepL kind d s known more L))) := by
  obtain ⟨S1, h1, hback⟩ := h.call2 i j hi hj h0 h0' hij (Reads2 A1 known A2 more) hQ
  refine (does.calls gs gr L hL kind d s A1 c1 known A2 c2 more W S1 _ hc1 hc2 h1 (fun _ h => h)).mono fun e W' hh => ⟨hh.1, ?_⟩
  have := hback (news := []) hh.2
  rwa [List.append_nil] at this
theorem like_at (h : St w0 S W (R0 :: PSet gs L :: RSet gr L :: Rs)) (hL : Good L) :
    Calls Try.prog 11 #[.pointer (some ⟨gs, 0, none⟩), .pointer (some ⟨gr, 0, none⟩)] W fun e W' => e = .returned (.bool true) ∧ St w0 S W' (R0 :: PSet gs L :: RSet gr L :: Rs) := by
  obtain ⟨ok, hp⟩ := h.get 1 rfl
  obtain ⟨ok', hr⟩ := h.get 2 rfl
  exact (like.calls gs gr L hL W ok ok' hp hr).mono fun e W' hh => ⟨hh.1, h.on hh.2⟩
theorem lives_at (h : St w0 S W Rs) : Calls Try.prog 14 #[] W fun e W' => e = .returned (.bool true) ∧ St w0 S W' Rs := (lives.calls W).mono fun e W' hh => ⟨hh.1, h.on hh.2⟩
theorem hasP_at (h : St w0 S W Rs) (i : Nat) (hi : Rs[i]? = some (PSet g L)) (hL : Good L) (d s : Int) :
    Calls Try.prog 12 #[.pointer (some ⟨g, 0, none⟩), .agg #[.int .i64 d, .int .i64 s]] W fun e W' => e = .returned (.bool (hasS L d s)) ∧ St w0 S W' Rs := by
  obtain ⟨ok, hp⟩ := h.get i hi
  exact (revset_Set_Has.all g L hL d s W ok hp).mono fun e W' hh => ⟨hh.1, h.on hh.2⟩
theorem hasR_at (h : St w0 S W Rs) (i : Nat) (hi : Rs[i]? = some (RSet g L)) (hL : Good L) (d s : Int) :
    Calls Try.prog 13 #[.pointer (some ⟨g, 0, none⟩), .agg #[.int .i64 d, .int .i64 s]] W fun e W' => e = .returned (.bool (hasS L d s)) ∧ St w0 S W' Rs := by
  obtain ⟨ok, hp⟩ := h.get i hi
  exact (ref_Has.all g L hL d s W ok hp).mono fun e W' hh => ⟨hh.1, h.on hh.2⟩
theorem newP_at (h : St w0 S W Rs) : Calls Try.prog 8 #[] W fun e W' => ∃ g, e = .returned (.pointer (some ⟨g, 0, none⟩)) ∧ St w0 S W' (Rs ++ [PSet g lv0]) :=
  (revset_New.calls W).mono fun e W' ⟨g, h1, h2, h3⟩ => ⟨g, h1, h.add h3 h2⟩
theorem newR_at (h : St w0 S W Rs) : Calls Try.prog 9 #[] W fun e W' => ∃ g, e = .returned (.pointer (some ⟨g, 0, none⟩)) ∧ St w0 S W' (Rs ++ [RSet g lv0]) :=
  (ref_New.calls W).mono fun e W' ⟨g, h1, h2, h3⟩ => ⟨g, h1, h.add h3 h2⟩
theorem copyP_at (h : St w0 S W Rs) (i : Nat) (hi : Rs[i]? = some (PSet g L)) (hL : Good L) : Calls Try.prog 26 #[.pointer (some ⟨g, 0, none⟩)] W fun e W' => ∃ g2, e = .returned (.pointer (some ⟨g2, 0, none⟩)) ∧ St w0 S W' (Rs ++ [PSet g2 L]) := by
  obtain ⟨ok, hp⟩ := h.get i hi
  exact (revset_Copy.calls g L hL W ok hp).mono fun e W' ⟨g2, h1, h2, h3⟩ => ⟨g2, h1, h.add h3 h2⟩
/-- A row that is new: read only. -/
def RowAt (w0 : World) (S : Nat → Prop) (Rs : List Res) (l : List Int) (e : Ending) (W' : World) : Prop := ∃ A c, e = .returned (.slice A l.length c) ∧ l.length ≤ c ∧ (Kd.int .i64).C W' A l.length l ∧ St w0 S W' (Rs ++ [Res.row (Kd.int .i64) 3 (.slice A l.length c) l])
theorem rowP_at (h : St w0 S W Rs) (i : Nat) (hi : Rs[i]? = some (PSet g L)) (hL : Good L) (d : Int) :
    Calls Try.prog 18 #[.pointer (some ⟨g, 0, none⟩), .int .i64 d] W (RowAt w0 S Rs (rowN L d)) := by
  obtain ⟨ok, hp⟩ := h.get i hi
  refine (revset_Set_Row.all g L hL d W ok hp).mono fun e W' ⟨v, h1, h2, h3⟩ => ?_
  obtain ⟨A, c, ev⟩ := Kd.R_slice h2
  subst ev
  have h4 := Kd.R_reads' h2
  exact ⟨A, c, h1, h4.2.1, h4.2.2, h.add h3 h2⟩
theorem vecP_at (h : St w0 S W Rs) (i : Nat) (hi : Rs[i]? = some (PSet g L)) (hL : Good L) :
    Calls Try.prog 25 #[.pointer (some ⟨g, 0, none⟩)] W fun e W' => ∃ A c, e = .returned (.slice A (vectorS L).length c) ∧ (vectorS L).length ≤ c ∧ St w0 S W' (Rs ++ [Res.view (fun w => (Kd.int .i64).C w A (vectorS L).length (vectorS L))]) := by
  obtain ⟨ok, hp⟩ := h.get i hi
  refine (revset_Set_Vector.calls g L hL W ok hp).mono fun e W' ⟨v, h1, h2, h3⟩ => ?_
  obtain ⟨A, c, rfl, hl, hf⟩ := h2
  exact ⟨A, c, h1, hl, h.add h3 hf⟩
theorem deltaP_at (h : St w0 S W Rs) (i : Nat) (hi : Rs[i]? = some (PSet g L)) (hL : Good L) (hK : (Kd.int .i64).C W A1 known.length known) (hc1 : known.length ≤ c1) :
    Calls Try.prog 16 #[.pointer (some ⟨g, 0, none⟩), .slice A1 known.length c1] W fun e W' => ∃ A c, e = .returned (.slice A (deltaS L known).length c) ∧ (deltaS L known).length ≤ c ∧ St w0 S W' (Rs ++ [Res.row (Kd.slice 3 (Kd.int .i64)) 30 (.slice A (deltaS L known).length c) (deltaS L known)]) := by
  obtain ⟨ok, hp⟩ := h.get i hi
  refine (revset_Delta.calls g L hL A1 c1 known W ok hp hK hc1).mono fun e W' ⟨v, h1, h2, h3⟩ => ?_
  obtain ⟨A, c, ev⟩ := Kd.R_slice h2
  subst ev
  have h4 := Kd.R_reads' h2
  exact ⟨A, c, h1, h4.2.1, h.add h3 h2⟩
theorem addP_at (h : St w0 S W Rs) (i : Nat) (hi : Rs[i]? = some (PSet g L)) (h0 : i ≠ 0) (hL : Good L) (d s : Int) :
    Calls Try.prog 21 #[.pointer (some ⟨g, 0, none⟩), .agg #[.int .i64 d, .int .i64 s]] W fun e W' => e = .returned (.int .i64 (addN L d s)) ∧ St w0 S W' (Rs.set i (PSet g (addL L d s))) := by
  obtain ⟨ok, hP, _, hback⟩ := h.lend i hi h0 (fun _ => True) (fun _ _ => trivial)
  exact (revset_Set_Add.all g L hL d s W ok hP).mono fun e W' hh => ⟨hh.1, hback ⟨hh.2.1, hh.2.2⟩⟩
theorem mergeP_at (h : St w0 S W Rs) (i : Nat) (hi : Rs[i]? = some (PSet g L)) (h0 : i ≠ 0) (hL : Good L) (hQ : ∀ W', (∀ (j : Nat) (Rj : Res), j ≠ i → Rs[j]? = some Rj → ∃ ok, Rj.P ok W') → Reads2 A1 known A2 more W') (hc1 : known.length ≤ c1) (hm : more.length ≤ c2 ∧ more.length ≤ 1000000 ∧ ∀ r ∈ more, r.length ≤ 1000000) :
    Calls Try.prog 20 #[.pointer (some ⟨g, 0, none⟩), .slice A1 known.length c1, .slice A2 more.length c2] W fun e W' => e = .returned (.int .i64 (mergeN known more L)) ∧ St w0 S W' (Rs.set i (PSet g (mergeL known more L))) := by
  obtain ⟨ok, hP, hq, hback⟩ := h.lend i hi h0 (Reads2 A1 known A2 more) hQ
  exact (revset_Merge.calls g L hL A1 c1 known A2 c2 more W ok hP (fun W' hk => (hq W' hk).1) hc1 (fun W' hk => (hq W' hk).2) hm.1 hm.2.1 hm.2.2).mono fun e W' hh => ⟨hh.1, hback hh.2⟩
end
theorem heap_deed : Kd.Heap k33 := Kd.heap_iso _ (Kd.heap_pair (Kd.heap_int _) (Kd.heap_pair (Kd.heap_iso _ (Kd.heap_pair (Kd.heap_int _) (Kd.heap_int _))) (Kd.heap_pair (Kd.heap_slice _ (Kd.heap_int _)) (Kd.heap_slice _ (Kd.heap_slice _ (Kd.heap_int _))))))
/-- The state of a law that begins. -/
theorem law_st {w : World} {A0 : Option Addr} {l0 : List S33} (h : Kd.C k33 w A0 l0.length l0) : ∃ Fo, F33 w Fo A0 l0 ∧ St w (fun _ => False) w [Res.agree w Fo] := by
  obtain ⟨Fo, _, hF, hst⟩ := St.freeze (St.mk0 w (fun _ => False) (Q := fun W => Kd.C k33 W A0 l0.length l0) (Foot.mono (Kd.C_F heap_deed h) (fun k _ hf => hf)))
  exact ⟨Fo, hF, hst⟩
theorem law_stQ {w : World} {Q : World → Prop} (h : Foot Q w (fun k => k < w.heap.size)) : ∃ Fo, Foot Q w Fo ∧ St w (fun _ => False) w [Res.agree w Fo] := by
  obtain ⟨Fo, _, hF, hst⟩ := St.freeze (St.mk0 w (fun _ => False) (Q := Q) (Foot.mono h (fun k _ hf => hf)))
  exact ⟨Fo, hF, hst⟩
/-- Deeds and one row of numbers. -/
theorem law_st2 {w : World} {A0 A1 : Option Addr} {l0 : List S33} {l1 : List Int} (h : Kd.C k33 w A0 l0.length l0) (h1 : Kd.C (Kd.int .i64) w A1 l1.length l1) : ∃ Fo, F33 w Fo A0 l0 ∧ Kd.F (Kd.int .i64) w Fo A1 l1.length l1 ∧ St w (fun _ => False) w [Res.agree w Fo] := by
  have f1 := Kd.C_F heap_deed h
  have f2 := Kd.C_F (Kd.heap_int .i64) h1
  obtain ⟨Fo, hF, hst⟩ := law_stQ (w := w) (Q := fun W => Kd.C k33 W A0 l0.length l0 ∧ Kd.C (Kd.int .i64) W A1 l1.length l1) (fun W' hW => ⟨f1 W' hW, f2 W' hW⟩)
  exact ⟨Fo, Foot.imp hF (fun _ h => h.1), Foot.imp hF (fun _ h => h.2), hst⟩
theorem F_take20 {W : World} {Fo : Nat → Prop} {A : Option Addr} {l : List Int} (h : Kd.F (Kd.int .i64) W Fo A l.length l) : Kd.F (Kd.int .i64) W Fo A (l.take 20).length (l.take 20) := by
  by_cases h20 : 20 ≤ l.length
  · exact Kd.F_take h h20
  · rw [List.take_of_length_le (by omega)]; exact h
theorem deltaS_len (L : List (List Int)) (known : List Int) : (deltaS L known).length ≤ 16 := by
  have h := deltaTo_length L known 16
  have := lastNe_le L known 16
  unfold deltaTo at h
  unfold deltaS
  omega
theorem deltaS_rows {L : List (List Int)} (hL : Good L) (known : List Int) : ∀ r ∈ deltaS L known, r.length ≤ 32 := fun r hr => by
  have h1 := List.mem_of_mem_take hr
  obtain ⟨i, _, rfl⟩ := List.mem_map.1 h1
  unfold partS
  rw [List.length_drop]
  have := hL.len i
  omega
/-- The parts that a set tells and that the document's set tells, held against each other. -/
theorem deltas_at {w0 W : World} {S : Nat → Prop} {Rs : List Res} {gs : Nat} {L : List (List Int)} {A1 : Option Addr} {c1 : Nat} {known : List Int} (h : St w0 S W Rs) (i : Nat) (hi : Rs[i]? = some (PSet gs L)) (hL : Good L) (hK : (Kd.int .i64).C W A1 known.length known) (hc1 : known.length ≤ c1) :
    Calls Try.prog 16 #[.pointer (some ⟨gs, 0, none⟩), .slice A1 known.length c1] W fun e W' => ∃ A c, e = .returned (.slice A (deltaS L known).length c) ∧ (deltaS L known).length ≤ c ∧ (Kd.slice 3 (Kd.int .i64)).C W' A (deltaS L known).length (deltaS L known) ∧ Below W.heap.size W W' ∧ St w0 S W' Rs := by
  obtain ⟨ok, hp⟩ := h.get i hi
  refine (revset_Delta.calls gs L hL A1 c1 known W ok hp hK hc1).mono fun e W' ⟨v, h1, h2, h3⟩ => ?_
  obtain ⟨A, c, ev⟩ := Kd.R_slice h2
  subst ev
  have h4 := Kd.R_reads' h2
  exact ⟨A, c, h1, h4.2.1, h4.2.2, h3, h.on h3⟩
theorem deltasR_at {w0 W : World} {S : Nat → Prop} {Rs : List Res} {gs : Nat} {L : List (List Int)} {A1 : Option Addr} {c1 : Nat} {known : List Int} (h : St w0 S W Rs) (i : Nat) (hi : Rs[i]? = some (RSet gs L)) (hL : Good L) (hK : (Kd.int .i64).C W A1 known.length known) (hc1 : known.length ≤ c1) :
    Calls Try.prog 17 #[.pointer (some ⟨gs, 0, none⟩), .slice A1 known.length c1] W fun e W' => ∃ A c, e = .returned (.slice A (deltaS L known).length c) ∧ (deltaS L known).length ≤ c ∧ (Kd.slice 3 (Kd.int .i64)).C W' A (deltaS L known).length (deltaS L known) ∧ Below W.heap.size W W' ∧ St w0 S W' Rs := by
  obtain ⟨ok, hp⟩ := h.get i hi
  exact (ref_Delta.calls gs L hL A1 c1 known W ok hp hK hc1).mono fun e W' ⟨A, c, h1, h2, h3, h4⟩ => ⟨A, c, h1, h2, h3, h4, h.on h4⟩
theorem agree_of {w W w0 : World} {S Fo : Nat → Prop} {Rs : List Res} (h : St w0 S W (Res.agree w Fo :: Rs)) : Agree w Fo W := (h.get 0 rfl).elim fun ok hp => hp.2
/-- .. with what the named blocks are below. -/
theorem law_st3 {w : World} {A0 : Option Addr} {l0 : List S33} (h : Kd.C k33 w A0 l0.length l0) : ∃ Fo : Nat → Prop, (∀ k, Fo k → k < w.heap.size) ∧ F33 w Fo A0 l0 ∧ St w (fun _ => False) w [Res.agree w Fo] := by
  obtain ⟨Fo, hb, hF, hst⟩ := St.freeze (St.mk0 w (fun _ => False) (Q := fun W => Kd.C k33 W A0 l0.length l0) (Foot.mono (Kd.C_F heap_deed h) (fun k _ hf => hf)))
  exact ⟨Fo, hb, hF, hst⟩
/-- A deed is put into a box that is new. -/
theorem box_state {w0 W w1 w2 w3 : World} {S Fo : Nat → Prop} {Rs : List Res} {b : Nat} {m : List (List Int)} {kind d s : Int} {A1 A : Option Addr} {n1 c1 c : Nat} (h : St w0 S w1 Rs) (hB : Below w1.heap.size w1 w2) (hb : b = w2.heap.size)
    (hR : (told (Kd.int .i64) 3 W Fo).R 30 w2 0 (fun k => w1.heap.size ≤ k) (.slice A m.length c) m)
    (e3 : w3 = w2.alloc (.cells #[.int .i64 kind, .int .i64 d, .int .i64 s, .slice A1 n1 c1, .slice A m.length c] 33)) :
    St w0 S w3 (Rs ++ [SEPB b kind d s A1 n1 c1 A c m W Fo]) := by
  have hX := heap_alloc_new w2 (.cells #[.int .i64 kind, .int .i64 d, .int .i64 s, .slice A1 n1 c1, .slice A m.length c] 33)
  rw [← e3, ← hb] at hX
  have hB23 : Below w2.heap.size w2 w3 := by rw [e3]; exact below_alloc (Below.refl _ _) _
  refine h.add (below_step hB hB23) ⟨fun k => k = b, ⟨⟨by have := hB.size; omega, rfl⟩, hX⟩, ?_⟩
  exact Kd.R_mono (Kd.R_step (Kd.R_bound hR) (fun k hk hlt => hB23.block k hlt)) (fun k hk => ⟨hk.1, by have := hk.2.2.1; omega⟩)
theorem sepb_at {w0 W W1 : World} {S Fo : Nat → Prop} {Rs : List Res} {b : Nat} {m : List (List Int)} {kind d s : Int} {A1 A : Option Addr} {n1 c1 c : Nat} (h : St w0 S W1 Rs) (i : Nat) (hi : Rs[i]? = some (SEPB b kind d s A1 n1 c1 A c m W Fo)) :
    W1.heap[b]? = some (.cells #[.int .i64 kind, .int .i64 d, .int .i64 s, .slice A1 n1 c1, .slice A m.length c] 33 (0, 0)) := by
  obtain ⟨ok, f, h1, _⟩ := h.get i hi
  exact h1.2
/-- What a cut deed is read as, whatever is written elsewhere. -/
theorem sepb_reads {w W' : World} {Fo ok ok' : Nat → Prop} {b : Nat} {m : List (List Int)} {kind d s : Int} {A1 A : Option Addr} {c1 c : Nat} {kn : List Int} (hF : Kd.F (Kd.int .i64) w Fo A1 kn.length kn) (h1 : (Res.agree w Fo).P ok W') (h2 : (SEPB b kind d s A1 kn.length c1 A c m w Fo).P ok' W') : Reads2 A1 kn A m W' :=
  ⟨hF W' h1.2, h2.elim fun f h3 => told_C (Kd.R_reads' h3.2).2.2 h1.2⟩
/-- A row that is new, read and left. -/
theorem rowP2_at {w0 W : World} {S : Nat → Prop} {Rs : List Res} {g : Nat} {L : List (List Int)} (h : St w0 S W Rs) (i : Nat) (hi : Rs[i]? = some (PSet g L)) (hL : Good L) (d : Int) :
    Calls Try.prog 18 #[.pointer (some ⟨g, 0, none⟩), .int .i64 d] W fun e W' => ∃ A c, e = .returned (.slice A (rowN L d).length c) ∧ (rowN L d).length ≤ c ∧ (Kd.int .i64).C W' A (rowN L d).length (rowN L d) ∧ Below W.heap.size W W' ∧ St w0 S W' Rs := by
  obtain ⟨ok, hp⟩ := h.get i hi
  refine (revset_Set_Row.all g L hL d W ok hp).mono fun e W' ⟨v, h1, h2, h3⟩ => ?_
  obtain ⟨A, c, ev⟩ := Kd.R_slice h2
  subst ev
  have h4 := Kd.R_reads' h2
  exact ⟨A, c, h1, h4.2.1, h4.2.2, h3, h.on h3⟩
/-! What was told stays told: rows grow at their end. -/
def Grows (L L2 : List (List Int)) : Prop := ∀ i, (L2.getD i []).take (L.getD i []).length = L.getD i []
theorem grows_refl (L : List (List Int)) : Grows L L := fun i => List.take_of_length_le (Nat.le_refl _)
theorem grows_trans {L L2 L3 : List (List Int)} (h : Grows L L2) (h2 : Grows L2 L3) : Grows L L3 := fun i => by
  have h3 := h i
  have h4 := h2 i
  have h5 : (L.getD i []).length ≤ (L2.getD i []).length := by
    have := congrArg List.length h3
    rw [List.length_take] at this
    omega
  rw [← h4, List.take_take, Nat.min_eq_left h5] at h3
  exact h3
theorem grows_set {L : List (List Int)} {n : Nat} {l : List Int} (h : l.take (L.getD n []).length = L.getD n []) : Grows L (L.set n l) := fun i => by
  by_cases e : n = i
  · subst e
    by_cases hn : n < L.length
    · rw [show (L.set n l).getD n [] = l by rw [List.getD_eq_getElem?_getD, List.getElem?_set_self hn]; rfl]
      exact h
    · rw [List.set_eq_of_length_le (by omega)]
      exact List.take_of_length_le (Nat.le_refl _)
  · rw [show (L.set n l).getD i [] = L.getD i [] by rw [List.getD_eq_getElem?_getD, List.getElem?_set_ne e, ← List.getD_eq_getElem?_getD]]
    exact List.take_of_length_le (Nat.le_refl _)
theorem mergeRow_grows (row : List Int) (k : Int) (more : List Int) : (mergeRow row k more).take row.length = row := by
  unfold mergeRow
  by_cases c : mergeOk row k more = true
  · rw [if_pos c]
    unfold mergeOk at c
    exact (decide_eq_true_iff.1 c).2.2.2.2.1
  · rw [if_neg c]
    exact List.take_of_length_le (Nat.le_refl _)
theorem mergeTo_grows (known : List Int) (more L : List (List Int)) : ∀ n, Grows L (mergeTo known more L n).1
  | 0 => grows_refl L
  | n + 1 => grows_trans (mergeTo_grows known more L n) (grows_set (mergeRow_grows _ _ _))
theorem mergeL_grows (known : List Int) (more L : List (List Int)) : Grows L (mergeL known more L) := mergeTo_grows known more L 16
theorem addL_grows (L : List (List Int)) (d s : Int) : Grows L (addL L d s) := by
  unfold addL
  split
  · refine grows_set ?_
    show (rowS L d ++ [s]).take (rowS L d).length = rowS L d
    exact List.take_left
  · exact grows_refl L
theorem rowN_at (L : List (List Int)) {i : Nat} (h : i < 16) : rowN L ((i : Int) + 1) = L.getD i [] := by
  unfold rowN
  rw [if_pos (by omega), rowS]
  congr 1
theorem rowsrow_form {α : Type} {d : Kd α} {e e2 : Nat} {w0 W : World} {S : Nat → Prop} {Rs : List Res} {v : Value} {xss : List (List α)} (h : St w0 S W Rs) (i : Nat) (hi : Rs[i]? = some (Res.row (Kd.slice e d) e2 v xss)) (hn : 0 < xss.length) : ∃ g c, v = .slice (some ⟨g, 0, none⟩) xss.length c := by
  obtain ⟨ok, hR0⟩ := h.get i hi
  have hR : (Kd.slice e d).R e2 W 0 ok v xss := hR0
  obtain ⟨A, c, rfl⟩ := Kd.R_slice hR
  obtain ⟨g, c2, ev, _⟩ := Kd.R_form hR hn
  exact ⟨g, c2, ev⟩
theorem rowsrow_at {α : Type} {d : Kd α} {e e2 : Nat} {w0 W : World} {S : Nat → Prop} {Rs : List Res} {g n c : Nat} {xss : List (List α)} (h : St w0 S W Rs) (i : Nat) (hi : Rs[i]? = some (Res.row (Kd.slice e d) e2 (.slice (some ⟨g, 0, none⟩) n c) xss)) (j : Nat) (hj : j < xss.length) : ∃ B cb, W.cell? ⟨g, j, none⟩ = some (.slice B (xss.getD j []).length cb) ∧ (xss.getD j []).length ≤ cb ∧ d.C W B (xss.getD j []).length (xss.getD j []) := by
  obtain ⟨ok, hR0⟩ := h.get i hi
  have hR : (Kd.slice e d).R e2 W 0 ok (.slice (some ⟨g, 0, none⟩) n c) xss := hR0
  have h1 := (Kd.R_reads' hR).2.2
  obtain ⟨ad, B, cb, eA, hc, hl, hC⟩ := at_slice h1 j (by have := h1.1; omega)
  cases eA
  exact ⟨B, cb, by rw [add_plain] at hc; exact hc, hl, hC⟩
end Go.Proofs.Ytadkafhhkidecaa.P
