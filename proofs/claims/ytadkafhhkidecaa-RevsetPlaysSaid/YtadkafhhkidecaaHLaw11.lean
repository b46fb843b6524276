/- What the laws of the sets share: the deeds that came in, and the calls on a state. -/
import Derived.Test.YtadkafhhkidecaaHLive11
set_option linter.unusedVariables false
set_option linter.unusedSimpArgs false
namespace Go.Proofs.YtadkafhhkidecaaW.PrintWords
open Go.RowKit
theorem St.sees {w0 W : World} {S : Nat → Prop} {Rs : List Res} {R : Res} (h : St w0 S W Rs) (i : Nat) (hi : Rs[i]? = some R) : ∃ ok, R.P ok W := h.get i hi
end Go.Proofs.YtadkafhhkidecaaW.PrintWords
namespace Go.Proofs.Ytadkafhhkidecaa.P
open Go.RowKit Go.Proofs.YtadkafhhkidecaaW.PrintWords Go.Proofs.YtadkafhhkidecaaW.PrintLast Go.Proofs.YtadkafhhkidecaaW.PrintMore
abbrev F33 (W : World) (Fo : Nat → Prop) (A : Option Addr) (xs : List S33) : Prop := Kd.F k33 W Fo A xs.length xs
theorem deed_at {W : World} {Fo : Nat → Prop} {A : Option Addr} {xs : List S33} (h : F33 W Fo A xs) (i : Nat) (hi : i < xs.length) : ∃ ad A3 c3 A4 c4, ∃ x : S33, A = some ad ∧ x ∈ xs ∧ W.cell? (ad.add (i * 5)) = some (.int .i64 x.f0) ∧ W.cell? ⟨(ad.add (i * 5)).block, (ad.add (i * 5)).off + 1, none⟩ = some (.int .i64 x.f1.f0) ∧ W.cell? ⟨(ad.add (i * 5)).block, (ad.add (i * 5)).off + 2, none⟩ = some (.int .i64 x.f1.f1) ∧ W.cell? ⟨(ad.add (i * 5)).block, (ad.add (i * 5)).off + 3, none⟩ = some (.slice A3 x.f2.length c3) ∧ W.cell? ⟨(ad.add (i * 5)).block, (ad.add (i * 5)).off + 4, none⟩ = some (.slice A4 x.f3.length c4) ∧ x.f2.length ≤ c3 ∧ x.f3.length ≤ c4 ∧ Kd.F (Kd.int .i64) W Fo A3 x.f2.length x.f2 ∧ Kd.F (Kd.slice 3 (Kd.int .i64)) W Fo A4 x.f3.length x.f3 := by
  obtain ⟨ad, c, e, _, hK, hc0, _⟩ := Kd.F_get h z33 (i : Int) (by omega) (by omega)
  rw [Int.toNat_natCast] at hK hc0
  have hc : ∀ j u, c[j]? = some u → W.cell? (ad.add (i * 5 + j)) = some u := hc0
  have hmem : xs.getD i z33 ∈ xs := by
    rw [List.getD_eq_getElem?_getD, List.getElem?_eq_getElem hi]
    exact List.getElem_mem hi
  obtain ⟨A3, c3, A4, c4, rfl, l3, g3, l4, g4⟩ := k33_openF hK
  exact ⟨ad, A3, c3, A4, c4, _, e, hmem, hc 0 _ rfl, by rw [← add_field _ _ 1 (by omega)]; exact hc 1 _ rfl, by rw [← add_field _ _ 2 (by omega)]; exact hc 2 _ rfl, by rw [← add_field _ _ 3 (by omega)]; exact hc 3 _ rfl, by rw [← add_field _ _ 4 (by omega)]; exact hc 4 _ rfl, l3, l4, g3, g4⟩
section
variable {w0 W w : World} {S Fo : Nat → Prop} {R0 : Res} {Rs : List Res} {gs gr g : Nat} {L Lr : List (List Int)} {A1 A2 : Option Addr} {c1 c2 : Nat} {known : List Int} {more : List (List Int)}
theorem reads2_F (h1 : Kd.F (Kd.int .i64) w Fo A1 known.length known) (h2 : Kd.F (Kd.slice 3 (Kd.int .i64)) w Fo A2 more.length more) : ∀ W' ok, (Res.agree w Fo).P ok W' → Reads2 A1 known A2 more W' := fun W' ok h => ⟨h1 W' h.2, h2 W' h.2⟩
theorem does_at (h : St w0 S W (R0 :: PSet gs L :: RSet gr L :: Rs)) (hL : Good L) (kind d s : Int) (hc1 : known.length ≤ c1) (hc2 : more.length ≤ c2) (hQ : ∀ W' ok, R0.P ok W' → Reads2 A1 known A2 more W') :
    Calls Try.prog 10 #[.pointer (some ⟨gs, 0, none⟩), .pointer (some ⟨gr, 0, none⟩), .agg #[.int .i64 kind, .int .i64 d, .int .i64 s, .slice A1 known.length c1, .slice A2 more.length c2]] W fun e W' =>
      e = .returned (.bool true) ∧ St w0 S W' (R0 :: PSet gs (stepL kind d s known more L) :: RSet gr (stepL kind d s known more L) :: Rs) := by
  obtain ⟨S1, h1, hback⟩ := h.call2 1 2 rfl rfl (by decide) (by decide) (by decide) (Reads2 A1 known A2 more) (fun W' hW => (hW 0 R0 (by decide) (by decide) rfl).elim fun ok hp => hQ W' ok hp)
  refine (does.calls gs gr L hL kind d s A1 c1 known A2 c2 more W S1 _ hc1 hc2 h1 (fun _ h => h)).mono fun e W' hh => ⟨hh.1, ?_⟩
  have := hback (news := []) hh.2
  rwa [List.append_nil] at this
theorem like_at (h : St w0 S W (R0 :: PSet gs L :: RSet gr L :: Rs)) (hL : Good L) :
    Calls Try.prog 11 #[.pointer (some ⟨gs, 0, none⟩), .pointer (some ⟨gr, 0, none⟩)] W fun e W' => e = .returned (.bool true) ∧ St w0 S W' (R0 :: PSet gs L :: RSet gr L :: Rs) := by
  obtain ⟨ok, hp⟩ := h.get 1 rfl
  obtain ⟨ok', hr⟩ := h.get 2 rfl
  exact (like.calls gs gr L hL W ok ok' hp hr).mono fun e W' hh => ⟨hh.1, h.on hh.2⟩
theorem lives_at (h : St w0 S W Rs) : Calls Try.prog 14 #[] W fun e W' => e = .returned (.bool true) ∧ St w0 S W' Rs := (lives.calls W).mono fun e W' hh => ⟨hh.1, h.on hh.2⟩
theorem hasP_at (h : St w0 S W Rs) (i : Nat) (hi : Rs[i]? = some (PSet g L)) (hL : Good L) (d s : Int) :
    Calls Try.prog 12 #[.pointer (some ⟨g, 0, none⟩), .agg #[.int .i64 d, .int .i64 s]] W fun e W' => e = .returned (.bool (hasS L d s)) ∧ St w0 S W' Rs := by
  obtain ⟨ok, hp⟩ := h.get i hi
  exact (revset_Set_Has.all g L hL d s W ok hp).mono fun e W' hh => ⟨hh.1, h.on hh.2⟩
theorem hasR_at (h : St w0 S W Rs) (i : Nat) (hi : Rs[i]? = some (RSet g L)) (hL : Good L) (d s : Int) :
    Calls Try.prog 13 #[.pointer (some ⟨g, 0, none⟩), .agg #[.int .i64 d, .int .i64 s]] W fun e W' => e = .returned (.bool (hasS L d s)) ∧ St w0 S W' Rs := by
  obtain ⟨ok, hp⟩ := h.get i hi
  exact (ref_Has.all g L hL d s W ok hp).mono fun e W' hh => ⟨hh.1, h.on hh.2⟩
theorem newP_at (h : St w0 S W Rs) : Calls Try.prog 8 #[] W fun e W' => ∃ g, e = .returned (.pointer (some ⟨g, 0, none⟩)) ∧ St w0 S W' (Rs ++ [PSet g lv0]) :=
  (revset_New.calls W).mono fun e W' ⟨g, h1, h2, h3⟩ => ⟨g, h1, h.add h3 h2⟩
theorem newR_at (h : St w0 S W Rs) : Calls Try.prog 9 #[] W fun e W' => ∃ g, e = .returned (.pointer (some ⟨g, 0, none⟩)) ∧ St w0 S W' (Rs ++ [RSet g lv0]) :=
  (ref_New.calls W).mono fun e W' ⟨g, h1, h2, h3⟩ => ⟨g, h1, h.add h3 h2⟩
theorem copyP_at (h : St w0 S W Rs) (i : Nat) (hi : Rs[i]? = some (PSet g L)) (hL : Good L) : Calls Try.prog 26 #[.pointer (some ⟨g, 0, none⟩)] W fun e W' => ∃ g2, e = .returned (.pointer (some ⟨g2, 0, none⟩)) ∧ St w0 S W' (Rs ++ [PSet g2 L]) := by
  obtain ⟨ok, hp⟩ := h.get i hi
  exact (revset_Copy.calls g L hL W ok hp).mono fun e W' ⟨g2, h1, h2, h3⟩ => ⟨g2, h1, h.add h3 h2⟩
/-- A row that is new: read only. -/
def RowAt (w0 : World) (S : Nat → Prop) (Rs : List Res) (l : List Int) (e : Ending) (W' : World) : Prop := ∃ A c, e = .returned (.slice A l.length c) ∧ l.length ≤ c ∧ (Kd.int .i64).C W' A l.length l ∧ St w0 S W' (Rs ++ [Res.row (Kd.int .i64) 3 (.slice A l.length c) l])
theorem rowP_at (h : St w0 S W Rs) (i : Nat) (hi : Rs[i]? = some (PSet g L)) (hL : Good L) (d : Int) :
    Calls Try.prog 18 #[.pointer (some ⟨g, 0, none⟩), .int .i64 d] W (RowAt w0 S Rs (rowN L d)) := by
  obtain ⟨ok, hp⟩ := h.get i hi
  refine (revset_Set_Row.all g L hL d W ok hp).mono fun e W' ⟨v, h1, h2, h3⟩ => ?_
  obtain ⟨A, c, ev⟩ := Kd.R_slice h2
  subst ev
  have h4 := Kd.R_reads' h2
  exact ⟨A, c, h1, h4.2.1, h4.2.2, h.add h3 h2⟩
theorem vecP_at (h : St w0 S W Rs) (i : Nat) (hi : Rs[i]? = some (PSet g L)) (hL : Good L) :
    Calls Try.prog 25 #[.pointer (some ⟨g, 0, none⟩)] W fun e W' => ∃ A c, e = .returned (.slice A (vectorS L).length c) ∧ (vectorS L).length ≤ c ∧ St w0 S W' (Rs ++ [Res.view (fun w => (Kd.int .i64).C w A (vectorS L).length (vectorS L))]) := by
  obtain ⟨ok, hp⟩ := h.get i hi
  refine (revset_Set_Vector.calls g L hL W ok hp).mono fun e W' ⟨v, h1, h2, h3⟩ => ?_
  obtain ⟨A, c, rfl, hl, hf⟩ := h2
  exact ⟨A, c, h1, hl, h.add h3 hf⟩
theorem deltaP_at (h : St w0 S W Rs) (i : Nat) (hi : Rs[i]? = some (PSet g L)) (hL : Good L) (hK : (Kd.int .i64).C W A1 known.length known) (hc1 : known.length ≤ c1) :
    Calls Try.prog 16 #[.pointer (some ⟨g, 0, none⟩), .slice A1 known.length c1] W fun e W' => ∃ A c, e = .returned (.slice A (deltaS L known).length c) ∧ (deltaS L known).length ≤ c ∧ St w0 S W' (Rs ++ [Res.row (Kd.slice 3 (Kd.int .i64)) 30 (.slice A (deltaS L known).length c) (deltaS L known)]) := by
  obtain ⟨ok, hp⟩ := h.get i hi
  refine (revset_Delta.calls g L hL A1 c1 known W ok hp hK hc1).mono fun e W' ⟨v, h1, h2, h3⟩ => ?_
  obtain ⟨A, c, ev⟩ := Kd.R_slice h2
  subst ev
  have h4 := Kd.R_reads' h2
  exact ⟨A, c, h1, h4.2.1, h.add h3 h2⟩
theorem addP_at (h : St w0 S W Rs) (i : Nat) (hi : Rs[i]? = some (PSet g L)) (h0 : i ≠ 0) (hL : Good L) (d s : Int) :
    Calls Try.prog 21 #[.pointer (some ⟨g, 0, none⟩), .agg #[.int .i64 d, .int .i64 s]] W fun e W' => e = .returned (.int .i64 (addN L d s)) ∧ St w0 S W' (Rs.set i (PSet g (addL L d s))) := by
  obtain ⟨ok, hP, _, hback⟩ := h.lend i hi h0 (fun _ => True) (fun _ _ => trivial)
  exact (revset_Set_Add.all g L hL d s W ok hP).mono fun e W' hh => ⟨hh.1, hback ⟨hh.2.1, hh.2.2⟩⟩
theorem mergeP_at (h : St w0 S W Rs) (i : Nat) (hi : Rs[i]? = some (PSet g L)) (h0 : i ≠ 0) (hL : Good L) (hQ : ∀ W', (∀ (j : Nat) (Rj : Res), j ≠ i → Rs[j]? = some Rj → ∃ ok, Rj.P ok W') → Reads2 A1 known A2 more W') (hc1 : known.length ≤ c1) (hm : more.length ≤ c2 ∧ more.length ≤ 1000000 ∧ ∀ r ∈ more, r.length ≤ 1000000) :
    Calls Try.prog 20 #[.pointer (some ⟨g, 0, none⟩), .slice A1 known.length c1, .slice A2 more.length c2] W fun e W' => e = .returned (.int .i64 (mergeN known more L)) ∧ St w0 S W' (Rs.set i (PSet g (mergeL known more L))) := by
  obtain ⟨ok, hP, hq, hback⟩ := h.lend i hi h0 (Reads2 A1 known A2 more) hQ
  exact (revset_Merge.calls g L hL A1 c1 known A2 c2 more W ok hP (fun W' hk => (hq W' hk).1) hc1 (fun W' hk => (hq W' hk).2) hm.1 hm.2.1 hm.2.2).mono fun e W' hh => ⟨hh.1, hback hh.2⟩
end
theorem heap_deed : Kd.Heap k33 := Kd.heap_iso _ (Kd.heap_pair (Kd.heap_int _) (Kd.heap_pair (Kd.heap_iso _ (Kd.heap_pair (Kd.heap_int _) (Kd.heap_int _))) (Kd.heap_pair (Kd.heap_slice _ (Kd.heap_int _)) (Kd.heap_slice _ (Kd.heap_slice _ (Kd.heap_int _))))))
/-- The state of a law that begins. -/
theorem law_st {w : World} {A0 : Option Addr} {l0 : List S33} (h : Kd.C k33 w A0 l0.length l0) : ∃ Fo, F33 w Fo A0 l0 ∧ St w (fun _ => False) w [Res.agree w Fo] := by
  obtain ⟨Fo, _, hF, hst⟩ := St.freeze (St.mk0 w (fun _ => False) (Q := fun W => Kd.C k33 W A0 l0.length l0) (Foot.mono (Kd.C_F heap_deed h) (fun k _ hf => hf)))
  exact ⟨Fo, hF, hst⟩
theorem law_stQ {w : World} {Q : World → Prop} (h : Foot Q w (fun k => k < w.heap.size)) : ∃ Fo, Foot Q w Fo ∧ St w (fun _ => False) w [Res.agree w Fo] := by
  obtain ⟨Fo, _, hF, hst⟩ := St.freeze (St.mk0 w (fun _ => False) (Q := Q) (Foot.mono h (fun k _ hf => hf)))
  exact ⟨Fo, hF, hst⟩
/-- Deeds and one row of numbers. -/
theorem law_st2 {w : World} {A0 A1 : Option Addr} {l0 : List S33} {l1 : List Int} (h : Kd.C k33 w A0 l0.length l0) (h1 : Kd.C (Kd.int .i64) w A1 l1.length l1) : ∃ Fo, F33 w Fo A0 l0 ∧ Kd.F (Kd.int .i64) w Fo A1 l1.length l1 ∧ St w (fun _ => False) w [Res.agree w Fo] := by
  have f1 := Kd.C_F heap_deed h
  have f2 := Kd.C_F (Kd.heap_int .i64) h1
  obtain ⟨Fo, hF, hst⟩ := law_stQ (w := w) (Q := fun W => Kd.C k33 W A0 l0.length l0 ∧ Kd.C (Kd.int .i64) W A1 l1.length l1) (fun W' hW => ⟨f1 W' hW, f2 W' hW⟩)
  exact ⟨Fo, Foot.imp hF (fun _ h => h.1), Foot.imp hF (fun _ h => h.2), hst⟩
theorem F_take20 {W : World} {Fo : Nat → Prop} {A : Option Addr} {l : List Int} (h : Kd.F (Kd.int .i64) W Fo A l.length l) : Kd.F (Kd.int .i64) W Fo A (l.take 20).length (l.take 20) := by
  by_cases h20 : 20 ≤ l.length
  · exact Kd.F_take h h20
  · rw [List.take_of_length_le (by omega)]; exact h
theorem deltaS_len (L : List (List Int)) (known : List Int) : (deltaS L known).length ≤ 16 := by
  have h := deltaTo_length L known 16
  have := lastNe_le L known 16
  unfold deltaTo at h
  unfold deltaS
  omega
theorem deltaS_rows {L : List (List Int)} (hL : Good L) (known : List Int) : ∀ r ∈ deltaS L known, r.length ≤ 32 := fun r hr => by
  have h1 := List.mem_of_mem_take hr
  obtain ⟨i, _, rfl⟩ := List.mem_map.1 h1
  unfold partS
  rw [List.length_drop]
  have := hL.len i
  omega
/-- The parts that a set tells and that the document's set tells, held against each other. -/
theorem deltas_at {w0 W : World} {S : Nat → Prop} {Rs : List Res} {gs : Nat} {L : List (List Int)} {A1 : Option Addr} {c1 : Nat} {known : List Int} (h : St w0 S W Rs) (i : Nat) (hi : Rs[i]? = some (PSet gs L)) (hL : Good L) (hK : (Kd.int .i64).C W A1 known.length known) (hc1 : known.length ≤ c1) :
    Calls Try.prog 16 #[.pointer (some ⟨gs, 0, none⟩), .slice A1 known.length c1] W fun e W' => ∃ A c, e = .returned (.slice A (deltaS L known).length c) ∧ (deltaS L known).length ≤ c ∧ (Kd.slice 3 (Kd.int .i64)).C W' A (deltaS L known).length (deltaS L known) ∧ Below W.heap.size W W' ∧ St w0 S W' Rs := by
  obtain ⟨ok, hp⟩ := h.get i hi
  refine (revset_Delta.calls gs L hL A1 c1 known W ok hp hK hc1).mono fun e W' ⟨v, h1, h2, h3⟩ => ?_
  obtain ⟨A, c, ev⟩ := Kd.R_slice h2
  subst ev
  have h4 := Kd.R_reads' h2
  exact ⟨A, c, h1, h4.2.1, h4.2.2, h3, h.on h3⟩
theorem deltasR_at {w0 W : World} {S : Nat → Prop} {Rs : List Res} {gs : Nat} {L : List (List Int)} {A1 : Option Addr} {c1 : Nat} {known : List Int} (h : St w0 S W Rs) (i : Nat) (hi : Rs[i]? = some (RSet gs L)) (hL : Good L) (hK : (Kd.int .i64).C W A1 known.length known) (hc1 : known.length ≤ c1) :
    Calls Try.prog 17 #[.pointer (some ⟨gs, 0, none⟩), .slice A1 known.length c1] W fun e W' => ∃ A c, e = .returned (.slice A (deltaS L known).length c) ∧ (deltaS L known).length ≤ c ∧ (Kd.slice 3 (Kd.int .i64)).C W' A (deltaS L known).length (deltaS L known) ∧ Below W.heap.size W W' ∧ St w0 S W' Rs := by
  obtain ⟨ok, hp⟩ := h.get i hi
  exact (ref_Delta.calls gs L hL A1 c1 known W ok hp hK hc1).mono fun e W' ⟨A, c, h1, h2, h3, h4⟩ => ⟨A, c, h1, h2, h3, h4, h.on h4⟩
theorem agree_of {w W w0 : World} {S Fo : Nat → Prop} {Rs : List Res} (h : St w0 S W (Res.agree w Fo :: Rs)) : Agree w Fo W := (h.get 0 rfl).elim fun ok hp => hp.2
end Go.Proofs.Ytadkafhhkidecaa.P
