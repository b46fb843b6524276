/- Contracts, typed by hand and by a program: the law's does. -/
import Derived.Test.YtadkafhhkidecaaHCut11
set_option linter.unusedVariables false
set_option linter.unusedSimpArgs false
namespace Go.Proofs.Ytadkafhhkidecaa.P
open Go.RowKit Go.Proofs.YtadkafhhkidecaaW.PrintWords Go.Proofs.YtadkafhhkidecaaW.PrintLast Go.Proofs.YtadkafhhkidecaaW.PrintMore
theorem cell_blk {W : World} {g : Nat} {cs : Array Value} {t : TypeId} (h : W.heap[g]? = some (.cells cs t (0, 0))) (j : Nat) {v : Value} (hv : cs[j]? = some v) : W.cell? ⟨g, j, none⟩ = some v := by rw [blk_cell h]; exact hv
section
variable {w0 W : World} {S : Nat → Prop} {R0 R3 : Res} {gs gr : Nat} {L Lr : List (List Int)} {A1 A2 : Option Addr} {c1 c2 : Nat} {known : List Int} {more : List (List Int)}
/-- What a call of Merge reads. -/
def Reads2 (A1 : Option Addr) (known : List Int) (A2 : Option Addr) (more : List (List Int)) (w : World) : Prop := (Kd.int .i64).C w A1 known.length known ∧ (Kd.slice 3 (Kd.int .i64)).C w A2 more.length more
theorem mergeP_call (h : St w0 S W [R0, PSet gs L, RSet gr Lr, R3]) (hL : Good L) (hQ : ∀ W' ok ok', R0.P ok W' → R3.P ok' W' → Reads2 A1 known A2 more W') (hc1 : known.length ≤ c1) (hm : more.length ≤ c2 ∧ more.length ≤ 1000000 ∧ ∀ r ∈ more, r.length ≤ 1000000) :
    Calls Try.prog 20 #[.pointer (some ⟨gs, 0, none⟩), .slice A1 known.length c1, .slice A2 more.length c2] W fun e W' => e = .returned (.int .i64 (mergeN known more L)) ∧ St w0 S W' [R0, PSet gs (mergeL known more L), RSet gr Lr, R3] := by
  obtain ⟨ok, hP, hq, hback⟩ := h.lend 1 rfl (by decide) (Reads2 A1 known A2 more) (fun W' hW => by
    obtain ⟨o0, h0⟩ := hW 0 _ (by decide) rfl
    obtain ⟨o3, h3⟩ := hW 3 _ (by decide) rfl
    exact hQ W' _ _ h0 h3)
  exact (revset_Merge.calls gs L hL A1 c1 known A2 c2 more W ok hP (fun W' hk => (hq W' hk).1) hc1 (fun W' hk => (hq W' hk).2) hm.1 hm.2.1 hm.2.2).mono fun e W' hh => ⟨hh.1, hback hh.2⟩
theorem mergeR_call (h : St w0 S W [R0, PSet gs L, RSet gr Lr, R3]) (hL : Good Lr) (hQ : ∀ W' ok ok', R0.P ok W' → R3.P ok' W' → Reads2 A1 known A2 more W') (hc1 : known.length ≤ c1) (hm : more.length ≤ c2 ∧ more.length ≤ 1000000 ∧ ∀ r ∈ more, r.length ≤ 1000000) :
    Calls Try.prog 28 #[.pointer (some ⟨gr, 0, none⟩), .slice A1 known.length c1, .slice A2 more.length c2] W fun e W' => e = .returned (.int .i64 (mergeN known more Lr)) ∧ St w0 S W' [R0, PSet gs L, RSet gr (mergeL known more Lr), R3] := by
  obtain ⟨ok, hP, hq, hback⟩ := h.lend 2 rfl (by decide) (Reads2 A1 known A2 more) (fun W' hW => by
    obtain ⟨o0, h0⟩ := hW 0 _ (by decide) rfl
    obtain ⟨o3, h3⟩ := hW 3 _ (by decide) rfl
    exact hQ W' _ _ h0 h3)
  exact (ref_Merge.calls gr Lr hL A1 c1 known A2 c2 more W ok hP (fun W' hk => (hq W' hk).1) hc1 (fun W' hk => (hq W' hk).2) hm.1 hm.2.1 hm.2.2).mono fun e W' hh => ⟨hh.1, hback hh.2⟩
theorem addP_call (h : St w0 S W [R0, PSet gs L, RSet gr Lr, R3]) (hL : Good L) (d s : Int) :
    Calls Try.prog 21 #[.pointer (some ⟨gs, 0, none⟩), .agg #[.int .i64 d, .int .i64 s]] W fun e W' => e = .returned (.int .i64 (addN L d s)) ∧ St w0 S W' [R0, PSet gs (addL L d s), RSet gr Lr, R3] := by
  obtain ⟨ok, hP, _, hback⟩ := h.lend 1 rfl (by decide) (fun _ => True) (fun _ _ => trivial)
  exact (revset_Set_Add.all gs L hL d s W ok hP).mono fun e W' hh => ⟨hh.1, hback ⟨hh.2.1, hh.2.2⟩⟩
theorem addR_call (h : St w0 S W [R0, PSet gs L, RSet gr Lr, R3]) (hL : Good Lr) (d s : Int) :
    Calls Try.prog 29 #[.pointer (some ⟨gr, 0, none⟩), .agg #[.int .i64 d, .int .i64 s]] W fun e W' => e = .returned (.int .i64 (addN Lr d s)) ∧ St w0 S W' [R0, PSet gs L, RSet gr (addL Lr d s), R3] := by
  obtain ⟨ok, hP, _, hback⟩ := h.lend 2 rfl (by decide) (fun _ => True) (fun _ _ => trivial)
  exact (ref_Add.all gr Lr hL d s W ok hP).mono fun e W' hh => ⟨hh.1, hback hh.2⟩
theorem sep_blk {R0 R1 R2 B : Res} {b : Nat} {o : Obj} (h : St w0 S W [R0, R1, R2, Res.sep (Res.blk b o) B]) : W.heap[b]? = some o := by
  obtain ⟨ok, f, h1, _⟩ := h.get 3 rfl
  exact h1.2
end
/-- The deed's block, and its rows. -/
def SEPB (b : Nat) (kind d s : Int) (A1 : Option Addr) (n1 c1 : Nat) (A : Option Addr) (c : Nat) (m : List (List Int)) (W : World) (Fo : Nat → Prop) : Res := Res.sep (Res.blk b (.cells #[.int .i64 kind, .int .i64 d, .int .i64 s, .slice A1 n1 c1, .slice A m.length c] 33 (0, 0))) (Res.row (told (Kd.int .i64) 3 W Fo) 30 (.slice A m.length c) m)
set_option maxHeartbeats 4000000 in
theorem does_state {W w2 w3 : World} {S Fo : Nat → Prop} {gs gr b : Nat} {L Lr m : List (List Int)} {kind d s : Int} {A1 A2 A : Option Addr} {n0 n1 c1 n2 c2 c : Nat} (h : St W S W [Res.agree W Fo, PSet gs L, RSet gr Lr]) (hB : Below W.heap.size W w2)
    (hX : w2.heap[b]? = some (.cells #[.int .i64 kind, .int .i64 d, .int .i64 s, .slice A1 n0 c1, .slice A2 n2 c2] 33 (0, 0))) (hb : b = W.heap.size) (hR : (told (Kd.int .i64) 3 W Fo).R 30 w2 0 (fun k => b < k) (.slice A m.length c) m)
    (e3 : w3 = (((((w2.setCell ⟨b, 0, none⟩ (.int .i64 kind)).setCell ⟨b, 1, none⟩ (.int .i64 d)).setCell ⟨b, 2, none⟩ (.int .i64 s)).setCell ⟨b, 3, none⟩ (.slice A1 n1 c1)).setCell ⟨b, 4, none⟩ (.slice A m.length c)).drew) :
    St W S w3 [Res.agree W Fo, PSet gs L, RSet gr Lr, SEPB b kind d s A1 n1 c1 A c m W Fo] := by
  have hK : Keeps w2 w3 (fun k => k = b) := by
    rw [e3]
    have k1 := (Keeps.refl w2 (fun k => k = b)).set (p := ⟨b, 0, none⟩) (.inl rfl) (.int .i64 kind)
    have k2 := k1.set (p := ⟨b, 1, none⟩) (.inl rfl) (.int .i64 d)
    have k3 := k2.set (p := ⟨b, 2, none⟩) (.inl rfl) (.int .i64 s)
    have k4 := k3.set (p := ⟨b, 3, none⟩) (.inl rfl) (.slice A1 n1 c1)
    have k5 := k4.set (p := ⟨b, 4, none⟩) (.inl rfl) (.slice A m.length c)
    exact k5.drew
  have hB3 : Below W.heap.size W w3 := ((Keeps.of_below hB (fun _ => False)).then_ hK (fun k hk => .inr (by omega))).belowF
  have hX3 : w3.heap[b]? = some (.cells #[.int .i64 kind, .int .i64 d, .int .i64 s, .slice A1 n1 c1, .slice A m.length c] 33 (0, 0)) := by
    rw [e3]
    have h1 := blk_set hX 0 (.int .i64 kind)
    have h2 := blk_set h1 1 (.int .i64 d)
    have h3 := blk_set h2 2 (.int .i64 s)
    have h4 := blk_set h3 3 (.slice A1 n1 c1)
    have h5 := blk_set h4 4 (.slice A m.length c)
    exact h5
  refine h.add hB3 ⟨fun k => k = b, ⟨⟨by omega, rfl⟩, hX3⟩, ?_⟩
  exact Kd.R_mono (Kd.R_step hR (fun k hk hlt => hK.block k hlt (by omega))) (fun k hk => ⟨by omega, by omega⟩)
theorem St.drop_any {w0 W : World} {S : Nat → Prop} {R0 R1 R2 R3 : Res} (h : St w0 S W [R0, R1, R2, R3]) : St w0 S W [Res.any, R1, R2] := h.less fun i R' hi => by
  match i, hi with
  | 0, hi => cases hi; exact ⟨R0, rfl, fun _ _ => trivial⟩
  | 1, hi => cases hi; exact ⟨R1, rfl, fun _ hp => hp⟩
  | 2, hi => cases hi; exact ⟨R2, rfl, fun _ hp => hp⟩
theorem sepb_blk {w0 W W1 : World} {S Fo : Nat → Prop} {R0 R1 R2 : Res} {b : Nat} {m : List (List Int)} {kind d s : Int} {A1 A : Option Addr} {n1 c1 c : Nat} (h : St w0 S W1 [R0, R1, R2, SEPB b kind d s A1 n1 c1 A c m W Fo]) :
    W1.heap[b]? = some (.cells #[.int .i64 kind, .int .i64 d, .int .i64 s, .slice A1 n1 c1, .slice A m.length c] 33 (0, 0)) := sep_blk h
/-- What a deed makes of rows. -/
def stepL (kind d s : Int) (known : List Int) (more : List (List Int)) (L : List (List Int)) : List (List Int) := if kind = 1 then mergeL (known.take 20) (cutM more) L else addL L d s
theorem Good.step {L : List (List Int)} (h : Good L) (kind d s : Int) (known : List Int) (more : List (List Int)) : Good (stepL kind d s known more L) := by
  unfold stepL
  by_cases c : kind = 1
  · rw [if_pos c]; exact h.merge _ _ 16
  · rw [if_neg c]; exact h.add d s
end Go.Proofs.Ytadkafhhkidecaa.P
