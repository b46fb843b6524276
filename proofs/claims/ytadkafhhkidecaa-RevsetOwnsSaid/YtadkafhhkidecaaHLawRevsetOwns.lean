/- A law: a set keeps what it holds to itself. -/
import Derived.Test.YtadkafhhkidecaaHLaw11
set_option linter.unusedVariables false
set_option linter.unusedSimpArgs false
namespace Go.Proofs.Ytadkafhhkidecaa.P
open Go.RowKit Go.Proofs.YtadkafhhkidecaaW.PrintWords Go.Proofs.YtadkafhhkidecaaW.PrintLast Go.Proofs.YtadkafhhkidecaaW.PrintMore
/-! Rows whose numbers are written over: their shape alone is told. -/
/-- A row of n cells in a block of its own. -/
def Pad (A : Option Addr) (n : Nat) : Res where
  P := fun ok W => n = 0 ∨ ∃ g, A = some ⟨g, 0, none⟩ ∧ ok g ∧ ∃ ds t, W.heap[g]? = some (.cells ds t (0, 0)) ∧ n ≤ ds.size
  mono := fun hok h => h.imp id (fun ⟨g, h1, h2, h3⟩ => ⟨g, h1, hok g h2, h3⟩)
  step := fun h hm => h.imp id (fun ⟨g, h1, h2, ds, t, h3, h4⟩ => ⟨g, h1, h2, ds, t, (hm g h2 (blk_lt h3)).trans h3, h4⟩)
  bound := fun h => h.imp id (fun ⟨g, h1, h2, ds, t, h3, h4⟩ => ⟨g, h1, ⟨h2, blk_lt h3⟩, ds, t, h3, h4⟩)
/-- Rows of rows. -/
def Hull (A : Option Addr) (n : Nat) (lens : Nat → Nat) : Res where
  P := fun ok W => n = 0 ∨ ∃ g, A = some ⟨g, 0, none⟩ ∧ ok g ∧ ∃ cs t, W.heap[g]? = some (.cells cs t (0, 0)) ∧ ∀ i, i < n → ∃ B c, cs[i]? = some (.slice B (lens i) c) ∧ (lens i = 0 ∨ ∃ gi, B = some ⟨gi, 0, none⟩ ∧ ok gi ∧ gi ≠ g ∧ ∃ ds t, W.heap[gi]? = some (.cells ds t (0, 0)) ∧ lens i ≤ ds.size)
  mono := fun hok h => h.imp id (fun ⟨g, h1, h2, cs, t, h3, h4⟩ => ⟨g, h1, hok g h2, cs, t, h3, fun i hi => (h4 i hi).imp fun B hB => hB.imp fun c hc => ⟨hc.1, hc.2.imp id (fun ⟨gi, h5, h6, h7, h8⟩ => ⟨gi, h5, hok gi h6, h7, h8⟩)⟩⟩)
  step := fun h hm => h.imp id (fun ⟨g, h1, h2, cs, t, h3, h4⟩ => ⟨g, h1, h2, cs, t, (hm g h2 (blk_lt h3)).trans h3, fun i hi => (h4 i hi).imp fun B hB => hB.imp fun c hc => ⟨hc.1, hc.2.imp id (fun ⟨gi, h5, h6, h7, ds, t2, h8, h9⟩ => ⟨gi, h5, h6, h7, ds, t2, (hm gi h6 (blk_lt h8)).trans h8, h9⟩)⟩⟩)
  bound := fun h => h.imp id (fun ⟨g, h1, h2, cs, t, h3, h4⟩ => ⟨g, h1, ⟨h2, blk_lt h3⟩, cs, t, h3, fun i hi => (h4 i hi).imp fun B hB => hB.imp fun c hc => ⟨hc.1, hc.2.imp id (fun ⟨gi, h5, h6, h7, ds, t2, h8, h9⟩ => ⟨gi, h5, ⟨h6, blk_lt h8⟩, h7, ds, t2, h8, h9⟩)⟩⟩)
theorem row_block {W : World} {ok : Nat → Prop} {A : Option Addr} {n c : Nat} {l : List Int} (h : (Kd.int .i64).R 3 W 0 ok (.slice A n c) l) : n = 0 ∨ ∃ g, A = some ⟨g, 0, none⟩ ∧ ok g ∧ ∃ ds t, W.heap[g]? = some (.cells ds t (0, 0)) ∧ n ≤ ds.size := by
  have hn := (Kd.R_reads' h).1
  by_cases h0 : n = 0
  · exact .inl h0
  obtain ⟨g, cap, ev, _, _, cells, hb⟩ := Kd.R_form h (by omega)
  injection ev with e1 e2 e3
  subst e1
  refine .inr ⟨g, rfl, h.1 g rfl, cells, _, hb, ?_⟩
  subst hn
  have h1 := (Kd.R_cell (0 : Int) h ((l.length : Int) - 1) (by omega) (by omega)).1
  rw [show ((l.length : Int) - 1).toNat = l.length - 1 by omega, blk_cell hb] at h1
  have := (Array.getElem?_eq_some_iff.1 h1).1
  omega
theorem pad_of_row {W : World} {ok : Nat → Prop} {A : Option Addr} {n c : Nat} {l : List Int} (h : (Res.row (Kd.int .i64) 3 (.slice A n c) l).P ok W) : (Pad A n).P ok W := row_block h
theorem hull_of_rows {W : World} {ok : Nat → Prop} {A : Option Addr} {n c : Nat} {m : List (List Int)} (h : (Res.row (Kd.slice 3 (Kd.int .i64)) 30 (.slice A n c) m).P ok W) : (Hull A n (fun i => (m.getD i []).length)).P ok W := by
  have h' : (Kd.slice 3 (Kd.int .i64)).R 30 W 0 ok (.slice A n c) m := h
  have hn := (Kd.R_reads' h').1
  by_cases h0 : n = 0
  · exact .inl h0
  obtain ⟨g, cap, ev, _, _, cells, hb⟩ := Kd.R_form h' (by omega)
  injection ev with e1 e2 e3
  subst e1
  refine .inr ⟨g, rfl, h'.1 g rfl, cells, _, hb, fun i hi => ?_⟩
  obtain ⟨cc, hcl, hM, hcc, _⟩ := Kd.R_elem h' [] (i : Int) (by omega) (by omega)
  rw [Int.toNat_natCast] at hM hcc
  obtain ⟨u, rfl, hR⟩ := hM
  obtain ⟨B, cb, rfl⟩ := Kd.R_slice hR
  have h1 := hcc 0 _ rfl
  have e3 : i * (Kd.slice 3 (Kd.int .i64)).sz + 0 = i := Nat.mul_one i
  rw [e3, blk_cell hb] at h1
  refine ⟨B, cb, h1, (row_block hR).imp id (fun ⟨gi, h2, h3, h4⟩ => ⟨gi, h2, h3.1, fun e => h3.2 (by rw [e]), h4⟩)⟩
section
variable {w0 W : World} {S : Nat → Prop} {Rs : List Res} {A : Option Addr} {n : Nat} {lens : Nat → Nat}
theorem set_same {Rs : List Res} {i : Nat} {R : Res} (hi : Rs[i]? = some R) : Rs.set i R = Rs := by
  apply List.ext_getElem?
  intro k
  by_cases e : i = k
  · subst e
    rw [List.getElem?_set_self (List.getElem?_eq_some_iff.1 hi).1, hi]
  · rw [List.getElem?_set_ne e]
/-- One number of a row is written. -/
theorem pad_at (h : St w0 S W Rs) (i : Nat) (hi : Rs[i]? = some (Pad A n)) (h0 : i ≠ 0) (j : Nat) (hj : j < n) : ∃ g v, A = some ⟨g, 0, none⟩ ∧ W.cell? ⟨g, j, none⟩ = some v ∧ W.frozen? ⟨g, j, none⟩ = false ∧ ∀ u, St w0 S (W.setCell ⟨g, j, none⟩ u) Rs := by
  obtain ⟨ok, hP, hback⟩ := h.write i hi h0
  obtain h1 | ⟨g, h1, h2, ds, t, h3, h4⟩ := (show n = 0 ∨ _ from hP)
  · omega
  refine ⟨g, ds[j], h1, by rw [blk_cell h3]; exact Array.getElem?_eq_getElem (by omega), blk_frozen h3 j, fun u => ?_⟩
  have := hback (W' := W.setCell ⟨g, j, none⟩ u) (R' := Pad A n) ((Keeps.of_set W _ u).mono (fun k _ hk => by rw [hk]; exact h2)) (.inr ⟨g, h1, .inl h2, _, t, blk_set h3 j u, by simpa using h4⟩)
  rwa [set_same hi] at this
/-- One number of a row of rows. -/
theorem hull_cell (h : St w0 S W Rs) (i : Nat) (hi : Rs[i]? = some (Hull A n lens)) (j : Nat) (hj : j < n) : ∃ g B c, A = some ⟨g, 0, none⟩ ∧ W.cell? ⟨g, j, none⟩ = some (.slice B (lens j) c) := by
  obtain ⟨ok, hP⟩ := h.get i hi
  obtain h1 | ⟨g, h1, h2, cs, t, h3, h4⟩ := (show n = 0 ∨ _ from hP)
  · omega
  obtain ⟨B, c, h5, _⟩ := h4 j hj
  exact ⟨g, B, c, h1, by rw [blk_cell h3]; exact h5⟩
theorem hull_at (h : St w0 S W Rs) (i : Nat) (hi : Rs[i]? = some (Hull A n lens)) (h0 : i ≠ 0) (j q : Nat) (hj : j < n) (hq : q < lens j) : ∃ g gi c v, A = some ⟨g, 0, none⟩ ∧ W.cell? ⟨g, j, none⟩ = some (.slice (some ⟨gi, 0, none⟩) (lens j) c) ∧ W.cell? ⟨gi, q, none⟩ = some v ∧ W.frozen? ⟨gi, q, none⟩ = false ∧ ∀ u, St w0 S (W.setCell ⟨gi, q, none⟩ u) Rs := by
  obtain ⟨ok, hP, hback⟩ := h.write i hi h0
  obtain h1 | ⟨g, h1, h2, cs, t, h3, h4⟩ := (show n = 0 ∨ _ from hP)
  · omega
  obtain ⟨B, c, h5, h6⟩ := h4 j hj
  obtain h6 | ⟨gi, h6, h7, h8, ds, t2, h9, h10⟩ := h6
  · omega
  subst h6
  refine ⟨g, gi, c, ds[q], h1, by rw [blk_cell h3]; exact h5, by rw [blk_cell h9]; exact Array.getElem?_eq_getElem (by omega), blk_frozen h9 q, fun u => ?_⟩
  have hg : (W.setCell ⟨gi, q, none⟩ u).heap[g]? = some (.cells cs t (0, 0)) := (Below.heap_setCell W ⟨gi, q, none⟩ u g (fun e => h8 e.symm)).trans h3
  have := hback (W' := W.setCell ⟨gi, q, none⟩ u) (R' := Hull A n lens) ((Keeps.of_set W _ u).mono (fun k _ hk => by rw [hk]; exact h7)) (.inr ⟨g, h1, .inl h2, cs, t, hg, fun i2 hi2 => ?_⟩)
  · rwa [set_same hi] at this
  · obtain ⟨B2, c2, h11, h12⟩ := h4 i2 hi2
    refine ⟨B2, c2, h11, h12.imp id (fun ⟨g2, h13, h14, h15, ds2, t3, h16, h17⟩ => ⟨g2, h13, .inl h14, h15, ?_⟩)⟩
    by_cases e : g2 = gi
    · subst e
      rw [h9] at h16
      cases h16
      exact ⟨_, t2, blk_set h9 q u, by simpa using h17⟩
    · exact ⟨ds2, t3, (Below.heap_setCell W ⟨gi, q, none⟩ u g2 e).trans h16, h17⟩
end
/-- What the deeds make of rows, from the first to number n. -/
def stepD (x : S33) (L : List (List Int)) : List (List Int) := stepL x.f0 x.f1.f0 x.f1.f1 x.f2 x.f3 L
def runs (l : List S33) : Nat → List (List Int)
  | 0 => lv0
  | n + 1 => stepD (l.getD n z33) (runs l n)
theorem runs_good (l : List S33) : ∀ n, Good (runs l n)
  | 0 => lv0_good
  | n + 1 => (runs_good l n).step _ _ _ _ _
theorem cutM_again (m : List (List Int)) : cutM (cutM m) = cutM m := by
  unfold cutM
  rw [← List.map_take, List.take_take, Nat.min_self, List.map_map]
  exact List.map_congr_left fun l _ => by simp [List.take_take]
theorem stepL_again (kind d s : Int) (kn : List Int) (m : List (List Int)) (L : List (List Int)) : stepL kind d s (kn.take 20) (cutM m) L = stepL kind d s kn m L := by
  unfold stepL
  rw [List.take_take, Nat.min_self, cutM_again]
theorem St.drops {w0 W : World} {S : Nat → Prop} {Rs Xs : List Res} (h : St w0 S W (Rs ++ Xs)) : St w0 S W Rs := h.less fun i R' hi => ⟨R', by
  rw [List.getElem?_append_left (List.getElem?_eq_some_iff.1 hi).1]; exact hi, fun _ hp => hp⟩
theorem sepb_C {w w0 W1 : World} {S Fo : Nat → Prop} {Rs : List Res} {b : Nat} {m : List (List Int)} {kind d s : Int} {A1 A : Option Addr} {n1 c1 c : Nat} (h : St w0 S W1 (Res.agree w Fo :: Rs)) (i : Nat) (hi : (Res.agree w Fo :: Rs)[i]? = some (SEPB b kind d s A1 n1 c1 A c m w Fo)) : (Kd.slice 3 (Kd.int .i64)).C W1 A m.length m := by
  obtain ⟨ok, f, _, h2⟩ := h.get i hi
  exact told_C (Kd.R_reads' h2).2.2 (agree_of h)
/-- Deeds, twice. -/
theorem law_st4 {w : World} {A0 A1 : Option Addr} {l0 l1 : List S33} (h : Kd.C k33 w A0 l0.length l0) (h1 : Kd.C k33 w A1 l1.length l1) : ∃ Fo : Nat → Prop, (∀ k, Fo k → k < w.heap.size) ∧ F33 w Fo A0 l0 ∧ F33 w Fo A1 l1 ∧ St w (fun _ => False) w [Res.agree w Fo] := by
  have f1 := Kd.C_F heap_deed h
  have f2 := Kd.C_F heap_deed h1
  obtain ⟨Fo, hb, hF, hst⟩ := St.freeze (St.mk0 w (fun _ => False) (Q := fun W => Kd.C k33 W A0 l0.length l0 ∧ Kd.C k33 W A1 l1.length l1) (Foot.mono (ok := fun k => k < w.heap.size) (fun W' hW => ⟨f1 W' hW, f2 W' hW⟩) (fun k _ hf => hf)))
  exact ⟨Fo, hb, Foot.imp hF (fun _ h => h.1), Foot.imp hF (fun _ h => h.2), hst⟩
set_option maxHeartbeats 32000000 in
set_option maxRecDepth 100000 in
theorem liverylaw11_RevsetOwns.walk (A0 : Option Addr) (c0 : Nat) (l0 : List S33) (A1 : Option Addr) (c1 : Nat) (l1 : List S33) (w : World) (w0 : l0.length ≤ maxLen ∧ l0.length * 72 ≤ 140737488351232 ∧ ∀ x ∈ l0, q33 x) (hr0 : Kd.C k33 w A0 l0.length l0) (hc0 : l0.length ≤ c0) (w1 : l1.length ≤ maxLen ∧ l1.length * 72 ≤ 140737488351232 ∧ ∀ x ∈ l1, q33 x) (hr1 : Kd.C k33 w A1 l1.length l1) (hc1 : l1.length ≤ c1) :
    Calls Try.prog 7 #[.slice A0 l0.length c0, .slice A1 l1.length c1] w fun e w' => e = .returned (.bool true) ∧ Below w.heap.size w w' := by
  obtain ⟨Fo, hFo, hF, hF1, hst⟩ := law_st4 hr0 hr1
  have HF := Aside0.mk hF
  have HF1 := Aside0.mk hF1
  have HFO := Aside0.mk hFo
  have HST := Aside0.mk hst
  have hml := w0.2.1
  have hml1 := w1.2.1
  have hu1 := Try.underlying33
  have hu2 := Try.underlying29
  obtain ⟨N, hN1, hN2, hN3⟩ : ∃ N, N ≤ l0.length ∧ N ≤ 30 ∧ (N = l0.length ∨ (N = 30 ∧ N < l0.length)) := by
    by_cases h : l0.length ≤ 30
    · exact ⟨l0.length, by omega, h, .inl rfl⟩
    · exact ⟨30, by omega, by omega, .inr ⟨rfl, by omega⟩⟩
  clear hF hF1 hst w0 w1 hr0 hr1 hFo
  go_enter Try.func7, Try.ntmps7
  go_wp2_with fail
  refine (newP_at HST.out).mono ?_
  rintro e v1 ⟨gs, rfl, h1⟩
  have HST1 := Aside0.mk h1
  clear h1
  go_wp2_with fail
  refine (newR_at HST1.out).mono ?_
  rintro e v2 ⟨gr, rfl, h2⟩
  have HST2 := Aside0.mk (show St w (fun _ => False) v2 [Res.agree w Fo, PSet gs (runs l0 0), RSet gr (runs l0 0)] from h2)
  clear h2
  go_wp2_with fail
  go_loopw [7] (fun s7 wr => ∃ i : Nat, i ≤ N ∧ True ∧ s7 = .int .i64 (i : Int) ∧ Aside0 (St w (fun _ => False) wr [Res.agree w Fo, PSet gs (runs l0 i), RSet gr (runs l0 i)])) (fun s7 _ => (31 - (intOf s7).toNat))
  case atStart => exact ⟨0, by omega, trivial, rfl, HST2⟩
  case round =>
    obtain ⟨i, hi, _, rfl, HSR⟩ := hrel
    clear HST HST1 HST2
    by_cases hiN : i < N
    · have hlt : i < l0.length := by omega
      have b1 : decide ((i : Int) < (l0.length : Int)) = true := decide_eq_true (by omega)
      have b2 : decide ((i : Int) < 30) = true := decide_eq_true (by omega)
      obtain ⟨ad, A3, c3, A4, c4, x, eA, hx, hx0, hx1, hx2, hx3, hx4, l3, l4, g3, g4⟩ := deed_at HF.out i hlt
      subst eA
      obtain ⟨k, d, s, kn0, mo, e0, e1, e2, e3, e4⟩ : ∃ k d s kn mo, x.f0 = k ∧ x.f1.f0 = d ∧ x.f1.f1 = s ∧ x.f2 = kn ∧ x.f3 = mo := ⟨_, _, _, _, _, rfl, rfl, rfl, rfl, rfl⟩
      rw [e0] at hx0
      rw [e1] at hx1
      rw [e2] at hx2
      rw [e3] at hx3 l3 g3
      rw [e4] at hx4 l4 g4
      have HK := Aside0.mk (And.intro l3 g3)
      have HM := Aside0.mk (And.intro l4 g4)
      replace hx0 := pw_cell_below HSR.out.below hx0
      replace hx1 := pw_cell_below HSR.out.below hx1
      replace hx2 := pw_cell_below HSR.out.below hx2
      replace hx3 := pw_cell_below HSR.out.below hx3
      replace hx4 := pw_cell_below HSR.out.below hx4
      go_wp2_with fail

      refine (cut.calls k d s A3 c3 kn0 A4 c4 mo wr Fo HK.out.1 (Kd.F_below HM.out.2 HSR.out.below) HM.out.1).mono ?_
      rintro e w2 ⟨A, c, rfl, hc, hR, hB⟩
      have HCC := Aside0.mk (show (cutM mo).length ≤ c ∧ (cutM mo).length ≤ 20 ∧ ∀ r ∈ cutM mo, r.length ≤ 40 from ⟨hc, cutM_len mo, cutM_rows mo⟩)
      have HR2 := Aside0.mk (told_R HSR.out.below HFO.out hR)
      have HB2 := Aside0.mk hB
      obtain ⟨kn, ekn⟩ : ∃ kn, kn0.take 20 = kn := ⟨_, rfl⟩
      have HKF := Aside0.mk (show Kd.F (Kd.int .i64) w Fo A3 kn.length kn by rw [← ekn]; exact F_take20 HK.out.2)
      have HKC := Aside0.mk (show kn.length ≤ c3 by have := HK.out.1; rw [← ekn, List.length_take]; omega)
      obtain ⟨m, em⟩ : ∃ m, cutM mo = m := ⟨_, rfl⟩
      have HSTEP := Aside0.mk (show stepL k d s kn m (runs l0 i) = runs l0 (i + 1) by rw [← ekn, ← em, stepL_again, ← e0, ← e1, ← e2, ← e3, ← e4, hx]; rfl)
      clear e0 e1 e2 e3 e4 hx l3 l4 g3 g4

      rw [ekn]
      rw [em] at HCC HR2 ⊢
      obtain ⟨b, eb⟩ : ∃ b, b = w2.heap.size := ⟨_, rfl⟩
      clear hc hR hB ekn em hx0 hx1 hx2 hx3 hx4
      go_wp2_with fail
      rw [← eb]
      obtain ⟨w3, e3⟩ : ∃ w3, w3 = w2.alloc (.cells #[.int .i64 k, .int .i64 d, .int .i64 s, .slice A3 kn.length c3, .slice A m.length c] 33) := ⟨_, rfl⟩
      rw [← e3]

      have HSN := Aside0.mk (show St w (fun _ => False) w3 [Res.agree w Fo, PSet gs (runs l0 i), RSet gr (runs l0 i), SEPB b k d s A3 kn.length c3 A c m w Fo, Res.row (Kd.slice 3 (Kd.int .i64)) 30 (.slice none 0 0) []] from St.nil (box_state HSR.out HB2.out eb HR2.out e3) _ _)
      clear e3 eb HR2 HB2 HSR
      go_loopw [9, 10] (fun s9 s10 wr => ∃ n : Nat, n ≤ m.length ∧ s10 = .int .i64 (n : Int) ∧ Aside0 (St w (fun _ => False) wr [Res.agree w Fo, PSet gs (runs l0 i), RSet gr (runs l0 i), SEPB b k d s A3 kn.length c3 A c m w Fo, Res.row (Kd.slice 3 (Kd.int .i64)) 30 s9 (m.take n)])) (fun _ s10 _ => (m.length + 1 - (intOf s10).toNat))
      case atStart => exact ⟨0, by omega, rfl, HSN⟩
      case round =>
        obtain ⟨n, hn, rfl, HSA⟩ := hrel
        clear HSN
        have HX := Aside0.mk (sepb_at HSA.out 3 rfl)
        obtain ⟨x0, x1, x2, x3, x4, f0, f1, f2, f3, f4⟩ := blk_all5 HX.out
        have hm20 : m.length ≤ 20 := HCC.out.2.1
        by_cases hnm : n < m.length
        · have b3 : decide ((n : Int) < (m.length : Int)) = true := decide_eq_true (by omega)
          obtain ⟨ad2, B, cb, eA2, hcell, hcb, hCB⟩ := at_slice (sepb_C HSA.out 3 rfl) n hnm
          subst eA2
          have HTK := Aside0.mk (show m.take n ++ [m.getD n []] = m.take (n + 1) by rw [List.take_succ_eq_append_getElem hnm, List.getD_eq_getElem?_getD, List.getElem?_eq_getElem hnm]; rfl)
          have HTL := Aside0.mk (show (m.take n).length ≤ 20 by have := HCC.out.2.1; rw [List.length_take]; omega)
          have HRL := Aside0.mk (show (m.getD n []).length ≤ 40 by rw [List.getD_eq_getElem?_getD, List.getElem?_eq_getElem hnm]; exact HCC.out.2.2 _ (List.getElem_mem hnm))
          have hn0 : (0 : Int) ≤ (n : Int) := by omega
          have hn1 : (n : Int) < (m.length : Int) := by omega
          obtain ⟨r, er⟩ : ∃ r, m.getD n [] = r := ⟨_, rfl⟩
          rw [er] at hcell hcb hCB HTK HRL
          have HCB := Aside0.mk hCB
          have HS5 := Aside0.mk (show St w (fun _ => False) wr [Res.agree w Fo, PSet gs (runs l0 i), RSet gr (runs l0 i), SEPB b k d s A3 kn.length c3 (some ad2) c m w Fo, Res.row (Kd.slice 3 (Kd.int .i64)) 30 u9 (m.take n), Res.row (Kd.int .i64) 3 (.slice none 0 0) []] from St.nil HSA.out _ _)
          clear hCB hcb er
          go_wp2_with (at_builtin; refine St.app_int (k := .i64) rfl (.tmp 55) (.tmp 60) 30 3 8 rfl Try.underlying30 hinfo3 (by decide) HS5.out 5 (.slice none 0 0) [] r B r.length cb rfl rfl rfl (by decide) HCB.out (by have := HRL.out; simp; omega) ?_)
          intro v1 w4 h4
          obtain ⟨ok5, hr5⟩ := h4.get 5 rfl
          obtain ⟨A5, c5, ev5⟩ := Kd.R_slice (show (Kd.int .i64).R 3 w4 0 ok5 v1 r from hr5)
          subst ev5
          have HS6 := Aside0.mk (show St w (fun _ => False) w4 [Res.agree w Fo, PSet gs (runs l0 i), RSet gr (runs l0 i), SEPB b k d s A3 kn.length c3 (some ad2) c m w Fo, Res.row (Kd.slice 3 (Kd.int .i64)) 30 u9 (m.take n), Res.row (Kd.int .i64) 3 (.slice A5 r.length c5) r] from h4)
          clear h4 hr5 HS5 x0 x1 x2 x3 x4 f0 f1 f2 f3 f4 hcell HX
          go_wp2_with (at_builtin; refine St.app_row rfl (.tmp 62) (.tmp 64) 31 30 rfl Try.underlying31 hinfo30B HS6.out 4 5 u9 (.slice A5 r.length c5) (m.take n) r rfl rfl rfl rfl (by decide) (by decide) (by decide) (by have := HTL.out; omega) ?_)
          intro v2 w5 h5
          rw [HTK.out] at h5
          have HS7 := Aside0.mk (show St w (fun _ => False) w5 [Res.agree w Fo, PSet gs (runs l0 i), RSet gr (runs l0 i), SEPB b k d s A3 kn.length c3 (some ad2) c m w Fo, Res.row (Kd.slice 3 (Kd.int .i64)) 30 v2 (m.take (n + 1))] from St.drops (Xs := [Res.any]) h5)
          clear h5 HS6 HSA HTK
          go_wp2_with fail
          go_roundw
          case rel => exact ⟨n + 1, by omega, by simp, HS7⟩
          case measure => simp [intOf]; omega
        · have b3 : decide ((m.length : Int) < (m.length : Int)) = false := decide_eq_false (by omega)
          have en9 : n = m.length := by omega
          subst en9
          rw [List.take_of_length_le (Nat.le_refl _)] at HSA
          obtain ⟨ok9, hr9⟩ := HSA.out.get 4 rfl
          obtain ⟨A9, c9, ev9⟩ := Kd.R_slice (show (Kd.slice 3 (Kd.int .i64)).R 30 wr 0 ok9 u9 m from hr9)
          subst ev9
          have HC9 := Aside0.mk (Kd.R_reads' (show (Kd.slice 3 (Kd.int .i64)).R 30 wr 0 ok9 _ m from hr9)).2.1
          clear hr9 hn hnm
          go_wp2_with fail
          refine (does_gen (known := kn) (more := m) (St.alloc HSA.out _) 1 2 rfl rfl (by decide) (by decide) (by decide) (runs_good l0 i) k d s HKC.out HC9.out (fun W' hW => ?_)).mono ?_
          · obtain ⟨ok, h1⟩ := hW 0 _ (by decide) (by decide) rfl
            obtain ⟨ok', h2⟩ := hW 4 _ (by decide) (by decide) rfl
            exact ⟨HKF.out W' h1.2, (Kd.R_reads' (show (Kd.slice 3 (Kd.int .i64)).R 30 W' 0 ok' (.slice A9 m.length c9) m from h2)).2.2⟩
          rintro e w5 ⟨rfl, h5⟩
          rw [HSTEP.out] at h5
          have h6 := St.turn (show St w (fun _ => False) w5 [Res.agree w Fo, PSet gs (runs l0 (i + 1)), RSet gr (runs l0 (i + 1)), SEPB b k d s A3 kn.length c3 A c m w Fo, Res.row (Kd.slice 3 (Kd.int .i64)) 30 (.slice A9 m.length c9) m] from h5) 4 rfl (fun ok hp => hull_of_rows hp)
          obtain ⟨lens9, el9⟩ : ∃ f : Nat → Nat, (fun q => (m.getD q []).length) = f := ⟨_, rfl⟩
          have hbl : ∀ q, lens9 q ≤ 40 := fun q => by
            rw [← el9]
            show (m.getD q []).length ≤ 40
            by_cases hq : q < m.length
            · rw [List.getD_eq_getElem?_getD, List.getElem?_eq_getElem hq]
              exact HCC.out.2.2 _ (List.getElem_mem hq)
            · rw [List.getD_eq_getElem?_getD, List.getElem?_eq_none (by omega)]
              simp
          rw [el9] at h6
          have HBL9 := Aside0.mk hbl
          have hn9 := HCC.out.2.1
          obtain ⟨n9, en9⟩ : ∃ n, m.length = n := ⟨_, rfl⟩
          rw [en9] at h6 hn9 ⊢
          have HIN := Aside0.mk (show St w (fun _ => False) w5 [Res.agree w Fo, PSet gs (runs l0 (i + 1)), RSet gr (runs l0 (i + 1)), SEPB b k d s A3 kn.length c3 A c m w Fo, Hull A9 n9 lens9] from h6)
          clear h5 h6 hbl el9 en9 HSA
          go_wp2_with fail

          obtain ⟨wo, rfl⟩ : ∃ wo : World, wo = w5 := ⟨_, rfl⟩
          go_loopw [14] (fun s14 wr => ∃ j : Nat, j ≤ n9 ∧ s14 = .int .i64 (j : Int) ∧ Aside0 (St w (fun _ => False) wr [Res.agree w Fo, PSet gs (runs l0 (i + 1)), RSet gr (runs l0 (i + 1)), SEPB b k d s A3 kn.length c3 A c m w Fo, Hull A9 n9 lens9])) (fun s14 _ => (n9 + 1 - (intOf s14).toNat))
          case atStart => exact ⟨0, by omega, rfl, HIN⟩
          case round =>
            obtain ⟨j, hj, rfl, HSB⟩ := hrel
            clear HIN
            by_cases hjn : j < n9
            · have b5 : decide ((j : Int) < (n9 : Int)) = true := decide_eq_true (by omega)
              have hj0 : (0 : Int) ≤ (j : Int) := by omega
              have hj1 : (j : Int) < (n9 : Int) := by omega
              go_wp2_with fail
              clear b5
              obtain ⟨wo2, rfl⟩ : ∃ wo2 : World, wo2 = wr := ⟨_, rfl⟩
              obtain ⟨ln, eln⟩ : ∃ ln, lens9 j = ln := ⟨_, rfl⟩
              have hln : ln ≤ 40 := by rw [← eln]; exact HBL9.out j
              go_loopw [15] (fun s15 wr => ∃ q : Nat, q ≤ ln ∧ s15 = .int .i64 (q : Int) ∧ Aside0 (St w (fun _ => False) wr [Res.agree w Fo, PSet gs (runs l0 (i + 1)), RSet gr (runs l0 (i + 1)), SEPB b k d s A3 kn.length c3 A c m w Fo, Hull A9 n9 lens9])) (fun s15 _ => (ln + 1 - (intOf s15).toNat))
              case atStart => exact ⟨0, by omega, rfl, HSB⟩
              case round =>
                obtain ⟨q, hq, rfl, HSC⟩ := hrel
                clear HSB
                by_cases hqn : q < ln
                · obtain ⟨g9, gi, cc, v9, eA9, hg1, hg2, hg3, hset⟩ := hull_at HSC.out 4 rfl (by decide) j q hjn (by rw [eln]; exact hqn)
                  have b6 : decide ((q : Int) < (ln : Int)) = true := decide_eq_true (by omega)
                  have hq0 : (0 : Int) ≤ (q : Int) := by omega
                  have hq1 : (q : Int) < (ln : Int) := by omega
                  have HNEW := Aside0.mk (hset (.int .i64 77))
                  rw [eln] at hg1
                  rw [eA9] at HNEW ⊢
                  clear hset
                  go_wp2_with fail
                  rw [← eA9] at HNEW ⊢
                  go_roundw
                  case rel => exact ⟨q + 1, by omega, by simp, HNEW⟩
                  case measure => simp [intOf]; omega
                · obtain ⟨g9, B9, cc, eA9, hg1⟩ := hull_cell HSC.out 4 rfl j hjn
                  have eq : q = ln := by omega
                  rw [eln] at hg1
                  subst eq
                  have b6 : decide ((q : Int) < (q : Int)) = false := decide_eq_false (by omega)
                  rw [eA9]
                  go_wp2_with fail
                  rw [← eA9]
                  go_roundw
                  case rel => exact ⟨j + 1, by omega, by simp, HSC⟩
                  case measure => simp [intOf]; omega
            · have ej : n9 = j := by omega
              subst ej
              have HDONE := HSB
              clear HSB hj hjn
              have HSC2 := Aside0.mk (show St w (fun _ => False) wr [Res.agree w Fo, PSet gs (runs l0 (i + 1)), RSet gr (runs l0 (i + 1))] from St.drops (Xs := [SEPB b k d s A3 kn.length c3 A c m w Fo, Hull A9 n9 lens9]) HDONE.out)
              clear HDONE
              go_wp2_with fail
              obtain ⟨wo3, rfl⟩ : ∃ wo3 : World, wo3 = wr := ⟨_, rfl⟩
              go_loopw [16] (fun s16 wr => ∃ j : Nat, j ≤ 16 ∧ s16 = .int .i64 ((j : Int) + 1) ∧ Aside0 (St w (fun _ => False) wr [Res.agree w Fo, PSet gs (runs l0 (i + 1)), RSet gr (runs l0 (i + 1))])) (fun s16 _ => (17 - (intOf s16).toNat))
              case atStart => exact ⟨0, by omega, rfl, HSC2⟩
              case round =>
                obtain ⟨j, hj, rfl, HSD⟩ := hrel
                clear HSC2
                by_cases hj16 : j < 16
                · have b5 : decide ((j : Int) + 1 ≤ 16) = true := decide_eq_true (by omega)
                  go_wp2_with fail
                  refine (rowP_at HSD.out 1 rfl (runs_good l0 (i + 1)) ((j : Int) + 1)).mono ?_
                  rintro e w7 ⟨A17, c17, rfl, hc17, hC17, h17⟩
                  have h18 := St.turn h17 3 rfl (fun ok hp => pad_of_row hp)
                  have hl17 := rowN_len (runs_good l0 (i + 1)) ((j : Int) + 1)
                  obtain ⟨ln, eln⟩ : ∃ n, (rowN (runs l0 (i + 1)) ((j : Int) + 1)).length = n := ⟨_, rfl⟩
                  rw [eln] at h18 hl17 ⊢
                  have HIN3 := Aside0.mk (show St w (fun _ => False) w7 [Res.agree w Fo, PSet gs (runs l0 (i + 1)), RSet gr (runs l0 (i + 1)), Pad A17 ln] from h18)
                  clear h17 h18 eln hc17 hC17 HSD
                  go_wp2_with fail
                  go_loopw [18] (fun s18 wr => ∃ q : Nat, q ≤ ln ∧ s18 = .int .i64 (q : Int) ∧ Aside0 (St w (fun _ => False) wr [Res.agree w Fo, PSet gs (runs l0 (i + 1)), RSet gr (runs l0 (i + 1)), Pad A17 ln])) (fun s18 _ => (ln + 1 - (intOf s18).toNat))
                  case atStart => exact ⟨0, by omega, rfl, HIN3⟩
                  case round =>
                    obtain ⟨q, hq, rfl, HSE⟩ := hrel
                    clear HIN3
                    by_cases hqn : q < ln
                    · obtain ⟨g17, v17, eA17, hg2, hg3, hset⟩ := pad_at HSE.out 3 rfl (by decide) q hqn
                      have b6 : decide ((q : Int) < (ln : Int)) = true := decide_eq_true (by omega)
                      have hq0 : (0 : Int) ≤ (q : Int) := by omega
                      have hq1 : (q : Int) < (ln : Int) := by omega
                      have HNEW := Aside0.mk (hset (.int .i64 77))
                      rw [eA17] at HNEW ⊢
                      clear hset
                      go_wp2_with fail
                      rw [← eA17] at HNEW ⊢
                      go_roundw
                      case rel => exact ⟨q + 1, by omega, by simp, HNEW⟩
                      case measure => simp [intOf]; omega
                    · have eq : q = ln := by omega
                      subst eq
                      have b6 : decide ((q : Int) < (q : Int)) = false := decide_eq_false (by omega)
                      have HDR := Aside0.mk (show St w (fun _ => False) wr [Res.agree w Fo, PSet gs (runs l0 (i + 1)), RSet gr (runs l0 (i + 1))] from St.drops (Xs := [Pad A17 q]) HSE.out)
                      clear HSE
                      go_wp2_with fail
                      go_roundw
                      case rel => exact ⟨j + 1, by omega, by simp, HDR⟩
                      case measure => simp [intOf]; omega
                · have ej : j = 16 := by omega
                  subst ej
                  clear hj hj16
                  go_wp2_with fail
                  refine (deltaP_at (A1 := none) (c1 := 0) (known := []) HSD.out 1 rfl (runs_good l0 (i + 1)) (Kd.C_nil _ _) (Nat.le_refl _)).mono ?_
                  rintro e w6 ⟨A19, c19, rfl, hc19, h19⟩
                  have hb19 : ∀ q, ((deltaS (runs l0 (i + 1)) []).getD q []).length ≤ 40 := fun q => by
                    by_cases hq : q < (deltaS (runs l0 (i + 1)) []).length
                    · have := deltaS_rows (runs_good l0 (i + 1)) [] _ (List.getElem_mem hq)
                      rw [List.getD_eq_getElem?_getD, List.getElem?_eq_getElem hq]
                      exact Nat.le_trans this (by decide)
                    · rw [List.getD_eq_getElem?_getD, List.getElem?_eq_none (by omega)]
                      simp
                  have h20 := St.turn h19 3 rfl (fun ok hp => hull_of_rows hp)
                  obtain ⟨lens19, el19⟩ : ∃ f : Nat → Nat, (fun q => ((deltaS (runs l0 (i + 1)) []).getD q []).length) = f := ⟨_, rfl⟩
                  have hbl : ∀ q, lens19 q ≤ 40 := fun q => by rw [← el19]; exact hb19 q
                  rw [el19] at h20
                  have hn19 := deltaS_len (runs l0 (i + 1)) []
                  obtain ⟨n19, en19⟩ : ∃ n, (deltaS (runs l0 (i + 1)) []).length = n := ⟨_, rfl⟩
                  rw [en19] at h20 hn19 hc19 ⊢
                  have HBL19 := Aside0.mk hbl
                  have HIN2 := Aside0.mk (show St w (fun _ => False) w6 [Res.agree w Fo, PSet gs (runs l0 (i + 1)), RSet gr (runs l0 (i + 1)), Hull A19 n19 lens19] from h20)
                  clear h19 h20 hb19 hbl el19 en19 HSD
                  go_wp2_with fail

                  obtain ⟨wo, rfl⟩ : ∃ wo : World, wo = w6 := ⟨_, rfl⟩
                  go_loopw [20] (fun s20 wr => ∃ j : Nat, j ≤ n19 ∧ s20 = .int .i64 (j : Int) ∧ Aside0 (St w (fun _ => False) wr [Res.agree w Fo, PSet gs (runs l0 (i + 1)), RSet gr (runs l0 (i + 1)), Hull A19 n19 lens19])) (fun s20 _ => (n19 + 1 - (intOf s20).toNat))
                  case atStart => exact ⟨0, by omega, rfl, HIN2⟩
                  case round =>
                    obtain ⟨j, hj, rfl, HSB⟩ := hrel
                    clear HIN2
                    by_cases hjn : j < n19
                    · have b5 : decide ((j : Int) < (n19 : Int)) = true := decide_eq_true (by omega)
                      have hj0 : (0 : Int) ≤ (j : Int) := by omega
                      have hj1 : (j : Int) < (n19 : Int) := by omega
                      go_wp2_with fail
                      clear b5
                      obtain ⟨wo2, rfl⟩ : ∃ wo2 : World, wo2 = wr := ⟨_, rfl⟩
                      obtain ⟨ln, eln⟩ : ∃ ln, lens19 j = ln := ⟨_, rfl⟩
                      have hln : ln ≤ 40 := by rw [← eln]; exact HBL19.out j
                      go_loopw [21] (fun s21 wr => ∃ q : Nat, q ≤ ln ∧ s21 = .int .i64 (q : Int) ∧ Aside0 (St w (fun _ => False) wr [Res.agree w Fo, PSet gs (runs l0 (i + 1)), RSet gr (runs l0 (i + 1)), Hull A19 n19 lens19])) (fun s21 _ => (ln + 1 - (intOf s21).toNat))
                      case atStart => exact ⟨0, by omega, rfl, HSB⟩
                      case round =>
                        obtain ⟨q, hq, rfl, HSC⟩ := hrel
                        clear HSB
                        by_cases hqn : q < ln
                        · obtain ⟨g9, gi, cc, v9, eA9, hg1, hg2, hg3, hset⟩ := hull_at HSC.out 3 rfl (by decide) j q hjn (by rw [eln]; exact hqn)
                          have b6 : decide ((q : Int) < (ln : Int)) = true := decide_eq_true (by omega)
                          have hq0 : (0 : Int) ≤ (q : Int) := by omega
                          have hq1 : (q : Int) < (ln : Int) := by omega
                          have HNEW := Aside0.mk (hset (.int .i64 77))
                          rw [eln] at hg1
                          rw [eA9] at HNEW ⊢
                          clear hset
                          go_wp2_with fail
                          rw [← eA9] at HNEW ⊢
                          go_roundw
                          case rel => exact ⟨q + 1, by omega, by simp, HNEW⟩
                          case measure => simp [intOf]; omega
                        · obtain ⟨g9, B9, cc, eA9, hg1⟩ := hull_cell HSC.out 3 rfl j hjn
                          have eq : q = ln := by omega
                          rw [eln] at hg1
                          subst eq
                          have b6 : decide ((q : Int) < (q : Int)) = false := decide_eq_false (by omega)
                          rw [eA9]
                          go_wp2_with fail
                          rw [← eA9]
                          go_roundw
                          case rel => exact ⟨j + 1, by omega, by simp, HSC⟩
                          case measure => simp [intOf]; omega
                    · have ej : n19 = j := by omega
                      subst ej
                      have HDONE := HSB
                      clear HSB hj hjn
                      have HEND := Aside0.mk (show St w (fun _ => False) wr [Res.agree w Fo, PSet gs (runs l0 (i + 1)), RSet gr (runs l0 (i + 1))] from St.drops (Xs := [Hull A19 n19 lens19]) HDONE.out)
                      clear HDONE
                      go_wp2_with fail
                      go_roundw
                      case rel => exact ⟨i + 1, by omega, trivial, by simp, HEND⟩
                      case measure => simp [intOf]; omega
    · have eiN : N = i := by omega
      subst eiN
      clear hi hiN
      rcases hN3 with eN | ⟨eN, eN2⟩
      · have b1 : decide ((N : Int) < (l0.length : Int)) = false := decide_eq_false (by omega)
        have hN3 : N = l0.length ∨ (N = 30 ∧ N < l0.length) := .inl eN
        go_wp2_with fail
        refine (copyP_at HSR.out 1 rfl (runs_good l0 N)).mono ?_
        rintro e w4 ⟨gc, rfl, h4⟩
        have HS4 := Aside0.mk h4
        clear h4 HSR
        go_wp2_with fail
        refine (newP_at HS4.out).mono ?_
        rintro e w5 ⟨gn, rfl, h5⟩
        have HS5 := Aside0.mk (show St w (fun _ => False) w5 [Res.agree w Fo, PSet gs (runs l0 N), RSet gr (runs l0 N), PSet gc (runs l0 N), PSet gn lv0] from h5)
        clear h5 HS4
        go_wp2_with fail
        obtain ⟨wo4, rfl⟩ : ∃ wo4 : World, wo4 = wr := ⟨_, rfl⟩
        go_loopw [24] (fun s24 wr => ∃ (i : Nat) (Lc : List (List Int)), i ≤ l1.length ∧ i ≤ 30 ∧ s24 = .int .i64 (i : Int) ∧ Aside0 (Good Lc) ∧ Aside0 (St w (fun _ => False) wr [Res.agree w Fo, PSet gs (runs l0 N), RSet gr (runs l0 N), PSet gc Lc, PSet gn lv0])) (fun s24 _ => (31 - (intOf s24).toNat))
        case atStart => exact ⟨0, runs l0 N, by omega, by omega, rfl, ⟨runs_good l0 N⟩, HS5⟩
        case round =>
          obtain ⟨i, Lc, hi, hi30, rfl, HGC, HSG⟩ := hrel
          clear HS5
          by_cases hlt : i < l1.length
          · by_cases h30 : i < 30
            · have b1 : decide ((i : Int) < (l1.length : Int)) = true := decide_eq_true (by omega)
              have b2 : decide ((i : Int) < 30) = true := decide_eq_true (by omega)
              obtain ⟨ad, A3, c3, A4, c4, x, eA, hx, hx0, hx1, hx2, hx3, hx4, l3, l4, g3, g4⟩ := deed_at HF1.out i hlt
              subst eA
              obtain ⟨k, d, s, kn0, mo, e0, e1, e2, e3, e4⟩ : ∃ k d s kn mo, x.f0 = k ∧ x.f1.f0 = d ∧ x.f1.f1 = s ∧ x.f2 = kn ∧ x.f3 = mo := ⟨_, _, _, _, _, rfl, rfl, rfl, rfl, rfl⟩
              rw [e0] at hx0
              rw [e1] at hx1
              rw [e2] at hx2
              rw [e3] at hx3 l3 g3
              rw [e4] at hx4 l4 g4
              have HK := Aside0.mk (And.intro l3 g3)
              have HM := Aside0.mk (And.intro l4 g4)
              replace hx0 := pw_cell_below HSG.out.below hx0
              replace hx1 := pw_cell_below HSG.out.below hx1
              replace hx2 := pw_cell_below HSG.out.below hx2
              replace hx3 := pw_cell_below HSG.out.below hx3
              replace hx4 := pw_cell_below HSG.out.below hx4
              clear e0 e1 e2 e3 e4 hx l3 l4 g3 g4
              go_wp2_with fail
              refine (cut.calls k d s A3 c3 kn0 A4 c4 mo wr Fo HK.out.1 (Kd.F_below HM.out.2 HSG.out.below) HM.out.1).mono ?_
              rintro e w2 ⟨A, c, rfl, hc, hR, hB⟩
              have HCC := Aside0.mk (show (cutM mo).length ≤ c ∧ (cutM mo).length ≤ 20 ∧ ∀ r ∈ cutM mo, r.length ≤ 40 from ⟨hc, cutM_len mo, cutM_rows mo⟩)
              have HR2 := Aside0.mk (told_R HSG.out.below HFO.out hR)
              have HB2 := Aside0.mk hB
              obtain ⟨kn, ekn⟩ : ∃ kn, kn0.take 20 = kn := ⟨_, rfl⟩
              have HKF := Aside0.mk (show Kd.F (Kd.int .i64) w Fo A3 kn.length kn by rw [← ekn]; exact F_take20 HK.out.2)
              have HKC := Aside0.mk (show kn.length ≤ c3 by have := HK.out.1; rw [← ekn, List.length_take]; omega)
              obtain ⟨m, em⟩ : ∃ m, cutM mo = m := ⟨_, rfl⟩
              rw [ekn]
              rw [em] at HCC HR2 ⊢
              obtain ⟨b, eb⟩ : ∃ b, b = w2.heap.size := ⟨_, rfl⟩
              clear hc hR hB ekn em hx0 hx1 hx2 hx3 hx4
              go_wp2_with fail
              rw [← eb]
              obtain ⟨w3, e3⟩ : ∃ w3, w3 = w2.alloc (.cells #[.int .i64 k, .int .i64 d, .int .i64 s, .slice A3 kn.length c3, .slice A m.length c] 33) := ⟨_, rfl⟩
              rw [← e3]
              have HS6 := Aside0.mk (show St w (fun _ => False) w3 [Res.agree w Fo, PSet gs (runs l0 N), RSet gr (runs l0 N), PSet gc Lc, PSet gn lv0, SEPB b k d s A3 kn.length c3 A c m w Fo] from box_state HSG.out HB2.out eb HR2.out e3)
              clear e3 eb HR2 HB2 HSG
              refine (addP_at HS6.out 3 rfl (by decide) HGC.out d s).mono ?_
              rintro e w4 ⟨rfl, h4⟩
              have HS7 := Aside0.mk (show St w (fun _ => False) w4 [Res.agree w Fo, PSet gs (runs l0 N), RSet gr (runs l0 N), PSet gc (addL Lc d s), PSet gn lv0, SEPB b k d s A3 kn.length c3 A c m w Fo] from h4)
              have HGD := Aside0.mk (HGC.out.add d s)
              obtain ⟨Ld, eL⟩ : ∃ Ld, addL Lc d s = Ld := ⟨_, rfl⟩
              rw [eL] at HS7 HGD
              have HX := Aside0.mk (sepb_at HS7.out 5 rfl)
              obtain ⟨x0, x1, x2, x3, x4, f0, f1, f2, f3, f4⟩ := blk_all5 HX.out
              clear h4 eL HS6
              go_wp2_with fail
              refine (mergeP_at (known := kn) (more := m) HS7.out 3 rfl (by decide) HGD.out (fun W' hW => ?_) HKC.out ⟨HCC.out.1, by have := HCC.out.2.1; omega, fun r hr => by have := HCC.out.2.2 r hr; omega⟩).mono ?_
              · obtain ⟨ok, h1⟩ := hW 0 _ (by decide) rfl
                obtain ⟨ok', h2⟩ := hW 5 _ (by decide) rfl
                exact sepb_reads HKF.out h1 h2
              rintro e w5 ⟨rfl, h5⟩
              have HGE := Aside0.mk (show Good (mergeL kn m Ld) from HGD.out.merge _ _ 16)
              have HS8 := Aside0.mk (show St w (fun _ => False) w5 [Res.agree w Fo, PSet gs (runs l0 N), RSet gr (runs l0 N), PSet gc (mergeL kn m Ld), PSet gn lv0] from St.drops (Xs := [SEPB b k d s A3 kn.length c3 A c m w Fo]) h5)
              clear h5 HS7 x0 x1 x2 x3 x4 f0 f1 f2 f3 f4 HX
              go_wp2_with fail
              go_roundw
              case rel => exact ⟨i + 1, mergeL kn m Ld, by omega, by omega, by simp, HGE, HS8⟩
              case measure => simp [intOf]; omega
            · have e30 : i = 30 := by omega
              subst e30
              have b1 : decide ((30 : Int) < (l1.length : Int)) = true := decide_eq_true (by omega)
              clear h30
              go_wp2_with fail
              refine (newR_at HSG.out).mono ?_
              rintro e w6 ⟨gq, rfl, h6⟩
              have HSG2 := Aside0.mk (show St w (fun _ => False) w6 [Res.agree w Fo, PSet gs (runs l0 N), RSet gr (runs l0 N), PSet gc Lc, PSet gn (runs l0 0), RSet gq (runs l0 0)] from h6)
              clear h6 HSG
              go_wp2_with fail
              obtain ⟨wo5, rfl⟩ : ∃ wo5 : World, wo5 = wr := ⟨_, rfl⟩
              go_loopw [27] (fun s27 wr => ∃ i : Nat, i ≤ N ∧ s27 = .int .i64 (i : Int) ∧ Aside0 (St w (fun _ => False) wr [Res.agree w Fo, PSet gs (runs l0 N), RSet gr (runs l0 N), PSet gc Lc, PSet gn (runs l0 i), RSet gq (runs l0 i)])) (fun s27 _ => (31 - (intOf s27).toNat))
              case atStart => exact ⟨0, by omega, rfl, HSG2⟩
              case round =>
                obtain ⟨i, hi, rfl, HSH⟩ := hrel
                clear HSG2
                by_cases hiN : i < N
                · have hlt : i < l0.length := by omega
                  have b1 : decide ((i : Int) < (l0.length : Int)) = true := decide_eq_true (by omega)
                  have b2 : decide ((i : Int) < 30) = true := decide_eq_true (by omega)
                  obtain ⟨ad, A3, c3, A4, c4, x, eA, hx, hx0, hx1, hx2, hx3, hx4, l3, l4, g3, g4⟩ := deed_at HF.out i hlt
                  subst eA
                  obtain ⟨k, d, s, kn0, mo, e0, e1, e2, e3, e4⟩ : ∃ k d s kn mo, x.f0 = k ∧ x.f1.f0 = d ∧ x.f1.f1 = s ∧ x.f2 = kn ∧ x.f3 = mo := ⟨_, _, _, _, _, rfl, rfl, rfl, rfl, rfl⟩
                  rw [e0] at hx0
                  rw [e1] at hx1
                  rw [e2] at hx2
                  rw [e3] at hx3 l3 g3
                  rw [e4] at hx4 l4 g4
                  have HK := Aside0.mk (And.intro l3 g3)
                  have HM := Aside0.mk (And.intro l4 g4)
                  replace hx0 := pw_cell_below HSH.out.below hx0
                  replace hx1 := pw_cell_below HSH.out.below hx1
                  replace hx2 := pw_cell_below HSH.out.below hx2
                  replace hx3 := pw_cell_below HSH.out.below hx3
                  replace hx4 := pw_cell_below HSH.out.below hx4
                  have HSTEP := Aside0.mk (show stepL k d s kn0 mo (runs l0 i) = runs l0 (i + 1) by rw [← e0, ← e1, ← e2, ← e3, ← e4, hx]; rfl)
                  clear e0 e1 e2 e3 e4 hx l3 l4 g3 g4
                  go_wp2_with fail
                  refine (does_gen (known := kn0) (more := mo) HSH.out 4 5 rfl rfl (by decide) (by decide) (by decide) (runs_good l0 i) k d s HK.out.1 HM.out.1 (fun W' hW => ?_)).mono ?_
                  · obtain ⟨ok, h1⟩ := hW 0 _ (by decide) (by decide) rfl
                    exact ⟨HK.out.2 W' h1.2, HM.out.2 W' h1.2⟩
                  rintro e w7 ⟨rfl, h7⟩
                  rw [HSTEP.out] at h7
                  have HSI := Aside0.mk (show St w (fun _ => False) w7 [Res.agree w Fo, PSet gs (runs l0 N), RSet gr (runs l0 N), PSet gc Lc, PSet gn (runs l0 (i + 1)), RSet gq (runs l0 (i + 1))] from h7)
                  clear h7 HSH hx0 hx1 hx2 hx3 hx4
                  go_wp2_with fail
                  go_roundw
                  case rel => exact ⟨i + 1, by omega, by simp, HSI⟩
                  case measure => simp [intOf]; omega
                · have eiN : N = i := by omega
                  subst eiN
                  clear hi hiN
                  rcases hN3 with eN | ⟨eN, eN2⟩
                  · have b1 : decide ((N : Int) < (l0.length : Int)) = false := decide_eq_false (by omega)
                    obtain ⟨okp, hp⟩ := HSH.out.get 1 rfl
                    obtain ⟨okr, hr⟩ := HSH.out.get 5 rfl
                    go_wp2_with fail
                    refine (like.calls gs gq (runs l0 N) (runs_good l0 N) wr okp okr hp hr).mono ?_
                    rintro e w8 ⟨rfl, hB8⟩
                    have HST8 := Aside0.mk (St.on HSH.out hB8)
                    clear hB8 hp hr
                    go_wp2_with fail
                    refine (lives_at HST8.out).mono ?_
                    rintro e w9 ⟨rfl, h9⟩
                    have HST9 := Aside0.mk h9
                    clear h9
                    go_wp2_with fail
                    go_ret
                    exact ⟨rfl, HST9.out.below⟩
                  · have b1 : decide ((N : Int) < (l0.length : Int)) = true := decide_eq_true (by omega)
                    have b2 : decide ((N : Int) < 30) = false := decide_eq_false (by omega)
                    obtain ⟨okp, hp⟩ := HSH.out.get 1 rfl
                    obtain ⟨okr, hr⟩ := HSH.out.get 5 rfl
                    go_wp2_with fail
                    refine (like.calls gs gq (runs l0 N) (runs_good l0 N) wr okp okr hp hr).mono ?_
                    rintro e w8 ⟨rfl, hB8⟩
                    have HST8 := Aside0.mk (St.on HSH.out hB8)
                    clear hB8 hp hr
                    go_wp2_with fail
                    refine (lives_at HST8.out).mono ?_
                    rintro e w9 ⟨rfl, h9⟩
                    have HST9 := Aside0.mk h9
                    clear h9
                    go_wp2_with fail
                    go_ret
                    exact ⟨rfl, HST9.out.below⟩
          · have en1 : i = l1.length := by omega
            subst en1
            have b1 : decide ((l1.length : Int) < (l1.length : Int)) = false := decide_eq_false (by omega)
            clear hlt
            go_wp2_with fail
            refine (newR_at HSG.out).mono ?_
            rintro e w6 ⟨gq, rfl, h6⟩
            have HSG2 := Aside0.mk (show St w (fun _ => False) w6 [Res.agree w Fo, PSet gs (runs l0 N), RSet gr (runs l0 N), PSet gc Lc, PSet gn (runs l0 0), RSet gq (runs l0 0)] from h6)
            clear h6 HSG
            go_wp2_with fail
            obtain ⟨wo5, rfl⟩ : ∃ wo5 : World, wo5 = wr := ⟨_, rfl⟩
            go_loopw [27] (fun s27 wr => ∃ i : Nat, i ≤ N ∧ s27 = .int .i64 (i : Int) ∧ Aside0 (St w (fun _ => False) wr [Res.agree w Fo, PSet gs (runs l0 N), RSet gr (runs l0 N), PSet gc Lc, PSet gn (runs l0 i), RSet gq (runs l0 i)])) (fun s27 _ => (31 - (intOf s27).toNat))
            case atStart => exact ⟨0, by omega, rfl, HSG2⟩
            case round =>
              obtain ⟨i, hi, rfl, HSH⟩ := hrel
              clear HSG2
              by_cases hiN : i < N
              · have hlt : i < l0.length := by omega
                have b1 : decide ((i : Int) < (l0.length : Int)) = true := decide_eq_true (by omega)
                have b2 : decide ((i : Int) < 30) = true := decide_eq_true (by omega)
                obtain ⟨ad, A3, c3, A4, c4, x, eA, hx, hx0, hx1, hx2, hx3, hx4, l3, l4, g3, g4⟩ := deed_at HF.out i hlt
                subst eA
                obtain ⟨k, d, s, kn0, mo, e0, e1, e2, e3, e4⟩ : ∃ k d s kn mo, x.f0 = k ∧ x.f1.f0 = d ∧ x.f1.f1 = s ∧ x.f2 = kn ∧ x.f3 = mo := ⟨_, _, _, _, _, rfl, rfl, rfl, rfl, rfl⟩
                rw [e0] at hx0
                rw [e1] at hx1
                rw [e2] at hx2
                rw [e3] at hx3 l3 g3
                rw [e4] at hx4 l4 g4
                have HK := Aside0.mk (And.intro l3 g3)
                have HM := Aside0.mk (And.intro l4 g4)
                replace hx0 := pw_cell_below HSH.out.below hx0
                replace hx1 := pw_cell_below HSH.out.below hx1
                replace hx2 := pw_cell_below HSH.out.below hx2
                replace hx3 := pw_cell_below HSH.out.below hx3
                replace hx4 := pw_cell_below HSH.out.below hx4
                have HSTEP := Aside0.mk (show stepL k d s kn0 mo (runs l0 i) = runs l0 (i + 1) by rw [← e0, ← e1, ← e2, ← e3, ← e4, hx]; rfl)
                clear e0 e1 e2 e3 e4 hx l3 l4 g3 g4
                go_wp2_with fail
                refine (does_gen (known := kn0) (more := mo) HSH.out 4 5 rfl rfl (by decide) (by decide) (by decide) (runs_good l0 i) k d s HK.out.1 HM.out.1 (fun W' hW => ?_)).mono ?_
                · obtain ⟨ok, h1⟩ := hW 0 _ (by decide) (by decide) rfl
                  exact ⟨HK.out.2 W' h1.2, HM.out.2 W' h1.2⟩
                rintro e w7 ⟨rfl, h7⟩
                rw [HSTEP.out] at h7
                have HSI := Aside0.mk (show St w (fun _ => False) w7 [Res.agree w Fo, PSet gs (runs l0 N), RSet gr (runs l0 N), PSet gc Lc, PSet gn (runs l0 (i + 1)), RSet gq (runs l0 (i + 1))] from h7)
                clear h7 HSH hx0 hx1 hx2 hx3 hx4
                go_wp2_with fail
                go_roundw
                case rel => exact ⟨i + 1, by omega, by simp, HSI⟩
                case measure => simp [intOf]; omega
              · have eiN : N = i := by omega
                subst eiN
                clear hi hiN
                rcases hN3 with eN | ⟨eN, eN2⟩
                · have b1 : decide ((N : Int) < (l0.length : Int)) = false := decide_eq_false (by omega)
                  obtain ⟨okp, hp⟩ := HSH.out.get 1 rfl
                  obtain ⟨okr, hr⟩ := HSH.out.get 5 rfl
                  go_wp2_with fail
                  refine (like.calls gs gq (runs l0 N) (runs_good l0 N) wr okp okr hp hr).mono ?_
                  rintro e w8 ⟨rfl, hB8⟩
                  have HST8 := Aside0.mk (St.on HSH.out hB8)
                  clear hB8 hp hr
                  go_wp2_with fail
                  refine (lives_at HST8.out).mono ?_
                  rintro e w9 ⟨rfl, h9⟩
                  have HST9 := Aside0.mk h9
                  clear h9
                  go_wp2_with fail
                  go_ret
                  exact ⟨rfl, HST9.out.below⟩
                · have b1 : decide ((N : Int) < (l0.length : Int)) = true := decide_eq_true (by omega)
                  have b2 : decide ((N : Int) < 30) = false := decide_eq_false (by omega)
                  obtain ⟨okp, hp⟩ := HSH.out.get 1 rfl
                  obtain ⟨okr, hr⟩ := HSH.out.get 5 rfl
                  go_wp2_with fail
                  refine (like.calls gs gq (runs l0 N) (runs_good l0 N) wr okp okr hp hr).mono ?_
                  rintro e w8 ⟨rfl, hB8⟩
                  have HST8 := Aside0.mk (St.on HSH.out hB8)
                  clear hB8 hp hr
                  go_wp2_with fail
                  refine (lives_at HST8.out).mono ?_
                  rintro e w9 ⟨rfl, h9⟩
                  have HST9 := Aside0.mk h9
                  clear h9
                  go_wp2_with fail
                  go_ret
                  exact ⟨rfl, HST9.out.below⟩
      · have b1 : decide ((N : Int) < (l0.length : Int)) = true := decide_eq_true (by omega)
        have b2 : decide ((N : Int) < 30) = false := decide_eq_false (by omega)
        have hN3 : N = l0.length ∨ (N = 30 ∧ N < l0.length) := .inr ⟨eN, eN2⟩
        go_wp2_with fail
        refine (copyP_at HSR.out 1 rfl (runs_good l0 N)).mono ?_
        rintro e w4 ⟨gc, rfl, h4⟩
        have HS4 := Aside0.mk h4
        clear h4 HSR
        go_wp2_with fail
        refine (newP_at HS4.out).mono ?_
        rintro e w5 ⟨gn, rfl, h5⟩
        have HS5 := Aside0.mk (show St w (fun _ => False) w5 [Res.agree w Fo, PSet gs (runs l0 N), RSet gr (runs l0 N), PSet gc (runs l0 N), PSet gn lv0] from h5)
        clear h5 HS4
        go_wp2_with fail
        obtain ⟨wo4, rfl⟩ : ∃ wo4 : World, wo4 = wr := ⟨_, rfl⟩
        go_loopw [24] (fun s24 wr => ∃ (i : Nat) (Lc : List (List Int)), i ≤ l1.length ∧ i ≤ 30 ∧ s24 = .int .i64 (i : Int) ∧ Aside0 (Good Lc) ∧ Aside0 (St w (fun _ => False) wr [Res.agree w Fo, PSet gs (runs l0 N), RSet gr (runs l0 N), PSet gc Lc, PSet gn lv0])) (fun s24 _ => (31 - (intOf s24).toNat))
        case atStart => exact ⟨0, runs l0 N, by omega, by omega, rfl, ⟨runs_good l0 N⟩, HS5⟩
        case round =>
          obtain ⟨i, Lc, hi, hi30, rfl, HGC, HSG⟩ := hrel
          clear HS5
          by_cases hlt : i < l1.length
          · by_cases h30 : i < 30
            · have b1 : decide ((i : Int) < (l1.length : Int)) = true := decide_eq_true (by omega)
              have b2 : decide ((i : Int) < 30) = true := decide_eq_true (by omega)
              obtain ⟨ad, A3, c3, A4, c4, x, eA, hx, hx0, hx1, hx2, hx3, hx4, l3, l4, g3, g4⟩ := deed_at HF1.out i hlt
              subst eA
              obtain ⟨k, d, s, kn0, mo, e0, e1, e2, e3, e4⟩ : ∃ k d s kn mo, x.f0 = k ∧ x.f1.f0 = d ∧ x.f1.f1 = s ∧ x.f2 = kn ∧ x.f3 = mo := ⟨_, _, _, _, _, rfl, rfl, rfl, rfl, rfl⟩
              rw [e0] at hx0
              rw [e1] at hx1
              rw [e2] at hx2
              rw [e3] at hx3 l3 g3
              rw [e4] at hx4 l4 g4
              have HK := Aside0.mk (And.intro l3 g3)
              have HM := Aside0.mk (And.intro l4 g4)
              replace hx0 := pw_cell_below HSG.out.below hx0
              replace hx1 := pw_cell_below HSG.out.below hx1
              replace hx2 := pw_cell_below HSG.out.below hx2
              replace hx3 := pw_cell_below HSG.out.below hx3
              replace hx4 := pw_cell_below HSG.out.below hx4
              clear e0 e1 e2 e3 e4 hx l3 l4 g3 g4
              go_wp2_with fail
              refine (cut.calls k d s A3 c3 kn0 A4 c4 mo wr Fo HK.out.1 (Kd.F_below HM.out.2 HSG.out.below) HM.out.1).mono ?_
              rintro e w2 ⟨A, c, rfl, hc, hR, hB⟩
              have HCC := Aside0.mk (show (cutM mo).length ≤ c ∧ (cutM mo).length ≤ 20 ∧ ∀ r ∈ cutM mo, r.length ≤ 40 from ⟨hc, cutM_len mo, cutM_rows mo⟩)
              have HR2 := Aside0.mk (told_R HSG.out.below HFO.out hR)
              have HB2 := Aside0.mk hB
              obtain ⟨kn, ekn⟩ : ∃ kn, kn0.take 20 = kn := ⟨_, rfl⟩
              have HKF := Aside0.mk (show Kd.F (Kd.int .i64) w Fo A3 kn.length kn by rw [← ekn]; exact F_take20 HK.out.2)
              have HKC := Aside0.mk (show kn.length ≤ c3 by have := HK.out.1; rw [← ekn, List.length_take]; omega)
              obtain ⟨m, em⟩ : ∃ m, cutM mo = m := ⟨_, rfl⟩
              rw [ekn]
              rw [em] at HCC HR2 ⊢
              obtain ⟨b, eb⟩ : ∃ b, b = w2.heap.size := ⟨_, rfl⟩
              clear hc hR hB ekn em hx0 hx1 hx2 hx3 hx4
              go_wp2_with fail
              rw [← eb]
              obtain ⟨w3, e3⟩ : ∃ w3, w3 = w2.alloc (.cells #[.int .i64 k, .int .i64 d, .int .i64 s, .slice A3 kn.length c3, .slice A m.length c] 33) := ⟨_, rfl⟩
              rw [← e3]
              have HS6 := Aside0.mk (show St w (fun _ => False) w3 [Res.agree w Fo, PSet gs (runs l0 N), RSet gr (runs l0 N), PSet gc Lc, PSet gn lv0, SEPB b k d s A3 kn.length c3 A c m w Fo] from box_state HSG.out HB2.out eb HR2.out e3)
              clear e3 eb HR2 HB2 HSG
              refine (addP_at HS6.out 3 rfl (by decide) HGC.out d s).mono ?_
              rintro e w4 ⟨rfl, h4⟩
              have HS7 := Aside0.mk (show St w (fun _ => False) w4 [Res.agree w Fo, PSet gs (runs l0 N), RSet gr (runs l0 N), PSet gc (addL Lc d s), PSet gn lv0, SEPB b k d s A3 kn.length c3 A c m w Fo] from h4)
              have HGD := Aside0.mk (HGC.out.add d s)
              obtain ⟨Ld, eL⟩ : ∃ Ld, addL Lc d s = Ld := ⟨_, rfl⟩
              rw [eL] at HS7 HGD
              have HX := Aside0.mk (sepb_at HS7.out 5 rfl)
              obtain ⟨x0, x1, x2, x3, x4, f0, f1, f2, f3, f4⟩ := blk_all5 HX.out
              clear h4 eL HS6
              go_wp2_with fail
              refine (mergeP_at (known := kn) (more := m) HS7.out 3 rfl (by decide) HGD.out (fun W' hW => ?_) HKC.out ⟨HCC.out.1, by have := HCC.out.2.1; omega, fun r hr => by have := HCC.out.2.2 r hr; omega⟩).mono ?_
              · obtain ⟨ok, h1⟩ := hW 0 _ (by decide) rfl
                obtain ⟨ok', h2⟩ := hW 5 _ (by decide) rfl
                exact sepb_reads HKF.out h1 h2
              rintro e w5 ⟨rfl, h5⟩
              have HGE := Aside0.mk (show Good (mergeL kn m Ld) from HGD.out.merge _ _ 16)
              have HS8 := Aside0.mk (show St w (fun _ => False) w5 [Res.agree w Fo, PSet gs (runs l0 N), RSet gr (runs l0 N), PSet gc (mergeL kn m Ld), PSet gn lv0] from St.drops (Xs := [SEPB b k d s A3 kn.length c3 A c m w Fo]) h5)
              clear h5 HS7 x0 x1 x2 x3 x4 f0 f1 f2 f3 f4 HX
              go_wp2_with fail
              go_roundw
              case rel => exact ⟨i + 1, mergeL kn m Ld, by omega, by omega, by simp, HGE, HS8⟩
              case measure => simp [intOf]; omega
            · have e30 : i = 30 := by omega
              subst e30
              have b1 : decide ((30 : Int) < (l1.length : Int)) = true := decide_eq_true (by omega)
              clear h30
              go_wp2_with fail
              refine (newR_at HSG.out).mono ?_
              rintro e w6 ⟨gq, rfl, h6⟩
              have HSG2 := Aside0.mk (show St w (fun _ => False) w6 [Res.agree w Fo, PSet gs (runs l0 N), RSet gr (runs l0 N), PSet gc Lc, PSet gn (runs l0 0), RSet gq (runs l0 0)] from h6)
              clear h6 HSG
              go_wp2_with fail
              obtain ⟨wo5, rfl⟩ : ∃ wo5 : World, wo5 = wr := ⟨_, rfl⟩
              go_loopw [27] (fun s27 wr => ∃ i : Nat, i ≤ N ∧ s27 = .int .i64 (i : Int) ∧ Aside0 (St w (fun _ => False) wr [Res.agree w Fo, PSet gs (runs l0 N), RSet gr (runs l0 N), PSet gc Lc, PSet gn (runs l0 i), RSet gq (runs l0 i)])) (fun s27 _ => (31 - (intOf s27).toNat))
              case atStart => exact ⟨0, by omega, rfl, HSG2⟩
              case round =>
                obtain ⟨i, hi, rfl, HSH⟩ := hrel
                clear HSG2
                by_cases hiN : i < N
                · have hlt : i < l0.length := by omega
                  have b1 : decide ((i : Int) < (l0.length : Int)) = true := decide_eq_true (by omega)
                  have b2 : decide ((i : Int) < 30) = true := decide_eq_true (by omega)
                  obtain ⟨ad, A3, c3, A4, c4, x, eA, hx, hx0, hx1, hx2, hx3, hx4, l3, l4, g3, g4⟩ := deed_at HF.out i hlt
                  subst eA
                  obtain ⟨k, d, s, kn0, mo, e0, e1, e2, e3, e4⟩ : ∃ k d s kn mo, x.f0 = k ∧ x.f1.f0 = d ∧ x.f1.f1 = s ∧ x.f2 = kn ∧ x.f3 = mo := ⟨_, _, _, _, _, rfl, rfl, rfl, rfl, rfl⟩
                  rw [e0] at hx0
                  rw [e1] at hx1
                  rw [e2] at hx2
                  rw [e3] at hx3 l3 g3
                  rw [e4] at hx4 l4 g4
                  have HK := Aside0.mk (And.intro l3 g3)
                  have HM := Aside0.mk (And.intro l4 g4)
                  replace hx0 := pw_cell_below HSH.out.below hx0
                  replace hx1 := pw_cell_below HSH.out.below hx1
                  replace hx2 := pw_cell_below HSH.out.below hx2
                  replace hx3 := pw_cell_below HSH.out.below hx3
                  replace hx4 := pw_cell_below HSH.out.below hx4
                  have HSTEP := Aside0.mk (show stepL k d s kn0 mo (runs l0 i) = runs l0 (i + 1) by rw [← e0, ← e1, ← e2, ← e3, ← e4, hx]; rfl)
                  clear e0 e1 e2 e3 e4 hx l3 l4 g3 g4
                  go_wp2_with fail
                  refine (does_gen (known := kn0) (more := mo) HSH.out 4 5 rfl rfl (by decide) (by decide) (by decide) (runs_good l0 i) k d s HK.out.1 HM.out.1 (fun W' hW => ?_)).mono ?_
                  · obtain ⟨ok, h1⟩ := hW 0 _ (by decide) (by decide) rfl
                    exact ⟨HK.out.2 W' h1.2, HM.out.2 W' h1.2⟩
                  rintro e w7 ⟨rfl, h7⟩
                  rw [HSTEP.out] at h7
                  have HSI := Aside0.mk (show St w (fun _ => False) w7 [Res.agree w Fo, PSet gs (runs l0 N), RSet gr (runs l0 N), PSet gc Lc, PSet gn (runs l0 (i + 1)), RSet gq (runs l0 (i + 1))] from h7)
                  clear h7 HSH hx0 hx1 hx2 hx3 hx4
                  go_wp2_with fail
                  go_roundw
                  case rel => exact ⟨i + 1, by omega, by simp, HSI⟩
                  case measure => simp [intOf]; omega
                · have eiN : N = i := by omega
                  subst eiN
                  clear hi hiN
                  rcases hN3 with eN | ⟨eN, eN2⟩
                  · have b1 : decide ((N : Int) < (l0.length : Int)) = false := decide_eq_false (by omega)
                    obtain ⟨okp, hp⟩ := HSH.out.get 1 rfl
                    obtain ⟨okr, hr⟩ := HSH.out.get 5 rfl
                    go_wp2_with fail
                    refine (like.calls gs gq (runs l0 N) (runs_good l0 N) wr okp okr hp hr).mono ?_
                    rintro e w8 ⟨rfl, hB8⟩
                    have HST8 := Aside0.mk (St.on HSH.out hB8)
                    clear hB8 hp hr
                    go_wp2_with fail
                    refine (lives_at HST8.out).mono ?_
                    rintro e w9 ⟨rfl, h9⟩
                    have HST9 := Aside0.mk h9
                    clear h9
                    go_wp2_with fail
                    go_ret
                    exact ⟨rfl, HST9.out.below⟩
                  · have b1 : decide ((N : Int) < (l0.length : Int)) = true := decide_eq_true (by omega)
                    have b2 : decide ((N : Int) < 30) = false := decide_eq_false (by omega)
                    obtain ⟨okp, hp⟩ := HSH.out.get 1 rfl
                    obtain ⟨okr, hr⟩ := HSH.out.get 5 rfl
                    go_wp2_with fail
                    refine (like.calls gs gq (runs l0 N) (runs_good l0 N) wr okp okr hp hr).mono ?_
                    rintro e w8 ⟨rfl, hB8⟩
                    have HST8 := Aside0.mk (St.on HSH.out hB8)
                    clear hB8 hp hr
                    go_wp2_with fail
                    refine (lives_at HST8.out).mono ?_
                    rintro e w9 ⟨rfl, h9⟩
                    have HST9 := Aside0.mk h9
                    clear h9
                    go_wp2_with fail
                    go_ret
                    exact ⟨rfl, HST9.out.below⟩
          · have en1 : i = l1.length := by omega
            subst en1
            have b1 : decide ((l1.length : Int) < (l1.length : Int)) = false := decide_eq_false (by omega)
            clear hlt
            go_wp2_with fail
            refine (newR_at HSG.out).mono ?_
            rintro e w6 ⟨gq, rfl, h6⟩
            have HSG2 := Aside0.mk (show St w (fun _ => False) w6 [Res.agree w Fo, PSet gs (runs l0 N), RSet gr (runs l0 N), PSet gc Lc, PSet gn (runs l0 0), RSet gq (runs l0 0)] from h6)
            clear h6 HSG
            go_wp2_with fail
            obtain ⟨wo5, rfl⟩ : ∃ wo5 : World, wo5 = wr := ⟨_, rfl⟩
            go_loopw [27] (fun s27 wr => ∃ i : Nat, i ≤ N ∧ s27 = .int .i64 (i : Int) ∧ Aside0 (St w (fun _ => False) wr [Res.agree w Fo, PSet gs (runs l0 N), RSet gr (runs l0 N), PSet gc Lc, PSet gn (runs l0 i), RSet gq (runs l0 i)])) (fun s27 _ => (31 - (intOf s27).toNat))
            case atStart => exact ⟨0, by omega, rfl, HSG2⟩
            case round =>
              obtain ⟨i, hi, rfl, HSH⟩ := hrel
              clear HSG2
              by_cases hiN : i < N
              · have hlt : i < l0.length := by omega
                have b1 : decide ((i : Int) < (l0.length : Int)) = true := decide_eq_true (by omega)
                have b2 : decide ((i : Int) < 30) = true := decide_eq_true (by omega)
                obtain ⟨ad, A3, c3, A4, c4, x, eA, hx, hx0, hx1, hx2, hx3, hx4, l3, l4, g3, g4⟩ := deed_at HF.out i hlt
                subst eA
                obtain ⟨k, d, s, kn0, mo, e0, e1, e2, e3, e4⟩ : ∃ k d s kn mo, x.f0 = k ∧ x.f1.f0 = d ∧ x.f1.f1 = s ∧ x.f2 = kn ∧ x.f3 = mo := ⟨_, _, _, _, _, rfl, rfl, rfl, rfl, rfl⟩
                rw [e0] at hx0
                rw [e1] at hx1
                rw [e2] at hx2
                rw [e3] at hx3 l3 g3
                rw [e4] at hx4 l4 g4
                have HK := Aside0.mk (And.intro l3 g3)
                have HM := Aside0.mk (And.intro l4 g4)
                replace hx0 := pw_cell_below HSH.out.below hx0
                replace hx1 := pw_cell_below HSH.out.below hx1
                replace hx2 := pw_cell_below HSH.out.below hx2
                replace hx3 := pw_cell_below HSH.out.below hx3
                replace hx4 := pw_cell_below HSH.out.below hx4
                have HSTEP := Aside0.mk (show stepL k d s kn0 mo (runs l0 i) = runs l0 (i + 1) by rw [← e0, ← e1, ← e2, ← e3, ← e4, hx]; rfl)
                clear e0 e1 e2 e3 e4 hx l3 l4 g3 g4
                go_wp2_with fail
                refine (does_gen (known := kn0) (more := mo) HSH.out 4 5 rfl rfl (by decide) (by decide) (by decide) (runs_good l0 i) k d s HK.out.1 HM.out.1 (fun W' hW => ?_)).mono ?_
                · obtain ⟨ok, h1⟩ := hW 0 _ (by decide) (by decide) rfl
                  exact ⟨HK.out.2 W' h1.2, HM.out.2 W' h1.2⟩
                rintro e w7 ⟨rfl, h7⟩
                rw [HSTEP.out] at h7
                have HSI := Aside0.mk (show St w (fun _ => False) w7 [Res.agree w Fo, PSet gs (runs l0 N), RSet gr (runs l0 N), PSet gc Lc, PSet gn (runs l0 (i + 1)), RSet gq (runs l0 (i + 1))] from h7)
                clear h7 HSH hx0 hx1 hx2 hx3 hx4
                go_wp2_with fail
                go_roundw
                case rel => exact ⟨i + 1, by omega, by simp, HSI⟩
                case measure => simp [intOf]; omega
              · have eiN : N = i := by omega
                subst eiN
                clear hi hiN
                rcases hN3 with eN | ⟨eN, eN2⟩
                · have b1 : decide ((N : Int) < (l0.length : Int)) = false := decide_eq_false (by omega)
                  obtain ⟨okp, hp⟩ := HSH.out.get 1 rfl
                  obtain ⟨okr, hr⟩ := HSH.out.get 5 rfl
                  go_wp2_with fail
                  refine (like.calls gs gq (runs l0 N) (runs_good l0 N) wr okp okr hp hr).mono ?_
                  rintro e w8 ⟨rfl, hB8⟩
                  have HST8 := Aside0.mk (St.on HSH.out hB8)
                  clear hB8 hp hr
                  go_wp2_with fail
                  refine (lives_at HST8.out).mono ?_
                  rintro e w9 ⟨rfl, h9⟩
                  have HST9 := Aside0.mk h9
                  clear h9
                  go_wp2_with fail
                  go_ret
                  exact ⟨rfl, HST9.out.below⟩
                · have b1 : decide ((N : Int) < (l0.length : Int)) = true := decide_eq_true (by omega)
                  have b2 : decide ((N : Int) < 30) = false := decide_eq_false (by omega)
                  obtain ⟨okp, hp⟩ := HSH.out.get 1 rfl
                  obtain ⟨okr, hr⟩ := HSH.out.get 5 rfl
                  go_wp2_with fail
                  refine (like.calls gs gq (runs l0 N) (runs_good l0 N) wr okp okr hp hr).mono ?_
                  rintro e w8 ⟨rfl, hB8⟩
                  have HST8 := Aside0.mk (St.on HSH.out hB8)
                  clear hB8 hp hr
                  go_wp2_with fail
                  refine (lives_at HST8.out).mono ?_
                  rintro e w9 ⟨rfl, h9⟩
                  have HST9 := Aside0.mk h9
                  clear h9
                  go_wp2_with fail
                  go_ret
                  exact ⟨rfl, HST9.out.below⟩
end Go.Proofs.Ytadkafhhkidecaa.P
