/- A law: what is handed to a book stays, and what it tells is new. -/
import Derived.Test.YtpdcmdofojckdaaDoorHLaws13
set_option linter.unusedVariables false
set_option linter.unusedSimpArgs false
namespace Go.Proofs.YtpdcmdofojckdaaDoor.P
open Go.RowKit Go.Proofs.YtpdcmdofojckdaaDoor.Pure Go.Proofs.YtpdcmdofojckdaaDoorW.PrintWords Go.Proofs.YtpdcmdofojckdaaDoorW.PrintLast Go.Proofs.YtpdcmdofojckdaaDoorW.PrintMore
/-- A row of N cells that is written over: its shape alone. -/
def PadN (A : Option Addr) (N : Nat) : Res where
  P := fun ok W => N = 0 ∨ ∃ g, A = some ⟨g, 0, none⟩ ∧ ok g ∧ ∃ ds t, W.heap[g]? = some (.cells ds t (0, 0)) ∧ N ≤ ds.size
  mono := fun hok h => h.imp id fun ⟨g, h1, h2, h3⟩ => ⟨g, h1, hok _ h2, h3⟩
  step := fun h hm => h.imp id fun ⟨g, h1, h2, ds, t, h3, h4⟩ => ⟨g, h1, h2, ds, t, (hm _ h2 (blk_lt h3)).trans h3, h4⟩
  bound := fun h => h.imp id fun ⟨g, h1, h2, ds, t, h3, h4⟩ => ⟨g, h1, ⟨h2, blk_lt h3⟩, ds, t, h3, h4⟩
theorem pad_of {α : Type} {d : Kd α} {e : TypeId} {A : Option Addr} {n c : Nat} {L : List α} {W : World} {ok : Nat → Prop} (h : (Res.row d e (.slice A n c) L).P ok W) : (PadN A (L.length * d.sz)).P ok W := by
  obtain ⟨hok, inner, ⟨hlen, ho⟩, hr⟩ := (show d.R e W 0 ok (.slice A n c) L from h)
  rcases ho with ⟨_, h0⟩ | ⟨g, cap, cur, hv, hg, hh, hcap, hml, hsz, htk⟩
  · exact .inl (by rw [h0, Nat.zero_mul])
  · injection hv with e1 e2 e3
    subst e1
    exact .inr ⟨g, rfl, hok g rfl, cur, e, hh, by rw [hsz]; exact Nat.mul_le_mul_right _ hcap⟩
section
variable {w0 W : World} {S : Nat → Prop} {Rs : List Res} {A : Option Addr} {N : Nat}
theorem pad_at (h : St w0 S W Rs) (i : Nat) (hi : Rs[i]? = some (PadN A N)) (h0 : i ≠ 0) (o : Nat) (vs : List Value) (ho : o + vs.length ≤ N) (hv : 0 < vs.length) (h1 : ∀ v ∈ vs, v.oneCell' = true) :
    ∃ g, A = some ⟨g, 0, none⟩ ∧ (∃ f : Nat → Value, (∀ j, j < vs.length → W.cell? ⟨g, o + j, none⟩ = some (f j))) ∧ (∀ j, W.frozen? ⟨g, o + j, none⟩ = false) ∧ St w0 S (W.setCells g o vs) Rs := by
  obtain ⟨ok, hp, hw⟩ := h.write i hi h0
  rcases hp with hp | ⟨g, hA, hg, ds, t, hh, hN⟩
  · omega
  · refine ⟨g, hA, ⟨fun j => ds.getD (o + j) undef, fun j hj => ?_⟩, fun j => blk_frozen hh _, ?_⟩
    · have hlt : o + j < ds.size := by omega
      rw [blk_cell hh, Array.getElem?_eq_getElem hlt]
      simp [Array.getD, hlt]
    · obtain ⟨s1, s2, s3, s4⟩ := setCells_same g vs o W
      obtain ⟨cur', c1, c2, _⟩ := setCells_row vs o W ds hh (by omega)
      have h2 := hw (W' := W.setCells g o vs) (R' := PadN A N) ⟨s1, s2, s3, by rw [s4]; exact Nat.le_refl _, fun k hk hn => setCells_far vs o k (fun e => hn (by rw [e]; exact hg))⟩ (.inr ⟨g, hA, .inl hg, cur', t, c1, by rw [c2]; exact hN⟩)
      rwa [show Rs.set i (PadN A N) = Rs from List.ext_getElem? fun j => by
        rw [List.getElem?_set]
        split
        · next e => subst e; split
                    · rw [hi]
                    · next hlt => rw [List.getElem?_eq_none (by omega)]
        · rfl] at h2
theorem to_pad {α : Type} {d : Kd α} {e : TypeId} {n c : Nat} {L : List α} (h : St w0 S W Rs) (i : Nat) (hi : Rs[i]? = some (Res.row d e (.slice A n c) L)) : St w0 S W (Rs.set i (PadN A (L.length * d.sz))) := h.turn i hi (fun ok hp => pad_of hp)
end
abbrev zsC : List Value := [.int .i64 0, .int .i64 0, .string ⟨#[]⟩, .int .i64 0, .string ⟨#[]⟩, .string ⟨#[]⟩, .string ⟨#[]⟩, .string ⟨#[]⟩, .string ⟨#[]⟩]
abbrev zsH : List Value := [.int .i64 0, .int .i64 0, .string ⟨#[]⟩, .int .i64 0, .string ⟨#[]⟩, .string ⟨#[]⟩, .string ⟨#[]⟩, .string ⟨#[]⟩, .string ⟨#[]⟩, .int .i64 0]
theorem zsC1 : ∀ v ∈ zsC, v.oneCell' = true := by
  intro v hv
  simp only [List.mem_cons, List.not_mem_nil, or_false] at hv
  rcases hv with rfl | rfl | rfl | rfl | rfl | rfl | rfl | rfl | rfl <;> rfl
theorem zsH1 : ∀ v ∈ zsH, v.oneCell' = true := by
  intro v hv
  simp only [List.mem_cons, List.not_mem_nil, or_false] at hv
  rcases hv with rfl | rfl | rfl | rfl | rfl | rfl | rfl | rfl | rfl | rfl <;> rfl
/-- Credentials are copied behind nothing. -/
theorem app_creds {ops : Array Oper} {rest : List Oper} {o : Oper} {a : Act} {Q : Exit → Act → World → Prop} {w0 W : World} {S : Nat → Prop} {Rs : List Res} (hst : St w0 S W Rs) (hgd : o.guard = none) (s x : Operand) (ho : o.op = .call { callee := .builtin .append, args := #[s, x], argTypes := #[27, 27] }) (ys : List CS) (A : Option Addr) (m c : Nat)
    (hs : a.eval s = .slice none 0 0) (hx : a.eval x = .slice A m c) (HR : k40.C W A m ys) (hl : m ≤ 100000)
    (K : ∀ A1 c1 w1, ys.length ≤ c1 → St w0 S w1 (Rs ++ [Res.row k40 40 (.slice A1 ys.length c1) ys]) → wpList Tryd.prog ops Q rest (a.put o.dst (.slice A1 ys.length c1)) w1) :
    wpList Tryd.prog ops Q (o :: rest) a W :=
  Kd.R_append_rows k40 (w0 := W) (W := W) W.heap.size hgd s x 27 40 (.agg #[(.int .i64 0), (.int .i64 0), (.string ⟨#[]⟩), (.int .i64 0), (.string ⟨#[]⟩), (.string ⟨#[]⟩), (.string ⟨#[]⟩), (.string ⟨#[]⟩), (.string ⟨#[]⟩)]) 120 ho Tryd.underlying27 info40 rfl (by decide) (by omega) (.slice none 0 0) ([] : List CS) ys A m c (fun k => W.heap.size ≤ k) (fun _ => False) hs hx
    (Kd.R_nil _ _ _ _ _) HR (fun _ _ h => h) (fun _ hk => hk.elim) (fun k hk => hk) (Below.refl _ _) (Nat.le_refl _) (by simp; omega) (fun v1 w1 h1 h2 _ _ => by
      rw [List.nil_append] at h1
      obtain ⟨A1, c1, rfl, hc, _⟩ := Kd.R_reads h1
      exact K A1 c1 w1 hc (hst.add h2 (Kd.R_lower h1 (Nat.zero_le _))))
set_option maxHeartbeats 16000000 in
set_option maxRecDepth 100000 in
theorem liverylaw13_LeaseOwns.walk (a0 : Int) (A1 : Option Addr) (c1 : Nat) (l1 : List S29) (a2 : Int) (w : World) (w0 : (Lit.int .i64 a0).wf = true) (w1 : (l1.length ≤ maxLen ∧ l1.length * 48 ≤ 140737488351232 ∧ ∀ y0 ∈ l1, q29 y0)) (hr1 : Kd.C k29 w A1 l1.length l1) (hc1 : l1.length ≤ c1) (w2 : (Lit.int .i64 a2).wf = true) :
    Calls Tryd.prog 5 #[.int .i64 a0, .slice A1 l1.length c1, .int .i64 a2] w fun e w' => e = .returned (.bool true) ∧ Below w.heap.size w w' := by
  obtain ⟨Fo, hF, hst⟩ := law_st hr1
  have HD := Aside0.mk hF
  have HST := Aside0.mk hst
  have hml := w1.1
  clear hF hst w1 w2 w0 hr1
  have hu := Tryd.underlying29
  by_cases ho : 1 ≤ a0 ∧ a0 ≤ 16
  · have HO := Aside0.mk ho
    clear ho
    go_enter Tryd.func5, Tryd.ntmps5
    go_wp2_with fail
    refine (newP_at HST.out a0 HO.out).mono ?_
    rintro e w1 ⟨gp, rfl, h1⟩
    have HST1 := Aside0.mk (show St w (fun _ => False) w1 [Res.agree w Fo, PBook gp (bk0 a0)] from h1)
    clear h1
    go_wp2_with fail
    obtain ⟨gr, egr⟩ : ∃ gr, gr = w1.heap.size := ⟨_, rfl⟩
    have h2 := boxR_at HST1.out a0
    rw [← egr] at h2 ⊢
    have HST2 := Aside0.mk (show St w (fun _ => False) (w1.alloc (.cells #[.int .i64 a0, .slice none 0 0, .slice none 0 0] 47)) [Res.agree w Fo, PBook gp (bk0 a0), RBook gr (bk0 a0)] from h2)
    clear h2 egr HST1
    go_loopw [9] (fun s9 wr => ∃ (i : Nat) (B : Bk), i ≤ l1.length ∧ i ≤ 15 ∧ s9 = .int .i64 (i : Int) ∧ Aside0 (Good13 B) ∧ Aside0 (St w (fun _ => False) wr [Res.agree w Fo, PBook gp B, RBook gr B])) (fun s9 _ => (16 - (intOf s9).toNat))
    case atStart => exact ⟨0, bk0 a0, by omega, by omega, rfl, ⟨good0 HO.out⟩, HST2⟩
    case round =>
      obtain ⟨i, B, hi, hi20, rfl, HG, HSR⟩ := hrel
      clear HST HST2
      by_cases hgo : i < l1.length ∧ i < 15
      · obtain ⟨hlt, h20⟩ := hgo
        have b1 : decide ((i : Int) < (l1.length : Int)) = true := decide_eq_true (by omega)
        have b2 : decide ((i : Int) < 15) = true := decide_eq_true (by omega)
        have b3 : decide (i < l1.length) = true := decide_eq_true hlt
        obtain ⟨ad, A4, c4, x, eA, hmem, hx0, hx1, hx2, hx3, l4, g4⟩ := deed_at HD.out i hlt
        subst eA
        obtain ⟨k, d, s, l, e0, e1, e2, e3⟩ : ∃ k d s l, x.f0 = k ∧ x.f1 = d ∧ x.f2 = s ∧ x.f3 = l := ⟨_, _, _, _, rfl, rfl, rfl, rfl⟩
        rw [e0] at hx0
        rw [e1] at hx1
        rw [e2] at hx2
        rw [e3] at hx3 l4 g4
        replace hx0 := pw_cell_below HSR.out.below hx0
        replace hx1 := pw_cell_below HSR.out.below hx1
        replace hx2 := pw_cell_below HSR.out.below hx2
        replace hx3 := pw_cell_below HSR.out.below hx3
        have HCL := Aside0.mk (show ∀ W', Agree w Fo W' → k40.C W' A4 (l.take 40).length (l.take 40) from fun W' h => C_cut (g4 W' h))
        obtain ⟨lc, elc⟩ : ∃ lc, l.take 40 = lc := ⟨_, rfl⟩
        have hlc : lc.length = min 40 l.length := by rw [← elc, List.length_take]
        rw [elc] at HCL
        have HLC := Aside0.mk (show lc.length ≤ 40 by omega)
        clear e0 e1 e2 e3 hmem g4 elc
        by_cases h40 : 40 < l.length
        · have h1 : decide ((40 : Int) < (l.length : Int)) = true := decide_eq_true (by omega)
          have hlcc : (40 : Int) ≤ (c4 : Int) := by omega
          have hln : lc.length = 40 := by omega
          have HLN := Aside0.mk hln
          clear h40 hlc hln
          have hstA := blk_add HSR.out (.cells #[.int .i64 k, .int .i64 d, .int .i64 s, .slice A4 40 c4] 29)
          have HSA := Aside0.mk (show St w (fun _ => False) (wr.alloc (.cells #[.int .i64 k, .int .i64 d, .int .i64 s, .slice A4 40 c4] 29)) [Res.agree w Fo, PBook gp B, RBook gr B, Res.blk wr.heap.size (.cells #[.int .i64 k, .int .i64 d, .int .i64 s, .slice A4 40 c4] 29 (0, 0))] from hstA)
          have HCA := Aside0.mk (show k40.C (wr.alloc (.cells #[.int .i64 k, .int .i64 d, .int .i64 s, .slice A4 40 c4] 29)) A4 40 lc by have := HCL.out _ (agree_of HSA.out); rwa [HLN.out] at this)
          clear hstA
          go_wp2_with (at_builtin; refine app_creds HSA.out rfl (.tmp 48) (.tmp 50) rfl lc A4 40 c4 rfl rfl HCA.out (by have := HLC.out; have := HLN.out; omega) ?_)
          intro A5 c5 w5 hc5 h5
          obtain ⟨bx, ebx⟩ : ∃ bx, bx = wr.heap.size := ⟨_, rfl⟩
          rw [← ebx] at h5 ⊢
          have HST5 := Aside0.mk (show St w (fun _ => False) w5 [Res.agree w Fo, PBook gp B, RBook gr B, Res.blk bx (.cells #[.int .i64 k, .int .i64 d, .int .i64 s, .slice A4 40 c4] 29 (0, 0)), Res.row k40 40 (.slice A5 lc.length c5) lc] from h5)
          obtain ⟨y0, y1, y2, y3, f0, f1, f2, f3⟩ := blk_all4 (blk_see HST5.out 3 rfl)
          obtain ⟨n5, en5⟩ : ∃ n5, lc.length = n5 := ⟨_, rfl⟩
          have HN5 := Aside0.mk en5
          rw [en5] at hc5 ⊢
          clear h5 hx0 hx1 hx2 hx3 HSA HCA HSR ebx en5
          go_wp2_with fail
          obtain ⟨bt, ebt⟩ : ∃ bt, bt = w5.heap.size := ⟨_, rfl⟩
          obtain ⟨w6, e6⟩ : ∃ w6, w6 = w5.alloc (.cells #[.int .i64 k, .int .i64 d, .int .i64 s, .slice A5 n5 c5] 29) := ⟨_, rfl⟩
          have h6 := blk_add HST5.out (.cells #[.int .i64 k, .int .i64 d, .int .i64 s, .slice A5 n5 c5] 29)
          rw [← e6, ← ebt] at h6 ⊢
          have HDO := Aside0.mk (does_at h6 1 2 rfl rfl (by decide) (by decide) (by decide) HG.out k d s (A := A5) (c := c5) (l := lc) (by rw [HN5.out]; exact hc5) (fun W' hW => (hW 4 _ (by decide) (by decide) rfl).elim fun ok hp => by
            have hp' : k40.R 40 W' 0 ok (.slice A5 lc.length c5) lc := hp
            exact (Kd.R_reads' hp').2.2))
          rw [HN5.out] at HDO
          clear h6 e6 ebt y0 y1 y2 y3 f0 f1 f2 f3 HST5
          refine HDO.out.mono ?_
          rintro e w7 ⟨rfl, h7⟩
          have HG2 := Aside0.mk (HG.out.step k d s lc)
          obtain ⟨B2, eB⟩ : ∃ B2, stepB k d s lc B = B2 := ⟨_, rfl⟩
          rw [eB] at h7 HG2
          have h7' := to_pad (show St w (fun _ => False) w7 [Res.agree w Fo, PBook gp B2, RBook gr B2, Res.blk bx (.cells #[.int .i64 k, .int .i64 d, .int .i64 s, .slice A4 40 c4] 29 (0, 0)), Res.row k40 40 (.slice A5 n5 c5) lc, Res.blk bt (.cells #[.int .i64 k, .int .i64 d, .int .i64 s, .slice A5 n5 c5] 29 (0, 0))] from h7) 4 rfl
          have HST7 := Aside0.mk (show St w (fun _ => False) w7 [Res.agree w Fo, PBook gp B2, RBook gr B2, Res.any, PadN A5 (n5 * 9)] from h7'.less fun i R' hi => by
            match i, hi with
            | 0, hi => cases hi; exact ⟨_, rfl, fun _ hp => hp⟩
            | 1, hi => cases hi; exact ⟨_, rfl, fun _ hp => hp⟩
            | 2, hi => cases hi; exact ⟨_, rfl, fun _ hp => hp⟩
            | 3, hi => cases hi; exact ⟨_, rfl, fun _ hp => trivial⟩
            | 4, hi => cases hi; exact ⟨PadN A5 (lc.length * 9), rfl, fun _ hp => by rw [← HN5.out]; exact hp⟩)
          have hn5 : n5 ≤ 40 := by rw [← HN5.out]; exact HLC.out
          have hlt2 := Aside0.mk (And.intro hlt h20)
          clear h7 h7' eB HDO HG hlt h20
          go_wp2_with fail
          go_loopw [14] (fun s14 wr => ∃ q : Nat, q ≤ n5 ∧ s14 = .int .i64 (q : Int) ∧ Aside0 (St w (fun _ => False) wr [Res.agree w Fo, PBook gp B2, RBook gr B2, Res.any, PadN A5 (n5 * 9)])) (fun s14 _ => (n5 - (intOf s14).toNat))
          case atStart => exact ⟨0, by omega, rfl, HST7⟩
          case round =>
            obtain ⟨q, hq, rfl, HS8⟩ := hrel
            clear HST7
            by_cases hql : q < n5
            · have p1 : decide ((q : Int) < (n5 : Int)) = true := decide_eq_true (by omega)
              have p2 : decide (q < n5) = true := decide_eq_true hql
              obtain ⟨ga, rfl, ⟨f, hf⟩, hz, h9⟩ := pad_at HS8.out 4 rfl (by decide) (q * 9) zsC (by have := Nat.mul_le_mul_right 9 (show q + 1 ≤ n5 from hql); rw [Nat.add_mul, Nat.one_mul] at this; exact this) (by decide) zsC1
              have hx0 : wr.cell? ⟨ga, q * 9, none⟩ = some (f 0) := hf 0 (by decide)
              have hz0 : wr.frozen? ⟨ga, q * 9, none⟩ = false := hz 0
              have hx1 : wr.cell? ⟨ga, q * 9 + 1, none⟩ = some (f 1) := hf 1 (by decide)
              have hz1 : wr.frozen? ⟨ga, q * 9 + 1, none⟩ = false := hz 1
              have hx2 : wr.cell? ⟨ga, q * 9 + 2, none⟩ = some (f 2) := hf 2 (by decide)
              have hz2 : wr.frozen? ⟨ga, q * 9 + 2, none⟩ = false := hz 2
              have hx3 : wr.cell? ⟨ga, q * 9 + 3, none⟩ = some (f 3) := hf 3 (by decide)
              have hz3 : wr.frozen? ⟨ga, q * 9 + 3, none⟩ = false := hz 3
              have hx4 : wr.cell? ⟨ga, q * 9 + 4, none⟩ = some (f 4) := hf 4 (by decide)
              have hz4 : wr.frozen? ⟨ga, q * 9 + 4, none⟩ = false := hz 4
              have hx5 : wr.cell? ⟨ga, q * 9 + 5, none⟩ = some (f 5) := hf 5 (by decide)
              have hz5 : wr.frozen? ⟨ga, q * 9 + 5, none⟩ = false := hz 5
              have hx6 : wr.cell? ⟨ga, q * 9 + 6, none⟩ = some (f 6) := hf 6 (by decide)
              have hz6 : wr.frozen? ⟨ga, q * 9 + 6, none⟩ = false := hz 6
              have hx7 : wr.cell? ⟨ga, q * 9 + 7, none⟩ = some (f 7) := hf 7 (by decide)
              have hz7 : wr.frozen? ⟨ga, q * 9 + 7, none⟩ = false := hz 7
              have hx8 : wr.cell? ⟨ga, q * 9 + 8, none⟩ = some (f 8) := hf 8 (by decide)
              have hz8 : wr.frozen? ⟨ga, q * 9 + 8, none⟩ = false := hz 8
              have HST9 := Aside0.mk h9
              clear hf hz h9
              go_wp2_with fail
              go_roundw
              case rel => exact ⟨q + 1, by omega, by simp, HST9⟩
              case measure => simp [intOf]; omega
            · have p1 : decide ((q : Int) < (n5 : Int)) = false := decide_eq_false (by omega)
              have p2 : decide (q < n5) = false := decide_eq_false (by omega)
              have HP := Aside0.mk (heldP_at HS8.out 1 rfl HG2.out a2)
              have HLL := Aside0.mk (heldL_length HG2.out a2)
              obtain ⟨L, eL⟩ : ∃ L, heldL B2 a2 = L := ⟨_, rfl⟩
              rw [eL] at HP HLL
              clear eL
              go_wp2_with fail
              refine HP.out.mono ?_
              rintro e w9 ⟨A6, c6, rfl, hc6, hC6, h9⟩
              have h9' := to_pad h9 5 rfl
              obtain ⟨n6, en6⟩ : ∃ n6, L.length = n6 := ⟨_, rfl⟩
              have hn6 : n6 ≤ 384 := by rw [← en6]; exact HLL.out
              have HST9 := Aside0.mk (show St w (fun _ => False) w9 [Res.agree w Fo, PBook gp B2, RBook gr B2, Res.any, Res.any, PadN A6 (n6 * 10)] from h9'.less fun i R' hi => by
                match i, hi with
                | 0, hi => cases hi; exact ⟨_, rfl, fun _ hp => hp⟩
                | 1, hi => cases hi; exact ⟨_, rfl, fun _ hp => hp⟩
                | 2, hi => cases hi; exact ⟨_, rfl, fun _ hp => hp⟩
                | 3, hi => cases hi; exact ⟨_, rfl, fun _ hp => trivial⟩
                | 4, hi => cases hi; exact ⟨_, rfl, fun _ hp => trivial⟩
                | 5, hi => cases hi; exact ⟨PadN A6 (L.length * 10), rfl, fun _ hp => by rw [← en6]; exact hp⟩)
              rw [en6] at hc6 ⊢
              clear h9 h9' en6 hC6 HP HS8
              go_wp2_with fail
              go_loopw [16] (fun s16 wr => ∃ z : Nat, z ≤ n6 ∧ s16 = .int .i64 (z : Int) ∧ Aside0 (St w (fun _ => False) wr [Res.agree w Fo, PBook gp B2, RBook gr B2, Res.any, Res.any, PadN A6 (n6 * 10)])) (fun s16 _ => (n6 - (intOf s16).toNat))
              case atStart => exact ⟨0, by omega, rfl, HST9⟩
              case round =>
                obtain ⟨z, hz, rfl, HS10⟩ := hrel
                clear HST9
                by_cases hzl : z < n6
                · have p3 : decide ((z : Int) < (n6 : Int)) = true := decide_eq_true (by omega)
                  have p4 : decide (z < n6) = true := decide_eq_true hzl
                  obtain ⟨ga, rfl, ⟨f, hf⟩, hz, h9⟩ := pad_at HS10.out 5 rfl (by decide) (z * 10) zsH (by have := Nat.mul_le_mul_right 10 (show z + 1 ≤ n6 from hzl); rw [Nat.add_mul, Nat.one_mul] at this; exact this) (by decide) zsH1
                  have hx0 : wr.cell? ⟨ga, z * 10, none⟩ = some (f 0) := hf 0 (by decide)
                  have hz0 : wr.frozen? ⟨ga, z * 10, none⟩ = false := hz 0
                  have hx1 : wr.cell? ⟨ga, z * 10 + 1, none⟩ = some (f 1) := hf 1 (by decide)
                  have hz1 : wr.frozen? ⟨ga, z * 10 + 1, none⟩ = false := hz 1
                  have hx2 : wr.cell? ⟨ga, z * 10 + 2, none⟩ = some (f 2) := hf 2 (by decide)
                  have hz2 : wr.frozen? ⟨ga, z * 10 + 2, none⟩ = false := hz 2
                  have hx3 : wr.cell? ⟨ga, z * 10 + 3, none⟩ = some (f 3) := hf 3 (by decide)
                  have hz3 : wr.frozen? ⟨ga, z * 10 + 3, none⟩ = false := hz 3
                  have hx4 : wr.cell? ⟨ga, z * 10 + 4, none⟩ = some (f 4) := hf 4 (by decide)
                  have hz4 : wr.frozen? ⟨ga, z * 10 + 4, none⟩ = false := hz 4
                  have hx5 : wr.cell? ⟨ga, z * 10 + 5, none⟩ = some (f 5) := hf 5 (by decide)
                  have hz5 : wr.frozen? ⟨ga, z * 10 + 5, none⟩ = false := hz 5
                  have hx6 : wr.cell? ⟨ga, z * 10 + 6, none⟩ = some (f 6) := hf 6 (by decide)
                  have hz6 : wr.frozen? ⟨ga, z * 10 + 6, none⟩ = false := hz 6
                  have hx7 : wr.cell? ⟨ga, z * 10 + 7, none⟩ = some (f 7) := hf 7 (by decide)
                  have hz7 : wr.frozen? ⟨ga, z * 10 + 7, none⟩ = false := hz 7
                  have hx8 : wr.cell? ⟨ga, z * 10 + 8, none⟩ = some (f 8) := hf 8 (by decide)
                  have hz8 : wr.frozen? ⟨ga, z * 10 + 8, none⟩ = false := hz 8
                  have hx9 : wr.cell? ⟨ga, z * 10 + 9, none⟩ = some (f 9) := hf 9 (by decide)
                  have hz9 : wr.frozen? ⟨ga, z * 10 + 9, none⟩ = false := hz 9
                  have HST9 := Aside0.mk h9
                  clear hf hz h9
                  go_wp2_with fail
                  go_roundw
                  case rel => exact ⟨z + 1, by omega, by simp, HST9⟩
                  case measure => simp [intOf]; omega
                · have p3 : decide ((z : Int) < (n6 : Int)) = false := decide_eq_false (by omega)
                  have p4 : decide (z < n6) = false := decide_eq_false (by omega)
                  have hii := hlt2.out
                  go_wp2_with fail
                  go_roundw
                  case rel => exact ⟨i + 1, B2, by omega, by omega, by simp, HG2, ⟨less3 HS10.out⟩⟩
                  case measure => simp [intOf]; omega
        · have h1 : decide ((40 : Int) < (l.length : Int)) = false := decide_eq_false (by omega)
          obtain ⟨n, en⟩ : ∃ n, l.length = n := ⟨_, rfl⟩
          have hln : lc.length = n := by omega
          have HLN := Aside0.mk hln
          rw [en] at hx3 l4 h1
          clear h40 hlc hln en
          have hstA := blk_add HSR.out (.cells #[.int .i64 k, .int .i64 d, .int .i64 s, .slice A4 n c4] 29)
          have HSA := Aside0.mk (show St w (fun _ => False) (wr.alloc (.cells #[.int .i64 k, .int .i64 d, .int .i64 s, .slice A4 n c4] 29)) [Res.agree w Fo, PBook gp B, RBook gr B, Res.blk wr.heap.size (.cells #[.int .i64 k, .int .i64 d, .int .i64 s, .slice A4 n c4] 29 (0, 0))] from hstA)
          have HCA := Aside0.mk (show k40.C (wr.alloc (.cells #[.int .i64 k, .int .i64 d, .int .i64 s, .slice A4 n c4] 29)) A4 n lc by have := HCL.out _ (agree_of HSA.out); rwa [HLN.out] at this)
          clear hstA
          go_wp2_with (at_builtin; refine app_creds HSA.out rfl (.tmp 48) (.tmp 50) rfl lc A4 n c4 rfl rfl HCA.out (by have := HLC.out; have := HLN.out; omega) ?_)
          intro A5 c5 w5 hc5 h5
          obtain ⟨bx, ebx⟩ : ∃ bx, bx = wr.heap.size := ⟨_, rfl⟩
          rw [← ebx] at h5 ⊢
          have HST5 := Aside0.mk (show St w (fun _ => False) w5 [Res.agree w Fo, PBook gp B, RBook gr B, Res.blk bx (.cells #[.int .i64 k, .int .i64 d, .int .i64 s, .slice A4 n c4] 29 (0, 0)), Res.row k40 40 (.slice A5 lc.length c5) lc] from h5)
          obtain ⟨y0, y1, y2, y3, f0, f1, f2, f3⟩ := blk_all4 (blk_see HST5.out 3 rfl)
          obtain ⟨n5, en5⟩ : ∃ n5, lc.length = n5 := ⟨_, rfl⟩
          have HN5 := Aside0.mk en5
          rw [en5] at hc5 ⊢
          clear h5 hx0 hx1 hx2 hx3 HSA HCA HSR ebx en5
          go_wp2_with fail
          obtain ⟨bt, ebt⟩ : ∃ bt, bt = w5.heap.size := ⟨_, rfl⟩
          obtain ⟨w6, e6⟩ : ∃ w6, w6 = w5.alloc (.cells #[.int .i64 k, .int .i64 d, .int .i64 s, .slice A5 n5 c5] 29) := ⟨_, rfl⟩
          have h6 := blk_add HST5.out (.cells #[.int .i64 k, .int .i64 d, .int .i64 s, .slice A5 n5 c5] 29)
          rw [← e6, ← ebt] at h6 ⊢
          have HDO := Aside0.mk (does_at h6 1 2 rfl rfl (by decide) (by decide) (by decide) HG.out k d s (A := A5) (c := c5) (l := lc) (by rw [HN5.out]; exact hc5) (fun W' hW => (hW 4 _ (by decide) (by decide) rfl).elim fun ok hp => by
            have hp' : k40.R 40 W' 0 ok (.slice A5 lc.length c5) lc := hp
            exact (Kd.R_reads' hp').2.2))
          rw [HN5.out] at HDO
          clear h6 e6 ebt y0 y1 y2 y3 f0 f1 f2 f3 HST5
          refine HDO.out.mono ?_
          rintro e w7 ⟨rfl, h7⟩
          have HG2 := Aside0.mk (HG.out.step k d s lc)
          obtain ⟨B2, eB⟩ : ∃ B2, stepB k d s lc B = B2 := ⟨_, rfl⟩
          rw [eB] at h7 HG2
          have h7' := to_pad (show St w (fun _ => False) w7 [Res.agree w Fo, PBook gp B2, RBook gr B2, Res.blk bx (.cells #[.int .i64 k, .int .i64 d, .int .i64 s, .slice A4 n c4] 29 (0, 0)), Res.row k40 40 (.slice A5 n5 c5) lc, Res.blk bt (.cells #[.int .i64 k, .int .i64 d, .int .i64 s, .slice A5 n5 c5] 29 (0, 0))] from h7) 4 rfl
          have HST7 := Aside0.mk (show St w (fun _ => False) w7 [Res.agree w Fo, PBook gp B2, RBook gr B2, Res.any, PadN A5 (n5 * 9)] from h7'.less fun i R' hi => by
            match i, hi with
            | 0, hi => cases hi; exact ⟨_, rfl, fun _ hp => hp⟩
            | 1, hi => cases hi; exact ⟨_, rfl, fun _ hp => hp⟩
            | 2, hi => cases hi; exact ⟨_, rfl, fun _ hp => hp⟩
            | 3, hi => cases hi; exact ⟨_, rfl, fun _ hp => trivial⟩
            | 4, hi => cases hi; exact ⟨PadN A5 (lc.length * 9), rfl, fun _ hp => by rw [← HN5.out]; exact hp⟩)
          have hn5 : n5 ≤ 40 := by rw [← HN5.out]; exact HLC.out
          have hlt2 := Aside0.mk (And.intro hlt h20)
          clear h7 h7' eB HDO HG hlt h20
          go_wp2_with fail
          go_loopw [14] (fun s14 wr => ∃ q : Nat, q ≤ n5 ∧ s14 = .int .i64 (q : Int) ∧ Aside0 (St w (fun _ => False) wr [Res.agree w Fo, PBook gp B2, RBook gr B2, Res.any, PadN A5 (n5 * 9)])) (fun s14 _ => (n5 - (intOf s14).toNat))
          case atStart => exact ⟨0, by omega, rfl, HST7⟩
          case round =>
            obtain ⟨q, hq, rfl, HS8⟩ := hrel
            clear HST7
            by_cases hql : q < n5
            · have p1 : decide ((q : Int) < (n5 : Int)) = true := decide_eq_true (by omega)
              have p2 : decide (q < n5) = true := decide_eq_true hql
              obtain ⟨ga, rfl, ⟨f, hf⟩, hz, h9⟩ := pad_at HS8.out 4 rfl (by decide) (q * 9) zsC (by have := Nat.mul_le_mul_right 9 (show q + 1 ≤ n5 from hql); rw [Nat.add_mul, Nat.one_mul] at this; exact this) (by decide) zsC1
              have hx0 : wr.cell? ⟨ga, q * 9, none⟩ = some (f 0) := hf 0 (by decide)
              have hz0 : wr.frozen? ⟨ga, q * 9, none⟩ = false := hz 0
              have hx1 : wr.cell? ⟨ga, q * 9 + 1, none⟩ = some (f 1) := hf 1 (by decide)
              have hz1 : wr.frozen? ⟨ga, q * 9 + 1, none⟩ = false := hz 1
              have hx2 : wr.cell? ⟨ga, q * 9 + 2, none⟩ = some (f 2) := hf 2 (by decide)
              have hz2 : wr.frozen? ⟨ga, q * 9 + 2, none⟩ = false := hz 2
              have hx3 : wr.cell? ⟨ga, q * 9 + 3, none⟩ = some (f 3) := hf 3 (by decide)
              have hz3 : wr.frozen? ⟨ga, q * 9 + 3, none⟩ = false := hz 3
              have hx4 : wr.cell? ⟨ga, q * 9 + 4, none⟩ = some (f 4) := hf 4 (by decide)
              have hz4 : wr.frozen? ⟨ga, q * 9 + 4, none⟩ = false := hz 4
              have hx5 : wr.cell? ⟨ga, q * 9 + 5, none⟩ = some (f 5) := hf 5 (by decide)
              have hz5 : wr.frozen? ⟨ga, q * 9 + 5, none⟩ = false := hz 5
              have hx6 : wr.cell? ⟨ga, q * 9 + 6, none⟩ = some (f 6) := hf 6 (by decide)
              have hz6 : wr.frozen? ⟨ga, q * 9 + 6, none⟩ = false := hz 6
              have hx7 : wr.cell? ⟨ga, q * 9 + 7, none⟩ = some (f 7) := hf 7 (by decide)
              have hz7 : wr.frozen? ⟨ga, q * 9 + 7, none⟩ = false := hz 7
              have hx8 : wr.cell? ⟨ga, q * 9 + 8, none⟩ = some (f 8) := hf 8 (by decide)
              have hz8 : wr.frozen? ⟨ga, q * 9 + 8, none⟩ = false := hz 8
              have HST9 := Aside0.mk h9
              clear hf hz h9
              go_wp2_with fail
              go_roundw
              case rel => exact ⟨q + 1, by omega, by simp, HST9⟩
              case measure => simp [intOf]; omega
            · have p1 : decide ((q : Int) < (n5 : Int)) = false := decide_eq_false (by omega)
              have p2 : decide (q < n5) = false := decide_eq_false (by omega)
              have HP := Aside0.mk (heldP_at HS8.out 1 rfl HG2.out a2)
              have HLL := Aside0.mk (heldL_length HG2.out a2)
              obtain ⟨L, eL⟩ : ∃ L, heldL B2 a2 = L := ⟨_, rfl⟩
              rw [eL] at HP HLL
              clear eL
              go_wp2_with fail
              refine HP.out.mono ?_
              rintro e w9 ⟨A6, c6, rfl, hc6, hC6, h9⟩
              have h9' := to_pad h9 5 rfl
              obtain ⟨n6, en6⟩ : ∃ n6, L.length = n6 := ⟨_, rfl⟩
              have hn6 : n6 ≤ 384 := by rw [← en6]; exact HLL.out
              have HST9 := Aside0.mk (show St w (fun _ => False) w9 [Res.agree w Fo, PBook gp B2, RBook gr B2, Res.any, Res.any, PadN A6 (n6 * 10)] from h9'.less fun i R' hi => by
                match i, hi with
                | 0, hi => cases hi; exact ⟨_, rfl, fun _ hp => hp⟩
                | 1, hi => cases hi; exact ⟨_, rfl, fun _ hp => hp⟩
                | 2, hi => cases hi; exact ⟨_, rfl, fun _ hp => hp⟩
                | 3, hi => cases hi; exact ⟨_, rfl, fun _ hp => trivial⟩
                | 4, hi => cases hi; exact ⟨_, rfl, fun _ hp => trivial⟩
                | 5, hi => cases hi; exact ⟨PadN A6 (L.length * 10), rfl, fun _ hp => by rw [← en6]; exact hp⟩)
              rw [en6] at hc6 ⊢
              clear h9 h9' en6 hC6 HP HS8
              go_wp2_with fail
              go_loopw [16] (fun s16 wr => ∃ z : Nat, z ≤ n6 ∧ s16 = .int .i64 (z : Int) ∧ Aside0 (St w (fun _ => False) wr [Res.agree w Fo, PBook gp B2, RBook gr B2, Res.any, Res.any, PadN A6 (n6 * 10)])) (fun s16 _ => (n6 - (intOf s16).toNat))
              case atStart => exact ⟨0, by omega, rfl, HST9⟩
              case round =>
                obtain ⟨z, hz, rfl, HS10⟩ := hrel
                clear HST9
                by_cases hzl : z < n6
                · have p3 : decide ((z : Int) < (n6 : Int)) = true := decide_eq_true (by omega)
                  have p4 : decide (z < n6) = true := decide_eq_true hzl
                  obtain ⟨ga, rfl, ⟨f, hf⟩, hz, h9⟩ := pad_at HS10.out 5 rfl (by decide) (z * 10) zsH (by have := Nat.mul_le_mul_right 10 (show z + 1 ≤ n6 from hzl); rw [Nat.add_mul, Nat.one_mul] at this; exact this) (by decide) zsH1
                  have hx0 : wr.cell? ⟨ga, z * 10, none⟩ = some (f 0) := hf 0 (by decide)
                  have hz0 : wr.frozen? ⟨ga, z * 10, none⟩ = false := hz 0
                  have hx1 : wr.cell? ⟨ga, z * 10 + 1, none⟩ = some (f 1) := hf 1 (by decide)
                  have hz1 : wr.frozen? ⟨ga, z * 10 + 1, none⟩ = false := hz 1
                  have hx2 : wr.cell? ⟨ga, z * 10 + 2, none⟩ = some (f 2) := hf 2 (by decide)
                  have hz2 : wr.frozen? ⟨ga, z * 10 + 2, none⟩ = false := hz 2
                  have hx3 : wr.cell? ⟨ga, z * 10 + 3, none⟩ = some (f 3) := hf 3 (by decide)
                  have hz3 : wr.frozen? ⟨ga, z * 10 + 3, none⟩ = false := hz 3
                  have hx4 : wr.cell? ⟨ga, z * 10 + 4, none⟩ = some (f 4) := hf 4 (by decide)
                  have hz4 : wr.frozen? ⟨ga, z * 10 + 4, none⟩ = false := hz 4
                  have hx5 : wr.cell? ⟨ga, z * 10 + 5, none⟩ = some (f 5) := hf 5 (by decide)
                  have hz5 : wr.frozen? ⟨ga, z * 10 + 5, none⟩ = false := hz 5
                  have hx6 : wr.cell? ⟨ga, z * 10 + 6, none⟩ = some (f 6) := hf 6 (by decide)
                  have hz6 : wr.frozen? ⟨ga, z * 10 + 6, none⟩ = false := hz 6
                  have hx7 : wr.cell? ⟨ga, z * 10 + 7, none⟩ = some (f 7) := hf 7 (by decide)
                  have hz7 : wr.frozen? ⟨ga, z * 10 + 7, none⟩ = false := hz 7
                  have hx8 : wr.cell? ⟨ga, z * 10 + 8, none⟩ = some (f 8) := hf 8 (by decide)
                  have hz8 : wr.frozen? ⟨ga, z * 10 + 8, none⟩ = false := hz 8
                  have hx9 : wr.cell? ⟨ga, z * 10 + 9, none⟩ = some (f 9) := hf 9 (by decide)
                  have hz9 : wr.frozen? ⟨ga, z * 10 + 9, none⟩ = false := hz 9
                  have HST9 := Aside0.mk h9
                  clear hf hz h9
                  go_wp2_with fail
                  go_roundw
                  case rel => exact ⟨z + 1, by omega, by simp, HST9⟩
                  case measure => simp [intOf]; omega
                · have p3 : decide ((z : Int) < (n6 : Int)) = false := decide_eq_false (by omega)
                  have p4 : decide (z < n6) = false := decide_eq_false (by omega)
                  have hii := hlt2.out
                  go_wp2_with fail
                  go_roundw
                  case rel => exact ⟨i + 1, B2, by omega, by omega, by simp, HG2, ⟨less3 HS10.out⟩⟩
                  case measure => simp [intOf]; omega
      · by_cases hlt : i < l1.length
        · have e20 : i = 15 := by omega
          subst e20
          have b1 : decide ((15 : Int) < (l1.length : Int)) = true := decide_eq_true (by omega)
          clear hgo
          have HP := Aside0.mk (heldP_at HSR.out 1 rfl HG.out a2)
          have HLL := Aside0.mk (heldL_length HG.out a2)
          obtain ⟨L, eL⟩ : ∃ L, heldL B a2 = L := ⟨_, rfl⟩
          rw [eL] at HP HLL
          go_wp2_with fail
          refine HP.out.mono ?_
          rintro e w4 ⟨A5, c5, rfl, hc5, hC5, h4⟩
          have HST4 := Aside0.mk (show St w (fun _ => False) w4 [Res.agree w Fo, PBook gp B, RBook gr B, Res.row k42 42 (.slice A5 L.length c5) L] from h4)
          have HR := Aside0.mk (heldR_at HST4.out 2 rfl HG.out a2)
          rw [eL] at HR
          clear h4 hC5 HP
          go_wp2_with fail
          refine HR.out.mono ?_
          rintro e w5 ⟨A6, c6, rfl, hc6, hC6, h5⟩
          have HST5 := Aside0.mk (show St w (fun _ => False) w5 [Res.agree w Fo, PBook gp B, RBook gr B, Res.row k42 42 (.slice A5 L.length c5) L, Res.row k42 42 (.slice A6 L.length c6) L] from h5)
          have HSM := Aside0.mk (same_at HST5.out (row_C HST5.out 3 rfl) hC6 hc5 hc6 (by have := HLL.out; omega))
          clear h5 hC6 HR HST4 eL
          go_wp2_with fail
          refine HSM.out.mono ?_
          rintro e w6 ⟨rfl, h6⟩
          have HST6 := Aside0.mk h6
          clear h6 HSM HST5
          go_wp2_with fail
          refine (lives_at HST6.out).mono ?_
          rintro e w7 ⟨rfl, h7⟩
          have HST7 := Aside0.mk h7
          clear h7
          go_wp2_with fail
          go_ret
          exact ⟨rfl, HST7.out.below⟩
        · have b1 : decide ((i : Int) < (l1.length : Int)) = false := decide_eq_false (by omega)
          clear hgo
          have HP := Aside0.mk (heldP_at HSR.out 1 rfl HG.out a2)
          have HLL := Aside0.mk (heldL_length HG.out a2)
          obtain ⟨L, eL⟩ : ∃ L, heldL B a2 = L := ⟨_, rfl⟩
          rw [eL] at HP HLL
          go_wp2_with fail
          refine HP.out.mono ?_
          rintro e w4 ⟨A5, c5, rfl, hc5, hC5, h4⟩
          have HST4 := Aside0.mk (show St w (fun _ => False) w4 [Res.agree w Fo, PBook gp B, RBook gr B, Res.row k42 42 (.slice A5 L.length c5) L] from h4)
          have HR := Aside0.mk (heldR_at HST4.out 2 rfl HG.out a2)
          rw [eL] at HR
          clear h4 hC5 HP
          go_wp2_with fail
          refine HR.out.mono ?_
          rintro e w5 ⟨A6, c6, rfl, hc6, hC6, h5⟩
          have HST5 := Aside0.mk (show St w (fun _ => False) w5 [Res.agree w Fo, PBook gp B, RBook gr B, Res.row k42 42 (.slice A5 L.length c5) L, Res.row k42 42 (.slice A6 L.length c6) L] from h5)
          have HSM := Aside0.mk (same_at HST5.out (row_C HST5.out 3 rfl) hC6 hc5 hc6 (by have := HLL.out; omega))
          clear h5 hC6 HR HST4 eL
          go_wp2_with fail
          refine HSM.out.mono ?_
          rintro e w6 ⟨rfl, h6⟩
          have HST6 := Aside0.mk h6
          clear h6 HSM HST5
          go_wp2_with fail
          refine (lives_at HST6.out).mono ?_
          rintro e w7 ⟨rfl, h7⟩
          have HST7 := Aside0.mk h7
          clear h7
          go_wp2_with fail
          go_ret
          exact ⟨rfl, HST7.out.below⟩
  · have HN := Aside0.mk (newP_no HST.out a0 ho)
    clear ho
    go_enter Tryd.func5, Tryd.ntmps5
    go_wp2_with fail
    refine HN.out.mono ?_
    rintro e w1 ⟨rfl, h1⟩
    have HST1 := Aside0.mk h1
    clear h1
    go_wp2_with fail
    refine (lives_at HST1.out).mono ?_
    rintro e w7 ⟨rfl, h7⟩
    have HST7 := Aside0.mk h7
    clear h7
    go_wp2_with fail
    go_ret
    exact ⟨rfl, HST7.out.below⟩
end Go.Proofs.YtpdcmdofojckdaaDoor.P
