/- Texts of this claim, laid into one. -/
import Derived.Test.YtmfmoddaejoekaaHTapeI
import Derived.WalkMore
import Derived.ScopeJumps
import Derived.Scope
import Derived.Test.YtmfmoddaejoekaaP1
section
/- Contracts, typed by hand: the check sum. -/
set_option linter.unusedVariables false
set_option linter.unusedSimpArgs false
namespace Go.Proofs.Ytmfmoddaejoekaa.P
open Go.RowKit Go.Proofs.YtmfmoddaejoekaaW.PrintWords Go.Proofs.YtmfmoddaejoekaaW.PrintLast Go.Proofs.YtmfmoddaejoekaaW.PrintMore
/-- A register behind one bit, behind some, behind a byte, behind bytes. -/
def bit16 (r : Int) : Int := if (Go.bits .and .u16 r 32768 != 0) = true then Go.bits .xor .u16 (IntKind.u16.wrap (r * 2)) 4129 else IntKind.u16.wrap (r * 2)
def bits16 : Nat → Int → Int
  | 0, r => r
  | n + 1, r => bits16 n (bit16 r)
def byte16 (r b : Int) : Int := bits16 8 (Go.bits .xor .u16 r (IntKind.u16.wrap (IntKind.u16.wrap b * 256)))
def sumR (r : Int) (l : List Int) : Int := l.foldl byte16 r
def sumM (l : List Int) : Int := wrap64 (sumR (IntKind.u16.wrap 65535) l)
set_option maxHeartbeats 4000000 in
set_option maxRecDepth 100000 in
theorem sums_byteIn.calls (r b : Int) (W : World) : Calls Try.prog 82 #[.int .u16 r, .int .u8 b] W fun e W' => e = .returned (.int .u16 (byte16 r b)) ∧ W = W' := by
  go_enter Try.func82, Try.ntmps82
  go_wp2_with fail
  refine wp_scope_jumps 0 (fun a' w' => w' = W ∧ ∃ (m : Nat) (acc : Int) (u6 u7 u8 u9 u10 u11 u12 u13 u14 u15 u16 u17 u18 u19 u20 u21 u22 u23 : Value), a' = { tmps := #[.int .u16 acc, .int .u8 b, undef, undef, .int .u16 0, .int .i64 (m : Int), u6, u7, u8, u9, u10, u11, u12, u13, u14, u15, u16, u17, u18, u19, u20, u21, u22, u23, undef], defers := [] } ∧ m ≤ 7 ∧ Aside0 (bits16 (8 - m) acc = byte16 r b)) (fun a' _ => (8 - (intOf (a'.tmps.getD 5 undef)).toNat)) rfl ?_ ?_
  · go_wp2_with fail
    go_step3
    obtain ⟨x, ex⟩ : ∃ x, Go.bits .xor .u16 r (IntKind.u16.wrap (IntKind.u16.wrap b * 256)) = x := ⟨_, rfl⟩
    have HX := Aside0.mk (show bits16 7 (bit16 x) = byte16 r b by rw [← ex]; rfl)
    rw [ex]
    clear ex
    obtain ⟨h, eh⟩ : ∃ h, (Go.bits .and .u16 x 32768 != 0) = h := ⟨_, rfl⟩
    have HH := Aside0.mk eh
    cases h with
    | true =>
      go_wp2_with fail
      go_step3
      refine ⟨rfl, rfl, 1, _, _, _, _, _, _, _, _, _, _, _, _, _, _, _, _, _, _, _, rfl, by omega, ⟨?_⟩⟩
      rw [← HX.out]
      show bits16 7 _ = _
      rw [show bit16 x = _ from if_pos HH.out]
    | false =>
      go_wp2_with fail
      go_step3
      refine ⟨rfl, rfl, 1, _, _, _, _, _, _, _, _, _, _, _, _, _, _, _, _, _, _, _, rfl, by omega, ⟨?_⟩⟩
      rw [← HX.out]
      show bits16 7 _ = _
      rw [show bit16 x = _ from if_neg (by rw [HH.out]; decide)]
  · rintro a' w' ⟨rfl, m, x, u6, u7, u8, u9, u10, u11, u12, u13, u14, u15, u16, u17, u18, u19, u20, u21, u22, u23, rfl, hm, HI⟩
    have w1 : wrap64 ((m : Int) + 1) = (m : Int) + 1 := by unfold wrap64; omega
    have HX := Aside0.mk (show bits16 (7 - m) (bit16 x) = byte16 r b by rw [← HI.out, show 8 - m = (7 - m) + 1 by omega]; rfl)
    obtain ⟨h, eh⟩ : ∃ h, (Go.bits .and .u16 x 32768 != 0) = h := ⟨_, rfl⟩
    have HH := Aside0.mk eh
    by_cases h7 : m = 7
    · subst h7
      cases h with
      | true =>
        go_wp2_with fail
        simp only [Exit.jump]
        go_ret
        refine ⟨?_, rfl⟩
        rw [← HX.out, show bit16 x = _ from if_pos HH.out]
        rfl
      | false =>
        go_wp2_with fail
        simp only [Exit.jump]
        go_ret
        refine ⟨?_, rfl⟩
        rw [← HX.out, show bit16 x = _ from if_neg (by rw [HH.out]; decide)]
        rfl
    · have b1 : decide ((m : Int) + 1 < 8) = true := decide_eq_true (by omega)
      cases h with
      | true =>
        go_wp2_with fail
        go_step3
        refine ⟨rfl, ⟨rfl, m + 1, _, _, _, _, _, _, _, _, _, _, _, _, _, _, _, _, _, _, _, rfl, by omega, ⟨?_⟩⟩, by simp [intOf]; omega⟩
        rw [← HX.out, show 8 - (m + 1) = 7 - m by omega]
        rw [show bit16 x = _ from if_pos HH.out]
      | false =>
        go_wp2_with fail
        go_step3
        refine ⟨rfl, ⟨rfl, m + 1, _, _, _, _, _, _, _, _, _, _, _, _, _, _, _, _, _, _, _, rfl, by omega, ⟨?_⟩⟩, by simp [intOf]; omega⟩
        rw [← HX.out, show 8 - (m + 1) = 7 - m by omega]
        rw [show bit16 x = _ from if_neg (by rw [HH.out]; decide)]
end Go.Proofs.Ytmfmoddaejoekaa.P
end
section
/- Contracts, typed by hand: the check sum of bytes; a record's frame. -/
set_option linter.unusedVariables false
set_option linter.unusedSimpArgs false
namespace Go.Proofs.Ytmfmoddaejoekaa.P
open Go.RowKit Go.Proofs.YtmfmoddaejoekaaW.PrintWords Go.Proofs.YtmfmoddaejoekaaW.PrintLast Go.Proofs.YtmfmoddaejoekaaW.PrintMore
theorem sumR_take (r : Int) (l : List Int) (j : Nat) (hj : j < l.length) : sumR r (l.take (j + 1)) = byte16 (sumR r (l.take j)) (rd l (j : Int)) := by
  unfold sumR
  rw [List.take_add_one, List.getElem?_eq_getElem hj, Option.toList_some, List.foldl_append]
  simp [rd, hj]
set_option maxHeartbeats 2000000 in
theorem sums_More.calls (a0 : Int) (A : Option Addr) (c : Nat) (l : List Int) (W : World) (hC : Kd.C (Kd.int .u8) W A l.length l) (hl : l.length ≤ 1000000) :
    Calls Try.prog 75 #[.int .i64 a0, .slice A l.length c] W fun e W' => e = .returned (.int .i64 (wrap64 (sumR (IntKind.u16.wrap a0) l))) ∧ W = W' := by
  have HC := Aside0.mk hC
  clear hC
  go_enter Try.func75, Try.ntmps75
  go_wp2_with fail
  go_loopw [5, 12] (fun s5 s12 wr => ∃ j : Nat, j ≤ l.length ∧ s5 = .int .u16 (sumR (IntKind.u16.wrap a0) (l.take j)) ∧ s12 = .int .i64 (j : Int) ∧ wr = W) (fun _ s12 _ => (l.length + 1 - (intOf s12).toNat))
  case atStart => exact ⟨0, Nat.zero_le _, rfl, rfl, rfl⟩
  case round =>
    obtain ⟨j, hj, rfl, rfl, rfl⟩ := hrel
    by_cases hjl : j < l.length
    · have b1 : decide ((j : Int) < (l.length : Int)) = true := decide_eq_true (by omega)
      obtain ⟨ad, eA, hc0⟩ := Kd.at_int HC.out (j : Int) (by omega) (by omega)
      subst eA
      rw [Int.toNat_natCast] at hc0
      have HS := Aside0.mk (sumR_take (IntKind.u16.wrap a0) l j hjl)
      obtain ⟨r, er⟩ : ∃ r, sumR (IntKind.u16.wrap a0) (l.take j) = r := ⟨_, rfl⟩
      obtain ⟨b, eb⟩ : ∃ b, rd l (j : Int) = b := ⟨_, rfl⟩
      rw [er, eb] at HS
      rw [eb] at hc0
      rw [er]
      clear er eb
      go_wp2_with fail
      refine (sums_byteIn.calls r b _).mono ?_
      rintro e w1 ⟨rfl, rfl⟩
      go_wp2_with fail
      go_roundw
      case rel => exact ⟨j + 1, by omega, by rw [HS.out], by simp, trivial⟩
      case measure => simp [intOf]; omega
    · obtain rfl : j = l.length := by omega
      rw [List.take_length]
      have b1 : decide ((l.length : Int) < (l.length : Int)) = false := decide_eq_false (by omega)
      clear hj hjl
      go_wp2_with fail
      go_ret
      exact ⟨rfl, rfl⟩
theorem sums_Sum.calls (A : Option Addr) (c : Nat) (l : List Int) (W : World) (hC : Kd.C (Kd.int .u8) W A l.length l) (hl : l.length ≤ 1000000) :
    Calls Try.prog 65 #[.slice A l.length c] W fun e W' => e = .returned (.int .i64 (sumM l)) ∧ W = W' := by
  have HC := Aside0.mk hC
  clear hC
  go_enter Try.func65, Try.ntmps65
  go_wp2_with fail
  refine (sums_More.calls 65535 A c l _ HC.out hl).mono ?_
  rintro e w1 ⟨rfl, rfl⟩
  go_wp2_with fail
  go_ret
  exact ⟨rfl, rfl⟩
/-- A record's frame. -/
def lenB (n : Nat) : List Int := [((n : Int) / 256) % 256, (n : Int) % 256]
def putM (s : Int) : List Int := [(s / 256) % 256, s % 256]
def frameM (r : List Int) : List Int := (lenB r.length ++ r) ++ putM (sumM (lenB r.length ++ r))
theorem frameM_len (r : List Int) : (frameM r).length = r.length + 4 := by simp [frameM, lenB, putM]
set_option maxHeartbeats 4000000 in
theorem journal_frame.calls (v : Value) (b0 : List Int) (A : Option Addr) (c : Nat) (r : List Int) (W : World) (ok : Nat → Prop) (hb : (Kd.int .u8).R 5 W 0 ok v b0) (hQ : ∀ W', Keeps W W' ok → Kd.C (Kd.int .u8) W' A r.length r) (hl : r.length ≤ 100000) (hl0 : b0.length ≤ 1000000) :
    Calls Try.prog 40 #[v, .slice A r.length c] W fun e W' => ∃ v1, e = .returned v1 ∧ Turned ok W W' (Res.row (Kd.int .u8) 5 v1 (b0 ++ frameM r)) := by
  have HB0 := Aside0.mk (Kd.R_bound hb)
  have HQ := Aside0.mk hQ
  obtain ⟨A0, c0, ev⟩ := Kd.R_slice hb
  subst ev
  clear hb hQ
  go_enter Try.func40, Try.ntmps40
  have HO := Aside0.mk (show (Kd.int .u8).R 5 (W.alloc (.cells #[.int .u8 ((r.length : Int) / 256 % 256), .int .u8 ((r.length : Int) % 256)] 5)) 0 (fun k => W.heap.size ≤ k) (.slice (some ⟨W.heap.size, 0, none⟩) 2 2) (lenB r.length) from R_of_own0 (own_lit W W.heap.size 5 .u8 (lenB r.length) (Nat.le_refl _) (by simp [lenB])))
  go_wp2_with (at_builtin; refine app_int (k := .u8) rfl (.tmp 13) (.tmp 14) 30 5 1 rfl Try.underlying30 hinfo5 (by decide) (.slice (some ⟨W.heap.size, 0, none⟩) 2 2) (lenB r.length) r A r.length c (fun k => W.heap.size ≤ k) rfl rfl HO.out ?c1 ?c2 ?_)
  case c1 => exact Kd.C_alloc (HQ.out W (Keeps.refl _ _)) _
  case c2 => simp only [lenB, List.length_cons, List.length_nil]; omega
  intro v1 w1 hR1 hg1
  obtain ⟨A1, c1, ev1⟩ := Kd.R_slice hR1
  subst ev1
  obtain ⟨f, ef⟩ : ∃ f, lenB r.length ++ r = f := ⟨_, rfl⟩
  have HFL := Aside0.mk (show f.length = r.length + 2 by rw [← ef]; simp [lenB])
  have HFM := Aside0.mk (show frameM r = f ++ putM (sumM f) by unfold frameM; rw [ef])
  have HB1 := Aside0.mk (show Below W.heap.size W w1 from (below_alloc (Below.refl _ _) _).grown hg1 (by simp) (by simp [Value.ownBlock]))
  rw [ef] at hR1 ⊢
  have HR1 := Aside0.mk (Kd.R_mono hR1 (ok' := fun k => W.heap.size ≤ k) (fun k hk => hk.elim id (fun h => by omega)))
  have HB01 := Aside0.mk (Kd.R_below HB0.out HB1.out)
  clear hR1 hg1 ef HO
  go_wp2_with (at_builtin; refine app_int (k := .u8) rfl (.tmp 16) (.tmp 17) 30 5 1 rfl Try.underlying30 hinfo5 (by decide) (.slice A0 b0.length c0) b0 f A1 f.length c1 (fun k => ok k ∧ k < W.heap.size) rfl rfl ?c0 ?c1 ?c2 ?_)
  case c0 => exact Kd.R_mono HB01.out (fun k hk => ⟨hk.1, hk.2.2.1⟩)
  case c1 => exact (Kd.R_reads' HR1.out).2.2
  case c2 => have := HFL.out; omega
  intro v2 w2 hR2 hg2
  obtain ⟨b1, eb1⟩ : ∃ b1, b0 ++ f = b1 := ⟨_, rfl⟩
  have HL1 := Aside0.mk (show b1.length = b0.length + f.length by rw [← eb1, List.length_append])
  have HFM1 := Aside0.mk (show b0 ++ frameM r = b1 ++ putM (sumM f) by rw [HFM.out, ← List.append_assoc, eb1])
  rw [eb1] at hR2
  clear eb1
  obtain ⟨A2, c2, ev2⟩ := Kd.R_slice hR2
  subst ev2
  have hown0 : ∀ k, (Value.slice A0 b0.length c0).ownBlock = some k → ok k ∧ k < W.heap.size := fun k hk => by have := HB0.out.1 k hk; exact ⟨this.1, this.2.2.1⟩
  have HK2 := Aside0.mk (show Keeps W w2 (fun k => ok k ∧ k < W.heap.size) from (Keeps.of_below HB1.out _).then_ (Keeps.of_grown hg2) (fun k hk => .inl (hown0 k hk.symm)))
  have HR12 := Aside0.mk (Kd.R_grown HR1.out hg2 (fun k hk he => by have := (hown0 k he.symm).2; omega))
  have HR2 := Aside0.mk (Kd.R_mono (Kd.R_bound hR2) (ok' := fun k => ((ok k ∧ k < W.heap.size) ∨ w1.heap.size ≤ k) ∧ k < w2.heap.size) (fun k hk => ⟨hk.1, hk.2.2.1⟩))
  clear hR2 hg2 hown0
  go_wp2_with fail
  refine (sums_Sum.calls A1 c1 f w2 (Kd.R_reads' HR12.out).2.2 (by have := HFL.out; omega)).mono ?_
  rintro e w' ⟨rfl, rfl⟩
  obtain ⟨s, es⟩ : ∃ s, sumM f = s := ⟨_, rfl⟩
  rw [es] at HFM1 ⊢
  clear es
  go_wp2_with fail
  refine (sums_Put.calls s (putM s) w2 rfl).mono ?_
  rintro e w3 ⟨v3, rfl, hR3, hB3⟩
  obtain ⟨p, ep⟩ : ∃ p, putM s = p := ⟨_, rfl⟩
  have HPL := Aside0.mk (show p.length = 2 by rw [← ep]; rfl)
  rw [ep] at HFM1 hR3
  clear ep
  obtain ⟨A3, c3, ev3⟩ := Kd.R_slice hR3
  subst ev3
  have HR3 := Aside0.mk (Kd.R_reads' hR3).2.2
  have HB3 := Aside0.mk hB3
  have HR23 := Aside0.mk (Kd.R_below HR2.out hB3)
  clear hR3 hB3
  go_wp2_with (at_builtin; refine app_int (k := .u8) rfl (.tmp 18) (.tmp 21) 30 5 1 rfl Try.underlying30 hinfo5 (by decide) (.slice A2 b1.length c2) b1 p A3 p.length c3 (fun k => ((ok k ∧ k < W.heap.size) ∨ w1.heap.size ≤ k) ∧ k < w2.heap.size) rfl rfl HR23.out HR3.out ?c2 ?_)
  case c2 => have := HFL.out; have := HL1.out; have := HPL.out; omega
  intro v4 w4 hR4 hg4
  have hown2 : ∀ k, (Value.slice A2 b1.length c2).ownBlock = some k → ((ok k ∧ k < W.heap.size) ∨ w1.heap.size ≤ k) ∧ k < w2.heap.size := fun k hk => HR2.out.1 k hk
  have HK4 := Aside0.mk (((HK2.out.step HB3.out).then_ (Keeps.of_grown hg4) (fun k hk => (hown2 k hk.symm).1.imp id (Nat.le_trans HB1.out.size))).mono (S' := ok) (fun k _ hk => hk.1))
  have hsz := Nat.le_trans HK2.out.size HB3.out.size
  have HR4 := Aside0.mk (show (Kd.int .u8).R 5 w4 0 (fun k => ok k ∨ W.heap.size ≤ k) v4 (b0 ++ frameM r) by
    rw [HFM1.out]
    exact Kd.R_mono hR4 (fun k hk => hk.elim (fun h => h.1.imp (·.1) (Nat.le_trans HB1.out.size)) (fun h => .inr (Nat.le_trans hsz h))))
  clear hR4 hg4 hown2
  go_wp2_with fail
  go_ret
  exact ⟨_, rfl, HK4.out, HR4.out⟩
end Go.Proofs.Ytmfmoddaejoekaa.P
end
