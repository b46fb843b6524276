/- Contracts, typed by hand: the document's tape: Done, Now. -/
import Derived.Test.YtmfmoddaejoekaaHRTapeA
set_option linter.unusedVariables false
set_option linter.unusedSimpArgs false
namespace Go.Proofs.Ytmfmoddaejoekaa.P
open Go.RowKit Go.Proofs.YtmfmoddaejoekaaW.PrintWords Go.Proofs.YtmfmoddaejoekaaW.PrintLast Go.Proofs.YtmfmoddaejoekaaW.PrintMore
theorem sides_at (T : TM) (p : Nat) (hp : p < 2) : ([T.s0, T.s1] : List (List Int)).getD p [] = T.safe (p : Int) := by
  match p, hp with
  | 0, _ => rfl
  | 1, _ => rfl
/-- What a unit may be, of one side. -/
theorem legal_side {T : TM} {N : Nat} (hT : T.Ok N) (j : Nat) (hj : j < T.us.length) (p : Nat) (hp : p < 2) (u : Un) (hu : T.us.getD j z89 = u) :
    (afterU (T.safe p) p (T.us.take j)).length ≤ 65536 ∧ (u.f0 = (p : Int) → 0 ≤ u.f1 → u.f1 ≤ ((afterU (T.safe p) p (T.us.take j)).length : Int)) := by
  have h := legal_at hT.2.2 j hj
  have e : T.us.drop j = u :: T.us.drop (j + 1) := by
    rw [List.drop_eq_getElem_cons hj]
    congr 1
    rw [← hu, List.getD_eq_getElem?_getD, List.getElem?_eq_getElem hj]
    rfl
  rw [e] at h
  match p, hp with
  | 0, _ => exact ⟨h.1, fun h0 h1 => by have := h.2.2.2.1 h1; rw [if_pos (show u.f0 = 0 from h0)] at this; exact this⟩
  | 1, _ => exact ⟨h.2.1, fun h0 h1 => by have := h.2.2.2.1 h1; rw [if_neg (show ¬ u.f0 = 0 by rw [show u.f0 = 1 from h0]; decide)] at this; exact this⟩
set_option maxHeartbeats 8000000 in
set_option maxRecDepth 100000 in
theorem rtape_Done.calls (g : Nat) (T : TM) (N : Nat) (hT : T.Ok N) (hN : N ≤ 1000000000) (p n : Nat) (hp : p < 2) (hn : n ≤ T.us.length) (W : World) (ok : Nat → Prop) (hP : (RTape g T).P ok W) :
    Calls Try.prog 62 #[.pointer (some ⟨g, 0, none⟩), .int .i64 (p : Int), .int .i64 (n : Int)] W fun e W' => ∃ v, e = .returned v ∧ (Kd.int .u8).R 5 W' 0 (fun k => W.heap.size ≤ k) v (afterU (T.safe p) p (T.us.take n)) ∧ Below W.heap.size W W' := by
  obtain ⟨v0, vu, hC⟩ := rtape_open hP
  obtain ⟨ok0, hS0, _⟩ := obj_get hC 0 rfl
  obtain ⟨oku, hU0, _⟩ := obj_get hC 1 rfl
  obtain ⟨A0, c0, ev0⟩ := Kd.R_slice (show (Kd.slice 5 (Kd.int .u8)).R 30 W 0 ok0 v0 [T.s0, T.s1] from hS0)
  subst ev0
  obtain ⟨Au, cu, evu⟩ := Kd.R_slice (show (k89).R 89 W 0 oku vu T.us from hU0)
  subst evu
  have HS := Aside0.mk (Kd.R_reads' (show (Kd.slice 5 (Kd.int .u8)).R 30 W 0 ok0 (.slice A0 2 c0) [T.s0, T.s1] from hS0)).2.2
  have HU := Aside0.mk (Kd.R_reads' (show (k89).R 89 W 0 oku (.slice Au T.us.length cu) T.us from hU0)).2.2
  have HG := Aside0.mk (rtape_blk hC)
  have HT := Aside0.mk hT
  have hul : T.us.length ≤ 1000000000 := Nat.le_trans hT.2.1 hN
  obtain ⟨x0, x1, x2, x3, _⟩ := blk_all4 HG.out
  obtain ⟨ad, B, cb, eA, hcell, hcb, hCB⟩ := at_slice HS.out p hp
  subst eA
  rw [sides_at T p hp] at hcell hcb hCB
  have HSL := Aside0.mk (show (T.safe p).length ≤ 65536 from by
    have := legal_len hT.2.2
    match p, hp with
    | 0, _ => exact this.1
    | 1, _ => exact this.2)
  obtain ⟨s, es⟩ : ∃ s, T.safe p = s := ⟨_, rfl⟩
  rw [es] at hcell hcb hCB HSL ⊢
  have HES := Aside0.mk es
  have HCB := Aside0.mk hCB
  have hpi : (p : Int) < 2 := by omega
  clear hP hC hS0 hU0 hT hCB es
  go_enter Try.func62, Try.ntmps62
  go_wp2_with (at_builtin; refine app_int (k := .u8) rfl (.tmp 10) (.tmp 17) 30 5 1 rfl Try.underlying30 hinfoB (by decide) (.slice none 0 0) [] s B s.length cb (fun k => W.heap.size ≤ k) rfl rfl (Kd.R_nil _ _ _ _ _) HCB.out (by have := HSL.out; simp; omega) ?_)
  intro v7 w7 hR7 hg7
  have hR7' := Kd.R_mono (ok' := fun k => W.heap.size ≤ k) hR7 (fun k hk => hk)
  have HR7 := Aside0.mk (show (Kd.int .u8).R 5 w7 0 (fun k => W.heap.size ≤ k) v7 (afterU s p (T.us.take 0)) from hR7')
  have HB7 := Aside0.mk (show Below W.heap.size W w7 from (Keeps.of_grown hg7).below (fun k _ hk => by simp [Value.ownBlock] at hk))
  clear hR7 hR7' hg7 hcell hcb x0 x1 x2 x3 HCB HS
  go_wp2_with fail
  go_loopw [7, 8] (fun s7 s8 wr => ∃ j : Nat, j ≤ n ∧ s8 = .int .i64 (j : Int) ∧ Aside0 ((Kd.int .u8).R 5 wr 0 (fun k => W.heap.size ≤ k) s7 (afterU s p (T.us.take j))) ∧ Aside0 (Below W.heap.size W wr)) (fun _ s8 _ => (n + 1 - (intOf s8).toNat))
  case atStart => exact ⟨0, Nat.zero_le _, rfl, HR7, HB7⟩
  case round =>
    obtain ⟨j, hj, rfl, HRJ, HBJ⟩ := hrel
    clear HR7 HB7
    by_cases hjn : j < n
    · have b1 : decide ((j : Int) < (n : Int)) = true := decide_eq_true (by omega)
      obtain ⟨adu, eAu, hc0, hc1, hc2⟩ := at_T89 (Kd.C_below HU.out HBJ.out) (j : Int) (by omega) (by omega)
      subst eAu
      rw [Int.toNat_natCast] at hc0 hc1 hc2
      obtain ⟨u, eu⟩ : ∃ u, rd_T89 T.us (j : Int) = u := ⟨_, rfl⟩
      have hug : T.us.getD j z89 = u := by rw [← eu]; show _ = T.us.getD (j : Int).toNat _; rw [Int.toNat_natCast]
      have hleg := legal_side HT.out j (by omega) p hp u hug
      have hstep := afterU_take (T.safe p) (p : Int) T.us j z89 (by omega)
      rw [hug] at hstep
      rw [HES.out] at hleg hstep
      rw [eu] at hc0 hc1 hc2
      obtain ⟨l, el⟩ : ∃ l, afterU s p (T.us.take j) = l := ⟨_, rfl⟩
      rw [el] at HRJ hleg hstep
      obtain ⟨Al, cl, evl⟩ := Kd.R_slice HRJ.out
      subst evl
      have hlc := (Kd.R_reads' HRJ.out).2.1
      have HL := Aside0.mk hleg
      have HNX := Aside0.mk hstep
      obtain ⟨y0, y1, y2, y3, _⟩ := blk_all4 (blk_below HG.out HBJ.out)
      obtain ⟨u0, u1, u2, e0, e1, e2⟩ : ∃ u0 u1 u2, u.f0 = u0 ∧ u.f1 = u1 ∧ u.f2 = u2 := ⟨_, _, _, rfl, rfl, rfl⟩
      rw [e0] at hc0
      rw [e1] at hc1
      rw [e2] at hc2
      have HUN := Aside0.mk (show unit1 l p u = if u0 = (p : Int) then (if 0 ≤ u1 then l.take u1.toNat else l ++ [u2]) else l by unfold unit1; rw [e0, e1, e2])
      have HLL := Aside0.mk hleg.1
      have HLC := Aside0.mk (show u0 = (p : Int) → 0 ≤ u1 → u1 ≤ (l.length : Int) by rw [← e0, ← e1]; exact hleg.2)
      have HBX := Aside0.mk (below_step HBJ.out (below_alloc (Below.refl wr.heap.size wr) (.cells #[.int .i64 u0, .int .i64 u1, .int .u8 u2] 89)))
      have HRX := Aside0.mk (Kd.R_below HRJ.out (below_alloc (Below.refl wr.heap.size wr) (.cells #[.int .i64 u0, .int .i64 u1, .int .u8 u2] 89)))
      clear hug hleg hstep eu el e0 e1 e2 HL HRJ HBJ
      by_cases h0 : u0 = (p : Int)
      · have b2 : (u0 != (p : Int)) = false := by simpa using h0
        by_cases h1 : 0 ≤ u1
        · obtain ⟨m, em⟩ : ∃ m : Nat, u1 = (m : Int) := ⟨u1.toNat, by omega⟩
          have hm : m ≤ l.length := by have := HLC.out h0 h1; omega
          have HF := Aside0.mk (show unit1 l p u = l.take m by rw [HUN.out, if_pos h0, if_pos h1, em, Int.toNat_natCast])
          subst em
          have b3 : decide ((m : Int) ≥ 0) = true := decide_eq_true (by omega)
          have b4 : decide ((0 : Int) ≤ (m : Int)) = true := decide_eq_true (by omega)
          have hcut := hcutB Al l.length cl m hm hlc
          clear h0 h1 HUN HLC
          go_wp2_with fail
          go_roundw
          case rel => exact ⟨j + 1, by omega, by simp, ⟨by rw [HNX.out, HF.out]; exact Kd.R_take HRX.out hm⟩, HBX⟩
          case measure => simp [intOf]; omega
        · have HF := Aside0.mk (show unit1 l p u = l ++ [u2] by rw [HUN.out, if_pos h0, if_neg h1])
          have b3 : decide (u1 ≥ 0) = false := decide_eq_false (by omega)
          have b4 : decide ((0 : Int) ≤ u1) = false := decide_eq_false (by omega)
          clear h0 h1 HUN HLC
          go_wp2_with (at_builtin; refine Kd.R_append (Kd.int .u8) (w0 := wr.alloc (.cells #[.int .i64 u0, .int .i64 u1, .int .u8 u2] 89)) 0 rfl (.tmp 42) (.tmp 45) 30 5 (.int .u8 0) 1 rfl Try.underlying30 hinfoB rfl (by decide) (by decide) (.slice Al l.length cl) l u2 [.int .u8 u2] (fun k => W.heap.size ≤ k) (fun _ => False) rfl (by rw [heap_size_alloc2]; rfl) ?aM ?aK ?aF HRX.out (Below.refl _ _) (Nat.zero_le _) ?aL ?_)
          case aM => exact rfl
          case aK => exact fun k hk => hk.elim
          case aF => exact fun k hk => Nat.le_trans HBX.out.size hk
          case aL => have := HLL.out; omega
          intro v9 w9 hR9 _ hg9 hat9
          have HB9 := Aside0.mk (show Below W.heap.size W w9 from ((Keeps.of_below HBX.out (fun k => W.heap.size ≤ k)).grown hg9 (fun k hk => .inl (HRX.out.1 k hk))).below (fun k hk h => absurd h (Nat.not_le.2 hk)))
          have HR9 := Aside0.mk hR9
          clear hR9 hg9 hat9 HBX HRX
          go_wp2_with fail
          go_roundw
          case rel => exact ⟨j + 1, by omega, by simp, ⟨by rw [HNX.out, HF.out]; exact HR9.out⟩, HB9⟩
          case measure => simp [intOf]; omega
      · have HF := Aside0.mk (show unit1 l p u = l by rw [HUN.out, if_neg h0])
        have b2 : (u0 != (p : Int)) = true := by simpa using h0
        clear h0 HUN HLC
        go_wp2_with fail
        go_roundw
        case rel => exact ⟨j + 1, by omega, by simp, ⟨by rw [HNX.out, HF.out]; exact HRX.out⟩, HBX⟩
        case measure => simp [intOf]; omega
    · have ejn : n = j := by omega
      subst ejn
      have b1 : decide ((n : Int) < (n : Int)) = false := decide_eq_false (by omega)
      go_wp2_with fail
      go_ret
      exact ⟨_, rfl, HRJ.out, HBJ.out⟩
theorem rtape_Now.calls (g : Nat) (T : TM) (N : Nat) (hT : T.Ok N) (hN : N ≤ 1000000000) (p : Nat) (hp : p < 2) (W : World) (ok : Nat → Prop) (hP : (RTape g T).P ok W) :
    Calls Try.prog 51 #[.pointer (some ⟨g, 0, none⟩), .int .i64 (p : Int)] W fun e W' => ∃ v, e = .returned v ∧ (Kd.int .u8).R 5 W' 0 (fun k => W.heap.size ≤ k) v (T.now p) ∧ Below W.heap.size W W' := by
  obtain ⟨v0, vu, hC⟩ := rtape_open hP
  obtain ⟨oku, hU0, _⟩ := obj_get hC 1 rfl
  obtain ⟨Au, cu, evu⟩ := Kd.R_slice (show (k89).R 89 W 0 oku vu T.us from hU0)
  subst evu
  obtain ⟨x0, x1, x2, x3, _⟩ := blk_all4 (rtape_blk hC)
  have HP := Aside0.mk hP
  have HT := Aside0.mk hT
  clear hC hU0 hP hT
  go_enter Try.func51, Try.ntmps51
  go_wp2_with fail
  refine (rtape_Done.calls g T N HT.out hN p T.us.length hp (Nat.le_refl _) W ok HP.out).mono ?_
  rintro e w7 ⟨v7, rfl, hR7, hB7⟩
  rw [List.take_length] at hR7
  have HR7 := Aside0.mk hR7
  have HB7 := Aside0.mk hB7
  clear hR7 hB7
  go_wp2_with fail
  go_ret
  exact ⟨_, rfl, HR7.out, HB7.out⟩
end Go.Proofs.Ytmfmoddaejoekaa.P
