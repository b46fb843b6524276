/- Contracts, typed by hand: the program's book: Held. -/
import Derived.Test.YtpdcmdofojckdaaDoorHBookP
set_option linter.unusedVariables false
set_option linter.unusedSimpArgs false
namespace Go.Proofs.YtpdcmdofojckdaaDoor.P
open Go.RowKit Go.Proofs.YtpdcmdofojckdaaDoorW.PrintWords Go.Proofs.YtpdcmdofojckdaaDoorW.PrintLast Go.Proofs.YtpdcmdofojckdaaDoorW.PrintMore
/-- A held credential's ten cells. -/
abbrev cellsH (h : SH) : List Value := [.int .i64 h.f0.f0.f0, .int .i64 h.f0.f0.f1, .string h.f0.f1, .int .i64 h.f0.f2, .string h.f0.f3, .string h.f0.f4.f0, .string h.f0.f4.f1, .string h.f0.f5.f0, .string h.f0.f5.f1, .int .i64 h.f1]
abbrev zH : Value := .agg #[(.int .i64 0), (.int .i64 0), (.string ⟨#[]⟩), (.int .i64 0), (.string ⟨#[]⟩), (.string ⟨#[]⟩), (.string ⟨#[]⟩), (.string ⟨#[]⟩), (.string ⟨#[]⟩), (.int .i64 0)]
/-- A row of one's own. -/
abbrev RowH (w0 W : World) (v : Value) (xs : List SH) : Prop := k42.R 42 W w0.heap.size (fun k => w0.heap.size ≤ k) v xs
section
variable {ops : Array Oper} {rest : List Oper} {o : Oper} {a : Act} {Q : Exit → Act → World → Prop}
theorem app_held {w0 W : World} (hgd : o.guard = none) (s x : Operand) (ho : o.op = .call { callee := .builtin .append, args := #[s, x], argTypes := #[33, 33] }) (v : Value) (xs : List SH) (h : SH)
    (hs : a.eval s = v) (hx : a.eval x = .slice (some ⟨W.heap.size, 0, none⟩) 1 1) (HO : RowH w0 W v xs) (HB : Below w0.heap.size w0 W) (hl : xs.length ≤ 100000)
    (K : ∀ v1 w1, RowH w0 w1 v1 (xs ++ [h]) → Below w0.heap.size w0 w1 → wpList Tryd.prog ops Q rest (a.put o.dst v1) w1) :
    wpList Tryd.prog ops Q (o :: rest) a (W.alloc (.cells (cellsH h).toArray 42)) :=
  Kd.R_append k42 (w0 := w0) (W := W) w0.heap.size hgd s x 33 42 zH 128 ho Tryd.underlying33 info42 rfl (by decide) (by omega) v xs h (cellsH h) (fun k => w0.heap.size ≤ k) (fun _ => False) hs hx
    (k42_mkM _ _ _ h) (fun _ hk => hk.elim) (fun k hk => Nat.le_trans HB.size hk) HO HB HB.size (by omega) (fun v1 w1 h1 h2 _ _ => K v1 w1 h1 h2)
end
theorem cell_blk {W : World} {g : Nat} {cs : Array Value} {t : TypeId} (h : W.heap[g]? = some (.cells cs t (0, 0))) (j : Nat) {v : Value} (hv : cs[j]? = some v) : W.cell? ⟨g, j, none⟩ = some v := (blk_cell h j).trans hv
/-- All cells of a block of a held credential. -/
theorem cells_held {W : World} {b : Nat} {h : SH} (hb : W.heap[b]? = some (.cells (cellsH h).toArray 42 (0, 0))) :
    W.cell? ⟨b, 0, none⟩ = some (.int .i64 h.f0.f0.f0) ∧ W.cell? ⟨b, 1, none⟩ = some (.int .i64 h.f0.f0.f1) ∧ W.cell? ⟨b, 2, none⟩ = some (.string h.f0.f1) ∧ W.cell? ⟨b, 3, none⟩ = some (.int .i64 h.f0.f2) ∧ W.cell? ⟨b, 4, none⟩ = some (.string h.f0.f3) ∧ W.cell? ⟨b, 5, none⟩ = some (.string h.f0.f4.f0) ∧ W.cell? ⟨b, 6, none⟩ = some (.string h.f0.f4.f1) ∧ W.cell? ⟨b, 7, none⟩ = some (.string h.f0.f5.f0) ∧ W.cell? ⟨b, 8, none⟩ = some (.string h.f0.f5.f1) ∧ W.cell? ⟨b, 9, none⟩ = some (.int .i64 h.f1) :=
  ⟨cell_blk hb 0 rfl, cell_blk hb 1 rfl, cell_blk hb 2 rfl, cell_blk hb 3 rfl, cell_blk hb 4 rfl, cell_blk hb 5 rfl, cell_blk hb 6 rfl, cell_blk hb 7 rfl, cell_blk hb 8 rfl, cell_blk hb 9 rfl⟩
/-- Element j of a row of held credentials: its ten cells. -/
def At10 (W : World) (p : Addr) (h : SH) : Prop := W.cell? p = some (.int .i64 h.f0.f0.f0) ∧ W.cell? ⟨p.block, p.off + 1, none⟩ = some (.int .i64 h.f0.f0.f1) ∧ W.cell? ⟨p.block, p.off + 2, none⟩ = some (.string h.f0.f1) ∧ W.cell? ⟨p.block, p.off + 3, none⟩ = some (.int .i64 h.f0.f2) ∧ W.cell? ⟨p.block, p.off + 4, none⟩ = some (.string h.f0.f3) ∧ W.cell? ⟨p.block, p.off + 5, none⟩ = some (.string h.f0.f4.f0) ∧ W.cell? ⟨p.block, p.off + 6, none⟩ = some (.string h.f0.f4.f1) ∧ W.cell? ⟨p.block, p.off + 7, none⟩ = some (.string h.f0.f5.f0) ∧ W.cell? ⟨p.block, p.off + 8, none⟩ = some (.string h.f0.f5.f1) ∧ W.cell? ⟨p.block, p.off + 9, none⟩ = some (.int .i64 h.f1)
theorem at_held {W : World} {A : Option Addr} {n : Nat} {xs : List SH} (hC : k42.C W A n xs) (j : Nat) (hj : j < n) : ∃ ad, A = some ad ∧ At10 W (ad.add (j * 10)) (xs.getD j default) := by
  obtain ⟨ad, e, h⟩ := at_T42 hC (j : Int) (by omega) (by omega)
  rw [Int.toNat_natCast] at h
  exact ⟨ad, e, h⟩
theorem heldFrom_step (B : Bk) (now : Int) {i : Nat} (h : i < 16) : heldFrom B now (16 - i) i = ((B.held ((i + 1 : Nat) : Int)).filter fun h => !overT now h.f1) ++ heldFrom B now (16 - (i + 1)) (i + 1) := by
  rw [show 16 - i = (16 - (i + 1)) + 1 by omega, heldFrom]
theorem filter_drop {p : SH → Bool} {l : List SH} {j : Nat} (h : j < l.length) : (l.drop j).filter p = (if p (l.getD j default) then [l.getD j default] else []) ++ (l.drop (j + 1)).filter p := by
  have e : l.getD j default = l[j] := by rw [List.getD_eq_getElem?_getD, List.getElem?_eq_getElem h]; rfl
  rw [List.drop_eq_getElem_cons h, e]
  by_cases hp : p l[j] = true
  · rw [List.filter_cons_of_pos hp, if_pos hp]; rfl
  · rw [List.filter_cons_of_neg hp, if_neg hp]; rfl
theorem pre_len {xs ys zs : List SH} (h : xs ++ ys = zs) (hz : zs.length ≤ 384) : xs.length ≤ 384 := by rw [← h, List.length_append] at hz; omega
set_option maxHeartbeats 8000000 in
set_option maxRecDepth 100000 in
theorem bookHeld.calls (g : Nat) (B : Bk) (hG : Good13 B) (now : Int) (W : World) (ok : Nat → Prop) (hP : (PBook g B).P ok W) :
    Calls Tryd.prog 11 #[.pointer (some ⟨g, 0, none⟩), .int .i64 now] W fun e W' => ∃ v, e = .returned v ∧ RowH W W' v (heldL B now) ∧ Below W.heap.size W W' := by
  obtain ⟨b1_, b2_, m1, m2, _, hc1, _, hm1, _, _, hrows, _⟩ := pbook_open hP
  have HC1 := Aside0.mk hc1
  have HM1 := Aside0.mk hm1
  have HROWS := Aside0.mk hrows
  clear hc1 hm1 hrows
  have HG := Aside0.mk hG
  have HLL := Aside0.mk (heldL_length hG now)
  clear hP hG
  obtain ⟨LL, eL⟩ : ∃ LL, heldL B now = LL := ⟨_, rfl⟩
  rw [eL] at HLL ⊢
  have HEL := Aside0.mk eL
  clear eL
  have hu := Tryd.underlying42
  go_enter Tryd.func11, Tryd.ntmps11
  go_wp2_with fail
  go_loopw [5, 6] (fun s5 s6 wr => ∃ (i : Nat) (xs : List SH), i ≤ 16 ∧ s6 = .int .i64 ((i + 1 : Nat) : Int) ∧ Aside0 (xs ++ heldFrom B now (16 - i) i = LL) ∧ Aside0 (RowH W wr s5 xs) ∧ Aside0 (Below W.heap.size W wr)) (fun _ s6 _ => (17 - (intOf s6).toNat))
  case atStart => exact ⟨0, [], by omega, rfl, ⟨HEL.out⟩, ⟨Kd.R_nil _ _ _ _ _⟩, ⟨Below.refl _ _⟩⟩
  case round =>
    obtain ⟨i, xs, hi, rfl, HX, HR, HB⟩ := hrel
    by_cases hlt : i < 16
    · have hst := heldFrom_step B now hlt
      obtain ⟨d, ed⟩ : ∃ d : Int, ((i + 1 : Nat) : Int) = d := ⟨_, rfl⟩
      rw [ed] at hst ⊢
      have b1 : decide (d ≤ 16) = true := decide_eq_true (by omega)
      have wd : wrap64 (d + 1) = d + 1 := by unfold wrap64; omega
      have hc1 := pw_cell_below HB.out HC1.out
      have hm1 := HM1.out.move (HB.out.block _ HM1.out.lt)
      obtain ⟨A, c, hv, hcap, hC⟩ := HROWS.out d
      have hlk := run_lookup_int (P := Tryd.prog) (t := 59) (k := 3) (e := 33) Tryd.underlying59 Tryd.underlying3 hm1 (zeroHeld wr) false d
      rw [hv] at hlk
      replace hlk : (Instr.lookup 59 (.map (some b1_)) (.int .i64 d) false).run Tryd.prog wr = .ok (.slice A (B.held d).length c) wr := hlk
      have hln := HG.out.len d
      obtain ⟨row, erow⟩ : ∃ row, B.held d = row := ⟨_, rfl⟩
      rw [erow] at hlk hcap hC hst hln
      have HC := Aside0.mk hC
      have HST := Aside0.mk hst
      have HLN := Aside0.mk hln
      have HBR := Aside0.mk HB.out
      clear hC hst hln hv hm1 erow HB
      obtain ⟨n, en⟩ : ∃ n, row.length = n := ⟨_, rfl⟩
      rw [en] at hlk hcap HLN HC
      have HEN := Aside0.mk en
      have HED := Aside0.mk ed
      have HWD := Aside0.mk wd
      have HLT := Aside0.mk hlt
      clear en ed wd hlt hi
      go_wp2_with fail
      obtain ⟨wa, rfl⟩ : ∃ x : World, x = wr := ⟨_, rfl⟩
      go_loopw [5, 20] (fun s5 s20 w2 => ∃ (j : Nat) (ys : List SH), j ≤ n ∧ s20 = .int .i64 (j : Int) ∧ Aside0 (ys ++ ((row.drop j).filter fun h => !overT now h.f1) ++ heldFrom B now (16 - (i + 1)) (i + 1) = LL) ∧ Aside0 (RowH W w2 s5 ys) ∧ Aside0 (Below W.heap.size W w2) ) (fun _ s20 _ => (n - (intOf s20).toNat))
      case atStart => exact ⟨0, xs, by omega, rfl, ⟨by rw [List.drop_zero, List.append_assoc, ← HST.out]; exact HX.out⟩, HR, HBR⟩
      case round =>
        obtain ⟨j, ys, hj, rfl, HY, HR2, HB2⟩ := hrel
        clear hlk HX HR
        have hn24 : n ≤ 24 := HLN.out
        by_cases hjl : j < n
        · have b2 : decide ((j : Int) < (n : Int)) = true := decide_eq_true (by omega)
          have b3 : decide (j < n) = true := decide_eq_true hjl
          obtain ⟨ad, rfl, hx⟩ := at_held (Kd.C_below HC.out HB2.out) j hjl
          have hfd := filter_drop (p := fun h : SH => !overT now h.f1) (show j < row.length by rw [HEN.out]; exact hjl)
          obtain ⟨h, eh⟩ : ∃ h, row.getD j default = h := ⟨_, rfl⟩
          rw [eh] at hx hfd
          obtain ⟨hx0, hx1, hx2, hx3, hx4, hx5, hx6, hx7, hx8, hx9⟩ := hx
          have HFD := Aside0.mk hfd
          have HYL := Aside0.mk (pre_len (by rw [List.append_assoc] at HY; exact HY.out) HLL.out)
          clear hfd eh
          have HOV := Aside0.mk (fun W => overP_at now h.f1 W)
          obtain ⟨t, et⟩ : ∃ t, overT now h.f1 = t := ⟨_, rfl⟩
          rw [et] at HOV HFD
          clear et
          go_wp2_with fail
          have HBK := Aside0.mk (blk_new wr (.cells (cellsH h).toArray 42))
          refine (HOV.out _).mono ?_
          rintro e w3 ⟨rfl, hB3⟩
          have hBK := (hB3.block _ (blk_lt HBK.out)).trans HBK.out
          have hsz : wr.heap.size ≤ (wr.alloc (.cells (cellsH h).toArray 42)).heap.size := by simp
          have HB3 := Aside0.mk (below_then (below_alloc HB2.out (.cells (cellsH h).toArray 42)) (Nat.le_trans HB2.out.size hsz) hB3)
          have HR3 := Aside0.mk (Kd.R_below (Kd.R_alloc HR2.out (.cells (cellsH h).toArray 42)) hB3)
          obtain ⟨hy0, hy1, hy2, hy3, hy4, hy5, hy6, hy7, hy8, hy9⟩ := cells_held hBK
          clear hB3 hBK hsz HBK HB2 HR2 HOV hx0 hx1 hx2 hx3 hx4 hx5 hx6 hx7 hx8 hx9
          cases t with
          | true =>
            clear hy0 hy1 hy2 hy3 hy4 hy5 hy6 hy7 hy8 hy9
            go_wp2_with fail
            go_roundw
            case rel => exact ⟨j + 1, ys, by omega, by simp, ⟨by have := HY.out; rw [HFD.out] at this; exact this⟩, HR3, HB3⟩
            case measure => simp [intOf]; omega
          | false =>
            go_wp2_with (at_builtin; refine app_held (w0 := W) rfl (.tmp 29) (.tmp 31) rfl u5 ys h rfl rfl HR3.out HB3.out (by have := HYL.out; omega) ?_)
            intro v1 w4 hR4 hB4
            have HR4 := Aside0.mk hR4
            have HB4 := Aside0.mk hB4
            clear hR4 hB4 HR3 HB3 hy0 hy1 hy2 hy3 hy4 hy5 hy6 hy7 hy8 hy9
            go_wp2_with fail
            go_roundw
            case rel => exact ⟨j + 1, ys ++ [h], by omega, by simp, ⟨by have := HY.out; rw [HFD.out] at this; simpa using this⟩, HR4, HB4⟩
            case measure => simp [intOf]; omega
        · have e : j = n := by omega
          subst e
          have b2 : decide ((j : Int) < (j : Int)) = false := decide_eq_false (by omega)
          have b3 : decide (j < j) = false := decide_eq_false (by omega)
          have hd16 : 1 ≤ d ∧ d ≤ 16 := by have := HED.out; have := HLT.out; omega
          have hyy : ys ++ heldFrom B now (16 - (i + 1)) (i + 1) = LL := by
            have := HY.out
            rw [List.drop_eq_nil_of_le (by rw [HEN.out]; exact Nat.le_refl _), List.filter_nil, List.append_nil] at this
            exact this
          have HYY := Aside0.mk hyy
          clear hyy
          go_wp2_with fail
          go_roundw
          case rel => exact ⟨i + 1, ys, by have := HLT.out; omega, by rw [← HED.out]; rfl, HYY, HR2, HB2⟩
          case measure => have := HED.out; have := HLT.out; simp [intOf]; omega
    · have e : i = 16 := by omega
      subst e
      have b1 : decide (((16 + 1 : Nat) : Int) ≤ 16) = false := by decide
      go_wp2_with fail
      go_ret
      refine ⟨_, rfl, ?_, HB.out⟩
      have hx : xs = LL := by have := HX.out; rw [show heldFrom B now (16 - 16) 16 = [] from rfl, List.append_nil] at this; exact this
      rw [← hx]
      exact HR.out
end Go.Proofs.YtpdcmdofojckdaaDoor.P
