/- Contracts, typed by hand and by a program (gen_l13.py): the program's book: Learn. -/
import Derived.Test.YtpdcmdofojckdaaDoorHBookQ
import Derived.Test.YtpdcmdofojckdaaDoorP12
set_option linter.unusedVariables false
set_option linter.unusedSimpArgs false
namespace Go.Proofs.YtpdcmdofojckdaaDoor.P
open Go.RowKit Go.Proofs.YtpdcmdofojckdaaDoor.Pure Go.Proofs.YtpdcmdofojckdaaDoorW.PrintWords Go.Proofs.YtpdcmdofojckdaaDoorW.PrintLast Go.Proofs.YtpdcmdofojckdaaDoorW.PrintMore
abbrev cellsC (c : CS) : List Value := [.int .i64 c.f0.f0, .int .i64 c.f0.f1, .string c.f1, .int .i64 c.f2, .string c.f3, .string c.f4.f0, .string c.f4.f1, .string c.f5.f0, .string c.f5.f1]
def At9 (W : World) (p : Addr) (c : CS) : Prop := W.cell? p = some (.int .i64 c.f0.f0) ∧ W.cell? ⟨p.block, p.off + 1, none⟩ = some (.int .i64 c.f0.f1) ∧ W.cell? ⟨p.block, p.off + 2, none⟩ = some (.string c.f1) ∧ W.cell? ⟨p.block, p.off + 3, none⟩ = some (.int .i64 c.f2) ∧ W.cell? ⟨p.block, p.off + 4, none⟩ = some (.string c.f3) ∧ W.cell? ⟨p.block, p.off + 5, none⟩ = some (.string c.f4.f0) ∧ W.cell? ⟨p.block, p.off + 6, none⟩ = some (.string c.f4.f1) ∧ W.cell? ⟨p.block, p.off + 7, none⟩ = some (.string c.f5.f0) ∧ W.cell? ⟨p.block, p.off + 8, none⟩ = some (.string c.f5.f1)
theorem at_cred {W : World} {A : Option Addr} {n : Nat} {xs : List CS} (hC : k40.C W A n xs) (j : Nat) (hj : j < n) : ∃ ad, A = some ad ∧ At9 W (ad.add (j * 9)) (xs.getD j default) := by
  obtain ⟨ad, e, h⟩ := at_T40 hC (j : Int) (by omega) (by omega)
  rw [Int.toNat_natCast] at h
  exact ⟨ad, e, h⟩
section
variable {ops : Array Oper} {o : Oper} {a : Act} {Q : Exit → Act → World → Prop} {Kc : Act → World → Prop}
theorem app_held_step {w0 W : World} (hw : Region.wanted o (yielded ops a.tmps) = true) (s x : Operand) (ho : o.op = .call { callee := .builtin .append, args := #[s, x], argTypes := #[33, 33] }) (v : Value) (xs : List SH) (h : SH)
    (hs : a.eval s = v) (hx : a.eval x = .slice (some ⟨W.heap.size, 0, none⟩) 1 1) (HO : RowH w0 W v xs) (HB : Below w0.heap.size w0 W) (hl : xs.length ≤ 100000)
    (K : ∀ v1 w1, RowH w0 w1 v1 (xs ++ [h]) → Below w0.heap.size w0 w1 → W.grownBy w1 v.ownBlock → Kc (a.put o.dst v1) w1) :
    if Region.wanted o (yielded ops a.tmps) = true then Oper.wp Tryd.prog o a (W.alloc (.cells (cellsH h).toArray 42)) Kc Q else Kc (a.put o.dst undef) (W.alloc (.cells (cellsH h).toArray 42)) :=
  Kd.R_append_step k42 (w0 := w0) (W := W) w0.heap.size hw s x 33 42 zH 128 ho Tryd.underlying33 info42 rfl (by decide) (by omega) v xs h (cellsH h) (fun k => w0.heap.size ≤ k) (fun _ => False) hs hx
    (k42_mkM _ _ _ h) (fun _ hk => hk.elim) (fun k hk => Nat.le_trans HB.size hk) HO HB HB.size (by omega) (fun v1 w1 h1 h2 h3 _ => K v1 w1 h1 h2 h3)
end
theorem gives_drop {l : List CS} {d asked : Int} {j : Nat} (h : j < l.length) : givesC d asked (l.drop j) = (if (l.getD j default).f0.f0 = d then [⟨l.getD j default, addT asked 56⟩] else []) ++ givesC d asked (l.drop (j + 1)) := by
  have e : l.getD j default = l[j] := by rw [List.getD_eq_getElem?_getD, List.getElem?_eq_getElem h]; rfl
  unfold givesC
  rw [List.drop_eq_getElem_cons h, e]
  by_cases hp : l[j].f0.f0 = d
  · rw [List.filter_cons_of_pos (by simp [hp]), if_pos hp, List.map_cons]; rfl
  · rw [List.filter_cons_of_neg (by simp [hp]), if_neg hp]; rfl
theorem gives_len (d asked : Int) (l : List CS) : (givesC d asked l).length ≤ l.length := by
  unfold givesC
  rw [List.length_map]
  exact List.length_filter_le _ _
theorem blk_row {w0 W W' : World} {v : Value} {xs : List SH} {b : Nat} {o : Obj} (hb : W.heap[b]? = some o) (hg : W.grownBy W' v.ownBlock) (hne : some b ≠ v.ownBlock) : W'.heap[b]? = some o := (hg.block b (blk_lt hb) hne).trans hb
theorem learnE_arg {B : Bk} {d : Int} {l : List CS} {asked : Int} (h : mayA B d asked = false ∨ asked < B.stamp d) : learnE B d l asked = 1 := by
  unfold learnE
  rw [if_pos]
  rcases h with h | h
  · exact .inl (by rw [h]; exact Bool.false_ne_true)
  · exact .inr h
theorem learnE_full {B : Bk} {d : Int} {l : List CS} {asked : Int} (h1 : mayA B d asked = true) (h2 : B.stamp d ≤ asked) (h3 : 24 < (givesC d asked (countsC l)).length) : learnE B d l asked = 12 := by
  unfold learnE
  rw [if_neg (by rw [h1]; simp; omega), if_pos h3]
theorem learnE_ok {B : Bk} {d : Int} {l : List CS} {asked : Int} (h1 : mayA B d asked = true) (h2 : B.stamp d ≤ asked) (h3 : (givesC d asked (countsC l)).length ≤ 24) : learnE B d l asked = 0 := by
  unfold learnE
  rw [if_neg (by rw [h1]; simp; omega), if_neg (by omega)]
theorem learnB_ne {B : Bk} {d : Int} {l : List CS} {asked : Int} (h : learnE B d l asked ≠ 0) : learnB B d l asked = B := by
  unfold learnB
  rw [if_neg h]
theorem learnB_ok {B : Bk} {d : Int} {l : List CS} {asked : Int} (h : learnE B d l asked = 0) : learnB B d l asked = { hearB B d asked with held := fun x => if x = d then givesC d asked (countsC l) else (hearB B d asked).held x } := by
  unfold learnB
  rw [if_pos h, hearB_held]
theorem learn_end {g : Nat} {B2 : Bk} {ok : Nat → Prop} {W W5 W6 W7 : World} {R : Res} (hB : Below W.heap.size W W5) (hT : Turned (fun k => ok k ∧ k < W.heap.size) W5 W6 (PBook g B2)) (hT2 : Turned (fun k => ok k ∨ W.heap.size ≤ k) W6 W7 R) : Turned ok W W7 R := by
  refine ⟨((Keeps.of_below hB ok).then_ hT.1 (fun k hk => .inl hk.1)).then_ hT2.1 (fun k hk => hk), R.mono (fun k hk => ?_) hT2.2⟩
  rcases hk with hk | hk
  · exact hk
  · exact .inr (Nat.le_trans (Nat.le_trans hB.size hT.1.size) hk)
set_option maxHeartbeats 8000000 in
set_option maxRecDepth 100000 in
theorem bookLearn.calls (g : Nat) (B : Bk) (hG : Good13 B) (d : Int) (A : Option Addr) (c : Nat) (l : List CS) (asked : Int) (W : World) (ok : Nat → Prop) (hP : (PBook g B).P ok W) (hC : k40.C W A l.length l) (hc : l.length ≤ c) (hl : l.length ≤ 40) :
    Calls Tryd.prog 10 #[.pointer (some ⟨g, 0, none⟩), .int .i64 d, .slice A l.length c, .int .i64 asked] W fun e W' => e = .returned (.int .i64 (learnE B d l asked)) ∧ Turned ok W W' (PBook g (learnB B d l asked)) := by
  obtain ⟨_, _, _, _, hc0, _⟩ := pbook_open hP
  have HM := Aside0.mk (bookMay.calls g B d asked W hc0)
  have HP := Aside0.mk hP
  have HG := Aside0.mk hG
  have HC := Aside0.mk hC
  have HCC := Aside0.mk hc
  have HL := Aside0.mk hl
  clear hc0 hP hG hC hc hl
  obtain ⟨e0, ee⟩ : ∃ e0, learnE B d l asked = e0 := ⟨_, rfl⟩
  obtain ⟨B1, eb⟩ : ∃ B1, learnB B d l asked = B1 := ⟨_, rfl⟩
  rw [ee, eb]
  have HEE := Aside0.mk ee
  have HEB := Aside0.mk eb
  clear ee eb
  obtain ⟨m, em⟩ : ∃ m, mayA B d asked = m := ⟨_, rfl⟩
  rw [em] at HM
  have hu1 := Tryd.underlying40
  have hu2 := Tryd.underlying36
  have hu3 := Tryd.underlying42
  cases m with
  | false =>
    have hr : e0 = 1 := by rw [← HEE.out]; exact learnE_arg (.inl em)
    have hb : B1 = B := by rw [← HEB.out]; exact learnB_ne (by rw [HEE.out, hr]; decide)
    subst hr
    subst hb
    clear em
    go_enter Tryd.func10, Tryd.ntmps10
    go_wp2_with fail
    refine HM.out.mono ?_
    rintro e w1 ⟨rfl, hB⟩
    have HB := Aside0.mk hB
    clear hB
    go_wp2_with fail
    go_ret
    exact ⟨rfl, turned_same HP.out HB.out⟩
  | true =>
    have HA := Aside0.mk em
    have hst := HG.out.stamp d
    have ha := (mayA_iff.1 em).2.2.1
    obtain ⟨st, est⟩ : ∃ st, B.stamp d = st := ⟨_, rfl⟩
    obtain ⟨sv, esv⟩ : ∃ sv : Int, sv = (if st = -1 then 0 else st) := ⟨_, rfl⟩
    have hsv : asked < sv ↔ asked < st := by rw [esv, ← est]; split <;> omega
    clear em
    go_enter Tryd.func10, Tryd.ntmps10
    go_wp2_with fail
    refine HM.out.mono ?_
    rintro e w1 ⟨rfl, hB⟩
    obtain ⟨b1, b2, m1, m2, hc0, hc1, hc2, hm1, hm2, hgs, _⟩ := pbook_open ((PBook g B).on HP.out hB)
    have HB := Aside0.mk hB
    have hlk := run_lookup_int (P := Tryd.prog) (t := 60) (k := 3) (e := 3) Tryd.underlying60 Tryd.underlying3 hm2 (zeroI w1) false d
    rw [hgs d] at hlk
    have hval : (((if B.stamp d = -1 then none else some (Value.int .i64 (B.stamp d))) : Option Value).getD (.int .i64 0)) = .int .i64 sv := by
      rw [est, esv]
      split <;> rfl
    replace hlk : (Instr.lookup 60 (.map (some b2)) (.int .i64 d) false).run Tryd.prog w1 = .ok (.int .i64 sv) w1 := by rw [hlk]; simp only [Bool.false_eq_true, if_false]; rw [hval]
    clear hB hm2 hm1 hgs hc0 hc1 HM hval esv
    by_cases h1 : asked < sv
    · have h1b : decide (asked < sv) = true := decide_eq_true h1
      have hr : e0 = 1 := by rw [← HEE.out]; exact learnE_arg (.inr (by rw [est]; exact hsv.1 h1))
      have hb : B1 = B := by rw [← HEB.out]; exact learnB_ne (by rw [HEE.out, hr]; decide)
      subst hr
      subst hb
      clear h1 hsv hst ha est
      go_wp2_with fail
      go_ret
      exact ⟨rfl, turned_same HP.out HB.out⟩
    · have h1b : decide (asked < sv) = false := decide_eq_false h1
      have HS := Aside0.mk (show B.stamp d ≤ asked by rw [est]; have := hsv.2; omega)
      clear h1 hsv hst ha est
      have hCN := cred_Counts_eq 101 l HL.out (by omega)
      have HCT := Aside0.mk (cred_Counts.calls 101 A c l (countsC l) w1 (Kd.C_below HC.out HB.out) HCC.out hCN)
      have hcl := Nat.le_trans (countsC_length l) HL.out
      obtain ⟨cs, ecs⟩ : ∃ cs, countsC l = cs := ⟨_, rfl⟩
      rw [ecs] at HCT hcl
      have HCL := Aside0.mk hcl
      have HCS := Aside0.mk ecs
      clear hCN hcl ecs
      go_wp2_with fail
      refine HCT.out.mono ?_
      rintro e w2 ⟨v2, rfl, hR2, hB2⟩
      obtain ⟨A2, c2, rfl, hc2', hC2⟩ := Kd.R_reads hR2
      have HC2 := Aside0.mk hC2
      have HB2 := Aside0.mk (below_then HB.out HB.out.size hB2)
      clear hR2 hC2 hB2 hc2 hlk HCT
      obtain ⟨n, en⟩ : ∃ n, cs.length = n := ⟨_, rfl⟩
      rw [en] at HC2 hc2'
      have HEN := Aside0.mk en
      have HLL := Aside0.mk (show (givesC d asked cs).length ≤ 40 from Nat.le_trans (gives_len d asked cs) HCL.out)
      obtain ⟨LL, eLL⟩ : ∃ LL, givesC d asked cs = LL := ⟨_, rfl⟩
      rw [eLL] at HLL
      have HEL := Aside0.mk eLL
      have hn40 : n ≤ 40 := by rw [← en]; exact HCL.out
      obtain ⟨un, eun⟩ : ∃ un, addT asked 56 = un := ⟨_, rfl⟩
      have HUN := Aside0.mk eun
      clear en eLL eun
      rw [HEN.out]
      go_wp2_with fail
      obtain ⟨wa, rfl⟩ : ∃ x : World, x = w2 := ⟨_, rfl⟩
      go_loopw [9, 30] (fun s9 s30 wr => ∃ (j : Nat) (ys : List SH), j ≤ n ∧ s30 = .int .i64 (j : Int) ∧ Aside0 (ys ++ givesC d asked (cs.drop j) = LL) ∧ Aside0 (RowH wa wr s9 ys) ∧ Aside0 (Below wa.heap.size wa wr)) (fun _ s30 _ => (n - (intOf s30).toNat))
      case atStart => exact ⟨0, [], by omega, rfl, ⟨by rw [List.drop_zero]; exact HEL.out⟩, ⟨Kd.R_nil _ _ _ _ _⟩, ⟨Below.refl _ _⟩⟩
      case round =>
        obtain ⟨j, ys, hj, rfl, HY, HR, HBR⟩ := hrel
        by_cases hjl : j < n
        · have b2 : decide ((j : Int) < (n : Int)) = true := decide_eq_true (by omega)
          have b3 : decide (j < n) = true := decide_eq_true hjl
          obtain ⟨ad, rfl, hx⟩ := at_cred (Kd.C_below HC2.out HBR.out) j hjl
          have hfd := gives_drop (d := d) (asked := asked) (show j < cs.length by rw [HEN.out]; exact hjl)
          obtain ⟨x, ex⟩ : ∃ x, cs.getD j default = x := ⟨_, rfl⟩
          rw [ex] at hx hfd
          have HFD := Aside0.mk hfd
          have HYL := Aside0.mk (show ys.length ≤ 40 by have h1 := HY.out; have h2 := HLL.out; rw [← h1, List.length_append] at h2; omega)
          obtain ⟨hx0, hx1, hx2, hx3, hx4, hx5, hx6, hx7, hx8⟩ := hx
          clear hfd ex
          by_cases hd : x.f0.f0 = d
          · have hdb : (x.f0.f0 == d) = true := by simp [hd]
            rw [if_pos hd, HUN.out] at HFD
            clear hd
            go_wp2_with fail
            have HBX := Aside0.mk (blk_new wr (.cells (cellsC x).toArray 40))
            have HBB := Aside0.mk (below_alloc HBR.out (.cells (cellsC x).toArray 40))
            have HRA := Aside0.mk (Kd.R_alloc HR.out (.cells (cellsC x).toArray 40))
            have hne : some wr.heap.size ≠ (u9 : Value).ownBlock := fun he => absurd (Kd.R_lt HR.out _ he.symm) (Nat.lt_irrefl _)
            have HNE := Aside0.mk hne
            have hjn := Aside0.mk hjl
            obtain ⟨bx, ebx⟩ : ∃ bx, bx = wr.heap.size := ⟨_, rfl⟩
            obtain ⟨w4, e4⟩ : ∃ w4, w4 = wr.alloc (.cells (cellsC x).toArray 40) := ⟨_, rfl⟩
            rw [← ebx, ← e4] at HBX
            rw [← ebx] at HNE
            rw [← e4] at HBB HRA
            have HAD := Aside0.mk (show ∀ W, Calls Tryd.prog 25 #[.int .i64 asked, .int .i64 56] W fun e W' => e = .returned (.int .i64 un) ∧ Below W.heap.size W W' from fun W => by rw [← HUN.out]; exact addP_at asked 56 W)
            have e4' : wr.alloc (.cells #[.int .i64 x.f0.f0, .int .i64 x.f0.f1, .string x.f1, .int .i64 x.f2, .string x.f3, .string x.f4.f0, .string x.f4.f1, .string x.f5.f0, .string x.f5.f1] 40) = w4 := e4.symm
            rw [e4', ← ebx]
            clear hx0 hx1 hx2 hx3 hx4 hx5 hx6 hx7 hx8 HBR HR hne e4 e4' ebx
            obtain ⟨w5, e_w5⟩ : ∃ w_, w_ = World.drew w4 := ⟨_, rfl⟩
            have HBw5 := Aside0.mk (show Below (World.heap w4).size w4 w5 by rw [e_w5]; exact below_drew (Below.refl _ _))
            refine start_ (n := 8) (S := fun w' => w'.cell? ⟨bx, 0, none⟩ = some (.int .i64 x.f0.f0) ∧ w'.cell? ⟨bx, 1, none⟩ = some (.int .i64 x.f0.f1) ∧ w'.cell? ⟨bx, 2, none⟩ = some (.string x.f1) ∧ w'.cell? ⟨bx, 3, none⟩ = some (.int .i64 x.f2) ∧ w'.cell? ⟨bx, 4, none⟩ = some (.string x.f3) ∧ w'.cell? ⟨bx, 5, none⟩ = some (.string x.f4.f0) ∧ w'.cell? ⟨bx, 6, none⟩ = some (.string x.f4.f1) ∧ w'.cell? ⟨bx, 7, none⟩ = some (.string x.f5.f0) ∧ w'.cell? ⟨bx, 8, none⟩ = some (.string x.f5.f1)) (ds := []) #[false, false, false, false, false, false, false, false] (by kernel_rfl) rfl rfl ⟨(by rw [← e_w5]; exact (cell_blk (blk_below HBX.out HBw5.out) 0 rfl)), (by rw [← e_w5]; exact (cell_blk (blk_below HBX.out HBw5.out) 1 rfl)), (by rw [← e_w5]; exact (cell_blk (blk_below HBX.out HBw5.out) 2 rfl)), (by rw [← e_w5]; exact (cell_blk (blk_below HBX.out HBw5.out) 3 rfl)), (by rw [← e_w5]; exact (cell_blk (blk_below HBX.out HBw5.out) 4 rfl)), (by rw [← e_w5]; exact (cell_blk (blk_below HBX.out HBw5.out) 5 rfl)), (by rw [← e_w5]; exact (cell_blk (blk_below HBX.out HBw5.out) 6 rfl)), (by rw [← e_w5]; exact (cell_blk (blk_below HBX.out HBw5.out) 7 rfl)), (by rw [← e_w5]; exact (cell_blk (blk_below HBX.out HBw5.out) 8 rfl))⟩ (fun hHeld => ?_)
            rw [← e_w5] at hHeld ⊢
            clear e_w5
            refine pure_ (i := 0) (N := some 39) (v := ?_) (a' := ?_) #[true, false, false, false, false, false, false, false] rfl rfl (by kernel_rfl) (fun _ _ _ h => h) (Or.inl ⟨by rfl, ?_⟩) ?_ ?_
            rotate_left
            · intro w'
              go_simp
              with_reducible rfl
            rotate_left
            · simp only [Act.put, List.setIfInBounds_toArray, List.set_cons_zero, List.set_cons_succ, i64_w, i32_w]
              rfl
            refine pure_ (i := 2) (N := some 41) (v := ?_) (a' := ?_) #[true, false, true, false, false, false, false, false] rfl rfl (by kernel_rfl) (fun _ _ _ h => h) (Or.inl ⟨by rfl, ?_⟩) ?_ ?_
            rotate_left
            · intro w'
              go_simp
              with_reducible rfl
            rotate_left
            · simp only [Act.put, List.setIfInBounds_toArray, List.set_cons_zero, List.set_cons_succ, i64_w, i32_w]
              rfl
            refine take_ (i := 1) (N := some 40) (v := ?_) (a' := ?_) #[true, true, true, false, false, false, false, false] rfl rfl (by kernel_rfl) (fun _ _ _ h => h) (Or.inl ⟨by rfl, ?_⟩) hHeld ?_ ?_
            rotate_left
            · rintro w' ⟨s0, s1, s2, s3, s4, s5, s6, s7, s8⟩
              go_simp
              with_reducible rfl
            rotate_left
            · simp only [Act.put, List.setIfInBounds_toArray, List.set_cons_zero, List.set_cons_succ, i64_w, i32_w]
              rfl
            refine one_ (i := 3) (N := some 42) #[true, true, true, true, false, false, false, false] rfl rfl (by kernel_rfl) (by decide) (fun K hK => ?_)
            refine goes_ Tryd.func25 (by kernel_rfl) rfl #[.int .i64 asked, .int .i64 56] (by rfl) rfl rfl (by simp only [List.map_toArray, List.map_cons, List.map_nil]; rfl) ?_
            with_reducible refine (HAD.out w5).mono ?_
            rintro e w6 ⟨rfl, hB6⟩
            have HBX6 := Aside0.mk (blk_below (blk_below HBX.out HBw5.out) hB6)
            have HR6 := Aside0.mk (Kd.R_below (Kd.R_below HRA.out HBw5.out) hB6)
            have HB6 := Aside0.mk (below_step (below_step HBB.out HBw5.out) hB6)
            clear hB6
            refine ⟨_, rfl, ?_⟩
            refine hK.out _ _ ⟨(cell_blk HBX6.out 0 rfl), (cell_blk HBX6.out 1 rfl), (cell_blk HBX6.out 2 rfl), (cell_blk HBX6.out 3 rfl), (cell_blk HBX6.out 4 rfl), (cell_blk HBX6.out 5 rfl), (cell_blk HBX6.out 6 rfl), (cell_blk HBX6.out 7 rfl), (cell_blk HBX6.out 8 rfl)⟩ (fun hHeld => ?_)
            clear hK K
            refine norm_ (a' := ?_) ?_ ?_
            rotate_left
            · show Act.put _ (some 42) _ = _
              simp only [Act.put, List.setIfInBounds_toArray, List.set_cons_zero, List.set_cons_succ, i64_w, i32_w]
              rfl
            refine pure_ (i := 4) (N := some 43) (v := ?_) (a' := ?_) #[true, true, true, true, true, false, false, false] rfl rfl (by kernel_rfl) (fun _ _ _ h => h) (Or.inl ⟨by rfl, ?_⟩) ?_ ?_
            rotate_left
            · intro w'
              go_simp
              with_reducible rfl
            rotate_left
            · simp only [Act.put, List.setIfInBounds_toArray, List.set_cons_zero, List.set_cons_succ, i64_w, i32_w]
              rfl
            refine one_ (i := 5) (N := some 44) #[true, true, true, true, true, true, false, false] rfl rfl (by kernel_rfl) (by decide) (fun K hK => ?_)
            refine value_ (w1 := ?_) (v := ?_) (by rfl) rfl ?_ ?_
            rotate_left 2
            · go_simp
              constructor
              · rfl
              · rfl
            refine hK.out _ _ ⟨(cell_blk (blk_alloc HBX6.out _) 0 rfl), (cell_blk (blk_alloc HBX6.out _) 1 rfl), (cell_blk (blk_alloc HBX6.out _) 2 rfl), (cell_blk (blk_alloc HBX6.out _) 3 rfl), (cell_blk (blk_alloc HBX6.out _) 4 rfl), (cell_blk (blk_alloc HBX6.out _) 5 rfl), (cell_blk (blk_alloc HBX6.out _) 6 rfl), (cell_blk (blk_alloc HBX6.out _) 7 rfl), (cell_blk (blk_alloc HBX6.out _) 8 rfl)⟩ (fun hHeld => ?_)
            clear hK K
            refine norm_ (a' := ?_) ?_ ?_
            rotate_left
            · show Act.put _ (some 44) _ = _
              simp only [Act.put, List.setIfInBounds_toArray, List.set_cons_zero, List.set_cons_succ, i64_w, i32_w]
              rfl
            refine one_ (i := 6) (N := some 45) #[true, true, true, true, true, true, true, false] rfl rfl (by kernel_rfl) (by decide) (fun K hK => ?_)
            refine app_held_step (w0 := wa) (by rfl) (.tmp 39) (.tmp 44) rfl u9 ys ⟨x, un⟩ rfl rfl HR6.out HB6.out (by have := HYL.out; omega) ?_
            intro v7 w7 hR7 hB7 hg7
            have HR7 := Aside0.mk hR7
            have HB7 := Aside0.mk hB7
            have HBX7 := Aside0.mk (blk_row (w0 := wa) (xs := ys) HBX6.out hg7 HNE.out)
            clear hR7 hB7 hg7
            refine hK.out _ _ ⟨(cell_blk HBX7.out 0 rfl), (cell_blk HBX7.out 1 rfl), (cell_blk HBX7.out 2 rfl), (cell_blk HBX7.out 3 rfl), (cell_blk HBX7.out 4 rfl), (cell_blk HBX7.out 5 rfl), (cell_blk HBX7.out 6 rfl), (cell_blk HBX7.out 7 rfl), (cell_blk HBX7.out 8 rfl)⟩ (fun hHeld => ?_)
            clear hK K
            refine norm_ (a' := ?_) ?_ ?_
            rotate_left
            · show Act.put _ (some 45) _ = _
              simp only [Act.put, List.setIfInBounds_toArray, List.set_cons_zero, List.set_cons_succ, i64_w, i32_w]
              rfl
            refine pure_ (i := 7) (N := some 9) (v := ?_) (a' := ?_) #[true, true, true, true, true, true, true, true] rfl rfl (by kernel_rfl) (fun _ _ _ h => h) (Or.inl ⟨by rfl, ?_⟩) ?_ ?_
            rotate_left
            · intro w'
              go_simp
              with_reducible rfl
            rotate_left
            · simp only [Act.put, List.setIfInBounds_toArray, List.set_cons_zero, List.set_cons_succ, i64_w, i32_w]
              rfl
            refine done_ (by kernel_rfl) ?_
            go_wp2_with fail
            go_roundw
            case rel => exact ⟨j + 1, ys ++ [⟨x, un⟩], by omega, by simp, ⟨by have := HY.out; rw [HFD.out] at this; simpa using this⟩, HR7, HB7⟩
            case measure => simp [intOf]; omega
          · have hdb : (x.f0.f0 == d) = false := by simp [hd]
            rw [if_neg hd] at HFD
            clear hd
            go_wp2_with fail
            go_roundw
            case rel => exact ⟨j + 1, ys, by omega, by simp, ⟨by have := HY.out; rw [HFD.out] at this; exact this⟩, ⟨Kd.R_alloc HR.out _⟩, ⟨below_alloc HBR.out _⟩⟩
            case measure => simp [intOf]; omega
        · have e : j = n := by omega
          subst e
          have b2 : decide ((j : Int) < (j : Int)) = false := decide_eq_false (by omega)
          have b3 : decide (j < j) = false := decide_eq_false (by omega)
          have hyy : ys = LL := by
            have := HY.out
            rw [List.drop_eq_nil_of_le (by rw [HEN.out]; exact Nat.le_refl _)] at this
            rw [← this]
            exact (List.append_nil _).symm
          subst hyy
          obtain ⟨A9, c9, e9, hc9, _⟩ := Kd.R_reads HR.out
          subst e9
          obtain ⟨ln, eln⟩ : ∃ ln, ys.length = ln := ⟨_, rfl⟩
          have HLN := Aside0.mk eln
          rw [eln]
          have HBW := Aside0.mk (below_then HB2.out HB2.out.size HBR.out)
          by_cases hfull : 24 < ln
          · have hfb : decide ((24 : Int) < (ln : Int)) = true := decide_eq_true (by omega)
            have hr : e0 = 12 := by rw [← HEE.out]; exact learnE_full HA.out HS.out (by rw [HCS.out, HEL.out, eln]; exact hfull)
            have hb : B1 = B := by rw [← HEB.out]; exact learnB_ne (by rw [HEE.out, hr]; decide)
            subst hr
            subst hb
            clear hfull eln
            go_wp2_with fail
            go_ret
            exact ⟨rfl, turned_same HP.out HBW.out⟩
          · have hfb : decide ((24 : Int) < (ln : Int)) = false := decide_eq_false (by omega)
            have hr : e0 = 0 := by rw [← HEE.out]; exact learnE_ok HA.out HS.out (by rw [HCS.out, HEL.out, eln]; omega)
            have hb := HEB.out
            rw [learnB_ok (by rw [HEE.out, hr]), HCS.out, HEL.out] at hb
            subst hr
            subst hb
            have HT := Aside0.mk (bookHear.calls g B d asked wr (fun k => ok k ∧ k < W.heap.size) ((PBook g B).on ((PBook g B).bound HP.out) HBW.out))
            clear hfull eln
            go_wp2_with fail
            refine HT.out.mono ?_
            rintro e w6 ⟨rfl, hT⟩
            have hR6 : k42.R 42 w6 0 (fun k => ok k ∨ W.heap.size ≤ k) (.slice A9 ln c9) ys :=
              Kd.R_lower (Kd.R_mono (Kd.R_step (by rw [← HLN.out]; exact HR.out) (fun k hk hlt => hT.1.block k hlt (fun hh => absurd hk (Nat.not_le.2 (Nat.lt_of_lt_of_le hh.2 HB2.out.size))))) (fun k hk => .inr (Nat.le_trans HB2.out.size hk))) (Nat.zero_le _)
            obtain ⟨b1', b2', m1', m2', _, hc1', _, hm1', _, _, _, _, hput⟩ := pbook_open ((PBook g (hearB B d asked)).mono (ok' := fun k => ok k ∨ W.heap.size ≤ k) (fun k hk => hk.elim (fun h => .inl h.1) (fun h => .inr (Nat.le_trans HBW.out.size h))) hT.2)
            have HT1 := Aside0.mk hT
            have HR6 := Aside0.mk hR6
            have HM1 := Aside0.mk hm1'
            have HPUT := Aside0.mk hput
            clear hT hR6 hm1' hput HT
            go_wp2_with (at_mapUpdate; refine wp_update_int (q := .i64) (m := m1') rfl 59 (.tmp 57) (.tmp 58) (.tmp 59) rfl Tryd.underlying59 Tryd.underlying3 d (.slice A9 ln c9) rfl rfl rfl HM1.out ?_)
            intro w7 hm7 hg7
            have HT7 := Aside0.mk (learn_end HBW.out HT1.out (HPUT.out w7 d _ ys HR6.out hm7 hg7))
            clear hm7 hg7
            go_wp2_with fail
            go_ret
            exact ⟨rfl, HT7.out⟩
end Go.Proofs.YtpdcmdofojckdaaDoor.P
