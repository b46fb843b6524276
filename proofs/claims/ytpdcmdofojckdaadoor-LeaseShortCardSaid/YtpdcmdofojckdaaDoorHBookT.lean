/- Contracts, typed by hand and by a program (gen_l13.py): the document's book: Learn. -/
import Derived.Test.YtpdcmdofojckdaaDoorHBookS
import Derived.Test.YtpdcmdofojckdaaDoorP22
set_option linter.unusedVariables false
set_option linter.unusedSimpArgs false
namespace Go.Proofs.YtpdcmdofojckdaaDoor.P
open Go.RowKit Go.Proofs.YtpdcmdofojckdaaDoor.Pure Go.Proofs.YtpdcmdofojckdaaDoorW.PrintWords Go.Proofs.YtpdcmdofojckdaaDoorW.PrintLast Go.Proofs.YtpdcmdofojckdaaDoorW.PrintMore
def ltD (d : Int) (h : SH) : Bool := decide (h.f0.f0.f0 < d)
def gtD (d : Int) (h : SH) : Bool := decide (d < h.f0.f0.f0)
def putH (B : Bk) (d : Int) (L : List SH) : Bk := { B with held := fun x => if x = d then L else B.held x }
theorem all_high {B : Bk} (h : Good13 B) (d : Int) (L : List SH) : ∀ n i : Nat, d ≤ i → (allFrom B n i).filter (ltD d) = [] ∧ (allFrom B n i).filter (gtD d) = allFrom B n i ∧ allFrom (putH B d L) n i = allFrom B n i
  | 0, i, _ => ⟨rfl, rfl, rfl⟩
  | n + 1, i, hd => by
    obtain ⟨h1, h2, h3⟩ := all_high h d L n (i + 1) (by omega)
    have h4 : (B.held ((i + 1 : Nat) : Int)).filter (ltD d) = [] := List.filter_eq_nil_iff.2 fun x hx => by
      have := (h.dom _ x hx).1
      unfold ltD
      simp only [decide_eq_true_eq]
      omega
    have h5 : (B.held ((i + 1 : Nat) : Int)).filter (gtD d) = B.held ((i + 1 : Nat) : Int) := List.filter_eq_self.2 fun x hx => by
      have := (h.dom _ x hx).1
      unfold gtD
      simp only [decide_eq_true_eq]
      omega
    refine ⟨by rw [allFrom, List.filter_append, h1, h4]; rfl, by rw [allFrom, List.filter_append, h2, h5], ?_⟩
    rw [allFrom, allFrom, h3]
    congr 1
    show (if ((i + 1 : Nat) : Int) = d then L else B.held ((i + 1 : Nat) : Int)) = _
    rw [if_neg (by omega)]
theorem all_put {B : Bk} (h : Good13 B) (d : Int) (L : List SH) : ∀ n i : Nat, (i : Int) < d → d ≤ ((i + n : Nat) : Int) → allFrom (putH B d L) n i = (allFrom B n i).filter (ltD d) ++ L ++ (allFrom B n i).filter (gtD d)
  | 0, i, h1, h2 => by omega
  | n + 1, i, h1, h2 => by
    rw [allFrom, allFrom, List.filter_append, List.filter_append]
    by_cases e : ((i + 1 : Nat) : Int) = d
    · obtain ⟨h3, h4, h5⟩ := all_high h d L n (i + 1) (by omega)
      have h6 : (B.held ((i + 1 : Nat) : Int)).filter (ltD d) = [] := List.filter_eq_nil_iff.2 fun x hx => by
        have := (h.dom _ x hx).1
        unfold ltD
        simp only [decide_eq_true_eq]
        omega
      have h7 : (B.held ((i + 1 : Nat) : Int)).filter (gtD d) = [] := List.filter_eq_nil_iff.2 fun x hx => by
        have := (h.dom _ x hx).1
        unfold gtD
        simp only [decide_eq_true_eq]
        omega
      rw [h3, h4, h5, h6, h7, show (putH B d L).held ((i + 1 : Nat) : Int) = L from if_pos e]
      simp
    · have h6 : (B.held ((i + 1 : Nat) : Int)).filter (ltD d) = B.held ((i + 1 : Nat) : Int) := List.filter_eq_self.2 fun x hx => by
        have := (h.dom _ x hx).1
        unfold ltD
        simp only [decide_eq_true_eq]
        omega
      have h7 : (B.held ((i + 1 : Nat) : Int)).filter (gtD d) = [] := List.filter_eq_nil_iff.2 fun x hx => by
        have := (h.dom _ x hx).1
        unfold gtD
        simp only [decide_eq_true_eq]
        omega
      rw [all_put h d L n (i + 1) (by omega) (by omega), h6, h7, show (putH B d L).held ((i + 1 : Nat) : Int) = B.held ((i + 1 : Nat) : Int) from if_neg e]
      simp
theorem allL_put {B : Bk} (h : Good13 B) {d : Int} (hd : 1 ≤ d ∧ d ≤ 16) (L : List SH) : allL (putH B d L) = (allL B).filter (ltD d) ++ L ++ (allL B).filter (gtD d) := all_put h d L 16 0 (by omega) (by omega)
theorem learn_is (B : Bk) (d : Int) (l : List CS) (asked : Int) (h : learnE B d l asked = 0) : hearB (putH B d (givesC d asked (countsC l))) d asked = learnB B d l asked := by
  rw [learnB_ok h]
  unfold hearB putH
  have hm : mayA { B with held := fun x => if x = d then givesC d asked (countsC l) else B.held x } d asked = mayA B d asked := rfl
  rw [hm]
  by_cases hc : mayA B d asked = true ∧ B.stamp d < asked
  · rw [if_pos hc, if_pos hc]
  · rw [if_neg hc, if_neg hc]
/-- A credential of a row that is read, behind whatever was made. -/
theorem at_of {W W' : World} {ad : Addr} {n : Nat} {xs : List CS} {x : CS} {j : Nat} (hC : k40.C W (some ad) n xs) (hB : Below W.heap.size W W') (hj : j < n) (hx : xs.getD j default = x) : At9 W' (ad.add (j * 9)) x := by
  obtain ⟨ad', e, h⟩ := at_cred (Kd.C_below hC hB) j hj
  cases e
  rw [hx] at h
  exact h
theorem filter_drop' {p : SH → Bool} {l : List SH} {j : Nat} (h : j < l.length) : (l.drop j).filter p = (if p (l.getD j default) = true then [l.getD j default] else []) ++ (l.drop (j + 1)).filter p := filter_drop h
section
variable {ops : Array Oper} {rest : List Oper} {o : Oper} {a : Act} {Q : Exit → Act → World → Prop}
theorem app_helds {w0 W : World} (hgd : o.guard = none) (s x : Operand) (ho : o.op = .call { callee := .builtin .append, args := #[s, x], argTypes := #[33, 33] }) (v : Value) (xs ys : List SH) (A : Option Addr) (m c : Nat)
    (hs : a.eval s = v) (hx : a.eval x = .slice A m c) (HO : RowH w0 W v xs) (HR : k42.C W A m ys) (HB : Below w0.heap.size w0 W) (hl : xs.length + m ≤ 100000)
    (K : ∀ v1 w1, RowH w0 w1 v1 (xs ++ ys) → Below w0.heap.size w0 w1 → wpList Tryd.prog ops Q rest (a.put o.dst v1) w1) :
    wpList Tryd.prog ops Q (o :: rest) a W :=
  Kd.R_append_rows k42 (w0 := w0) (W := W) w0.heap.size hgd s x 33 42 zH 128 ho Tryd.underlying33 info42 rfl (by decide) (by omega) v xs ys A m c (fun k => w0.heap.size ≤ k) (fun _ => False) hs hx
    HO HR (fun _ _ h => h) (fun _ hk => hk.elim) (fun k hk => Nat.le_trans HB.size hk) HB HB.size (by omega) (fun v1 w1 h1 h2 _ _ => K v1 w1 h1 h2)
end
set_option maxHeartbeats 16000000 in
set_option maxRecDepth 100000 in
theorem rbookLearn.calls (g : Nat) (B : Bk) (hG : Good13 B) (d : Int) (A : Option Addr) (c : Nat) (l : List CS) (asked : Int) (W : World) (ok : Nat → Prop) (hP : (RBook g B).P ok W) (hC : k40.C W A l.length l) (hc : l.length ≤ c) (hl : l.length ≤ 40) :
    Calls Tryd.prog 28 #[.pointer (some ⟨g, 0, none⟩), .int .i64 d, .slice A l.length c, .int .i64 asked] W fun e W' => e = .returned (.int .i64 (learnE B d l asked)) ∧ Turned ok W W' (RBook g (learnB B d l asked)) := by
  have HP := Aside0.mk hP
  obtain ⟨_, _, _, _, _, hc0, _⟩ := rbook_open hP
  have HSTP := Aside0.mk (rbookStamp.calls g B d W ok hP)
  have HG := Aside0.mk hG
  have HC := Aside0.mk hC
  have HCC := Aside0.mk hc
  have HL := Aside0.mk hl
  clear hP hG hC hc hl
  obtain ⟨e0, ee⟩ : ∃ e0, learnE B d l asked = e0 := ⟨_, rfl⟩
  obtain ⟨B1, eb⟩ : ∃ B1, learnB B d l asked = B1 := ⟨_, rfl⟩
  rw [ee, eb]
  have HEE := Aside0.mk ee
  have HEB := Aside0.mk eb
  clear ee eb
  obtain ⟨m, em⟩ : ∃ m, mayA B d asked = m := ⟨_, rfl⟩
  have hu1 := Tryd.underlying40
  have hu2 := Tryd.underlying36
  have hu3 := Tryd.underlying42
  cases m with
  | false =>
    have hr : e0 = 1 := by rw [← HEE.out]; exact learnE_arg (.inl em)
    have hb : B1 = B := by rw [← HEB.out]; exact learnB_ne (by rw [HEE.out, hr]; decide)
    subst hr
    subst hb
    have ht := tests_not em
    obtain ⟨o, eo⟩ : ∃ o, B1.own = o := ⟨_, rfl⟩
    rw [eo] at ht hc0
    clear em eo HSTP
    rcases ht with t0 | ⟨t0, t1 | ⟨t1, t2 | ⟨t2, t3 | ⟨t3, t4⟩⟩⟩⟩
    all_goals
      go_enter Tryd.func28, Tryd.ntmps28
      go_wp2_with fail
      go_ret
      exact ⟨rfl, turned_same HP.out (Below.refl _ _)⟩
  | true =>
    obtain ⟨t0, t1, t2, t3, t4⟩ := tests_of em
    have hd := (mayA_iff.1 em).2.1
    have HD := Aside0.mk hd
    have HA := Aside0.mk em
    obtain ⟨st, est⟩ : ∃ st, B.stamp d = st := ⟨_, rfl⟩
    obtain ⟨o, eo⟩ : ∃ o, B.own = o := ⟨_, rfl⟩
    rw [est] at HSTP
    rw [eo] at hc0 t0
    clear em eo hd
    go_enter Tryd.func28, Tryd.ntmps28
    go_wp2_with fail
    refine HSTP.out.mono ?_
    rintro e w1 ⟨rfl, hB1⟩
    have HB1 := Aside0.mk hB1
    clear hB1 HSTP
    by_cases h1 : asked < st
    · have h1b : decide (asked < st) = true := decide_eq_true h1
      have hr : e0 = 1 := by rw [← HEE.out]; exact learnE_arg (.inr (by rw [est]; exact h1))
      have hb : B1 = B := by rw [← HEB.out]; exact learnB_ne (by rw [HEE.out, hr]; decide)
      subst hr
      subst hb
      clear h1 est
      go_wp2_with fail
      go_ret
      exact ⟨rfl, turned_same HP.out HB1.out⟩
    · have h1b : decide (asked < st) = false := decide_eq_false h1
      have HS := Aside0.mk (show B.stamp d ≤ asked by rw [est]; omega)
      clear h1 est
      have hCN := ref05_Counts_eq 4001 l HL.out (by omega)
      have HCT := Aside0.mk (liveryref05_Counts.calls 4001 A c l (countsC l) w1 (Kd.C_below HC.out HB1.out) HCC.out hCN)
      have hcl := Nat.le_trans (countsC_length l) HL.out
      obtain ⟨cs, ecs⟩ : ∃ cs, countsC l = cs := ⟨_, rfl⟩
      rw [ecs] at HCT hcl
      have HCL := Aside0.mk hcl
      have HCS := Aside0.mk ecs
      clear hCN hcl ecs
      go_wp2_with fail
      refine HCT.out.mono ?_
      rintro e w2 ⟨v2, rfl, hR2, hB2⟩
      obtain ⟨A2, c2, rfl, hc2', hC2⟩ := Kd.R_reads hR2
      have HC2 := Aside0.mk hC2
      have HB2 := Aside0.mk (below_step HB1.out hB2)
      clear hR2 hC2 hB2 HCT
      obtain ⟨n, en⟩ : ∃ n, cs.length = n := ⟨_, rfl⟩
      rw [en] at HC2 hc2' ⊢
      have HEN := Aside0.mk en
      have HLL := Aside0.mk (show (givesC d asked cs).length ≤ 40 from Nat.le_trans (gives_len d asked cs) HCL.out)
      obtain ⟨LL, eLL⟩ : ∃ LL, givesC d asked cs = LL := ⟨_, rfl⟩
      rw [eLL] at HLL
      have HEL := Aside0.mk eLL
      have hn40 : n ≤ 40 := by rw [← en]; exact HCL.out
      obtain ⟨un, eun⟩ : ∃ un, addT asked 56 = un := ⟨_, rfl⟩
      have HUN := Aside0.mk eun
      have HAD := Aside0.mk (show ∀ W, Calls Tryd.prog 34 #[.int .i64 asked, .int .i64 56] W fun e W' => e = .returned (.int .i64 un) ∧ Below W.heap.size W W' from fun W => by rw [← eun]; exact addR_at asked 56 W)
      clear en eLL eun
      go_wp2_with fail
      obtain ⟨wa, rfl⟩ : ∃ x : World, x = w2 := ⟨_, rfl⟩
      go_loopw [9, 11] (fun s9 s11 wr => ∃ (j : Nat) (ys : List SH), j ≤ n ∧ s11 = .int .i64 (j : Int) ∧ Aside0 (ys ++ givesC d asked (cs.drop j) = LL) ∧ Aside0 (RowH wa wr s9 ys) ∧ Aside0 (Below wa.heap.size wa wr)) (fun _ s11 _ => (n - (intOf s11).toNat))
      case atStart => exact ⟨0, [], by omega, rfl, ⟨by rw [List.drop_zero]; exact HEL.out⟩, ⟨Kd.R_nil _ _ _ _ _⟩, ⟨Below.refl _ _⟩⟩
      case round =>
        obtain ⟨j, ys, hj, rfl, HY, HR, HBR⟩ := hrel
        by_cases hjl : j < n
        · have b2 : decide ((j : Int) < (n : Int)) = true := decide_eq_true (by omega)
          have b3 : decide (j < n) = true := decide_eq_true hjl
          obtain ⟨ad, rfl, hx⟩ := at_cred (Kd.C_below HC2.out HBR.out) j hjl
          have hfd := gives_drop (d := d) (asked := asked) (show j < cs.length by rw [HEN.out]; exact hjl)
          obtain ⟨x, ex⟩ : ∃ x, cs.getD j default = x := ⟨_, rfl⟩
          rw [ex] at hx hfd
          have HFD := Aside0.mk hfd
          have HYL := Aside0.mk (show ys.length ≤ 40 by have h1 := HY.out; have h2 := HLL.out; rw [← h1, List.length_append] at h2; omega)
          have HX := Aside0.mk hx
          have hx0 := hx.1
          have HJ := Aside0.mk hjl
          have HCJ := Aside0.mk ex
          clear hfd ex hx
          obtain ⟨w4, e4⟩ : ∃ w4, w4 = wr := ⟨_, rfl⟩
          by_cases hdd : x.f0.f0 = d
          · have hdb : (x.f0.f0 == d) = true := by simp [hdd]
            rw [if_pos hdd, HUN.out] at HFD
            clear hdd
            go_wp2_with fail
            rw [← e4] at HX HBR HR ⊢
            clear hx0 e4
            obtain ⟨w5, e_w5⟩ : ∃ w_, w_ = World.drew w4 := ⟨_, rfl⟩
            have HBw5 := Aside0.mk (show Below (World.heap w4).size w4 w5 by rw [e_w5]; exact below_drew (Below.refl _ _))
            refine start_ (n := 11) (S := fun w' => w'.cell? (ad.add (j * 9)) = some (.int .i64 x.f0.f0) ∧ w'.cell? ⟨(ad.add (j * 9)).block, (ad.add (j * 9)).off + 1, none⟩ = some (.int .i64 x.f0.f1) ∧ w'.cell? ⟨(ad.add (j * 9)).block, (ad.add (j * 9)).off + 2, none⟩ = some (.string x.f1) ∧ w'.cell? ⟨(ad.add (j * 9)).block, (ad.add (j * 9)).off + 3, none⟩ = some (.int .i64 x.f2) ∧ w'.cell? ⟨(ad.add (j * 9)).block, (ad.add (j * 9)).off + 4, none⟩ = some (.string x.f3) ∧ w'.cell? ⟨(ad.add (j * 9)).block, (ad.add (j * 9)).off + 5, none⟩ = some (.string x.f4.f0) ∧ w'.cell? ⟨(ad.add (j * 9)).block, (ad.add (j * 9)).off + 6, none⟩ = some (.string x.f4.f1) ∧ w'.cell? ⟨(ad.add (j * 9)).block, (ad.add (j * 9)).off + 7, none⟩ = some (.string x.f5.f0) ∧ w'.cell? ⟨(ad.add (j * 9)).block, (ad.add (j * 9)).off + 8, none⟩ = some (.string x.f5.f1)) (ds := []) #[false, false, false, false, false, false, false, false, false, false, false] (by kernel_rfl) rfl rfl ⟨(by rw [← e_w5]; exact (pw_cell_below HBw5.out HX.out.1)), (by rw [← e_w5]; exact (pw_cell_below HBw5.out HX.out.2.1)), (by rw [← e_w5]; exact (pw_cell_below HBw5.out HX.out.2.2.1)), (by rw [← e_w5]; exact (pw_cell_below HBw5.out HX.out.2.2.2.1)), (by rw [← e_w5]; exact (pw_cell_below HBw5.out HX.out.2.2.2.2.1)), (by rw [← e_w5]; exact (pw_cell_below HBw5.out HX.out.2.2.2.2.2.1)), (by rw [← e_w5]; exact (pw_cell_below HBw5.out HX.out.2.2.2.2.2.2.1)), (by rw [← e_w5]; exact (pw_cell_below HBw5.out HX.out.2.2.2.2.2.2.2.1)), (by rw [← e_w5]; exact (pw_cell_below HBw5.out HX.out.2.2.2.2.2.2.2.2))⟩ (fun hHeld => ?_)
            rw [← e_w5] at hHeld ⊢
            clear e_w5
            refine pure_ (i := 0) (N := some 60) (v := ?_) (a' := ?_) #[true, false, false, false, false, false, false, false, false, false, false] rfl rfl (by kernel_rfl) (fun _ _ _ h => h) (Or.inl ⟨by rfl, ?_⟩) ?_ ?_
            rotate_left
            · intro w'
              go_simp
              with_reducible rfl
            rotate_left
            · simp only [Act.put, List.setIfInBounds_toArray, List.set_cons_zero, List.set_cons_succ, i64_w, i32_w]
              rfl
            refine pure_ (i := 1) (N := some 61) (v := ?_) (a' := ?_) #[true, true, false, false, false, false, false, false, false, false, false] rfl rfl (by kernel_rfl) (fun _ _ _ h => h) (Or.inl ⟨by rfl, ?_⟩) ?_ ?_
            rotate_left
            · intro w'
              go_simp
              with_reducible rfl
            rotate_left
            · simp only [Act.put, List.setIfInBounds_toArray, List.set_cons_zero, List.set_cons_succ, i64_w, i32_w]
              rfl
            refine pure_ (i := 2) (N := some 62) (v := ?_) (a' := ?_) #[true, true, true, false, false, false, false, false, false, false, false] rfl rfl (by kernel_rfl) (fun _ _ _ h => h) (Or.inl ⟨by rfl, ?_⟩) ?_ ?_
            rotate_left
            · intro w'
              go_simp
              with_reducible rfl
            rotate_left
            · simp only [Act.put, List.setIfInBounds_toArray, List.set_cons_zero, List.set_cons_succ, i64_w, i32_w]
              rfl
            refine pure_ (i := 3) (N := some 63) (v := ?_) (a' := ?_) #[true, true, true, true, false, false, false, false, false, false, false] rfl rfl (by kernel_rfl) (fun _ _ _ h => h) (Or.inl ⟨by rfl, ?_⟩) ?_ ?_
            rotate_left
            · intro w'
              go_simp
              with_reducible rfl
            rotate_left
            · simp only [Act.put, List.setIfInBounds_toArray, List.set_cons_zero, List.set_cons_succ, i64_w, i32_w]
              rfl
            refine pure_ (i := 5) (N := some 65) (v := ?_) (a' := ?_) #[true, true, true, true, false, true, false, false, false, false, false] rfl rfl (by kernel_rfl) (fun _ _ _ h => h) (Or.inl ⟨by rfl, ?_⟩) ?_ ?_
            rotate_left
            · intro w'
              go_simp
              with_reducible rfl
            rotate_left
            · simp only [Act.put, List.setIfInBounds_toArray, List.set_cons_zero, List.set_cons_succ, i64_w, i32_w]
              rfl
            refine take_ (i := 4) (N := some 64) (v := ?_) (a' := ?_) #[true, true, true, true, true, true, false, false, false, false, false] rfl rfl (by kernel_rfl) (fun _ _ _ h => h) (Or.inl ⟨by rfl, ?_⟩) hHeld ?_ ?_
            rotate_left
            · rintro w' ⟨s0, s1, s2, s3, s4, s5, s6, s7, s8⟩
              go_simp
              with_reducible rfl
            rotate_left
            · simp only [Act.put, List.setIfInBounds_toArray, List.set_cons_zero, List.set_cons_succ, i64_w, i32_w]
              rfl
            refine one_ (i := 6) (N := some 66) #[true, true, true, true, true, true, true, false, false, false, false] rfl rfl (by kernel_rfl) (by decide) (fun K hK => ?_)
            refine goes_ Tryd.func34 (by kernel_rfl) rfl #[.int .i64 asked, .int .i64 56] (by rfl) rfl rfl (by simp only [List.map_toArray, List.map_cons, List.map_nil]; rfl) ?_
            with_reducible refine (HAD.out w5).mono ?_
            rintro e w6 ⟨rfl, hB6⟩
            have HD6 := Aside0.mk (below_step HBw5.out hB6)
            have HR6 := Aside0.mk (Kd.R_below HR.out HD6.out)
            have HB6 := Aside0.mk (below_step HBR.out HD6.out)
            clear hB6
            refine ⟨_, rfl, ?_⟩
            refine hK.out _ _ ⟨(pw_cell_below HD6.out HX.out.1), (pw_cell_below HD6.out HX.out.2.1), (pw_cell_below HD6.out HX.out.2.2.1), (pw_cell_below HD6.out HX.out.2.2.2.1), (pw_cell_below HD6.out HX.out.2.2.2.2.1), (pw_cell_below HD6.out HX.out.2.2.2.2.2.1), (pw_cell_below HD6.out HX.out.2.2.2.2.2.2.1), (pw_cell_below HD6.out HX.out.2.2.2.2.2.2.2.1), (pw_cell_below HD6.out HX.out.2.2.2.2.2.2.2.2)⟩ (fun hHeld => ?_)
            clear hK K
            refine norm_ (a' := ?_) ?_ ?_
            rotate_left
            · show Act.put _ (some 66) _ = _
              simp only [Act.put, List.setIfInBounds_toArray, List.set_cons_zero, List.set_cons_succ, i64_w, i32_w]
              rfl
            refine pure_ (i := 7) (N := some 67) (v := ?_) (a' := ?_) #[true, true, true, true, true, true, true, true, false, false, false] rfl rfl (by kernel_rfl) (fun _ _ _ h => h) (Or.inl ⟨by rfl, ?_⟩) ?_ ?_
            rotate_left
            · intro w'
              go_simp
              with_reducible rfl
            rotate_left
            · simp only [Act.put, List.setIfInBounds_toArray, List.set_cons_zero, List.set_cons_succ, i64_w, i32_w]
              rfl
            refine one_ (i := 8) (N := some 68) #[true, true, true, true, true, true, true, true, true, false, false] rfl rfl (by kernel_rfl) (by decide) (fun K hK => ?_)
            refine value_ (w1 := ?_) (v := ?_) (by rfl) rfl ?_ ?_
            rotate_left 2
            · go_simp
              constructor
              · rfl
              · rfl
            refine hK.out _ _ ⟨(pw_cell_below (below_alloc HD6.out _) HX.out.1), (pw_cell_below (below_alloc HD6.out _) HX.out.2.1), (pw_cell_below (below_alloc HD6.out _) HX.out.2.2.1), (pw_cell_below (below_alloc HD6.out _) HX.out.2.2.2.1), (pw_cell_below (below_alloc HD6.out _) HX.out.2.2.2.2.1), (pw_cell_below (below_alloc HD6.out _) HX.out.2.2.2.2.2.1), (pw_cell_below (below_alloc HD6.out _) HX.out.2.2.2.2.2.2.1), (pw_cell_below (below_alloc HD6.out _) HX.out.2.2.2.2.2.2.2.1), (pw_cell_below (below_alloc HD6.out _) HX.out.2.2.2.2.2.2.2.2)⟩ (fun hHeld => ?_)
            clear hK K
            refine norm_ (a' := ?_) ?_ ?_
            rotate_left
            · show Act.put _ (some 68) _ = _
              simp only [Act.put, List.setIfInBounds_toArray, List.set_cons_zero, List.set_cons_succ, i64_w, i32_w]
              rfl
            refine one_ (i := 9) (N := some 69) #[true, true, true, true, true, true, true, true, true, true, false] rfl rfl (by kernel_rfl) (by decide) (fun K hK => ?_)
            refine app_held_step (w0 := wa) (by rfl) (.tmp 60) (.tmp 68) rfl u9 ys ⟨x, un⟩ rfl rfl HR6.out HB6.out (by have := HYL.out; omega) ?_
            intro v7 w7 hR7 hB7 hg7
            have HR7 := Aside0.mk hR7
            have HB7 := Aside0.mk hB7
            obtain ⟨hz0, hz1, hz2, hz3, hz4, hz5, hz6, hz7, hz8⟩ := at_of HC2.out hB7 HJ.out HCJ.out
            clear hR7 hB7 hg7
            refine hK.out _ _ ⟨hz0, hz1, hz2, hz3, hz4, hz5, hz6, hz7, hz8⟩ (fun hHeld => ?_)
            clear hK K
            refine norm_ (a' := ?_) ?_ ?_
            rotate_left
            · show Act.put _ (some 69) _ = _
              simp only [Act.put, List.setIfInBounds_toArray, List.set_cons_zero, List.set_cons_succ, i64_w, i32_w]
              rfl
            refine pure_ (i := 10) (N := some 9) (v := ?_) (a' := ?_) #[true, true, true, true, true, true, true, true, true, true, true] rfl rfl (by kernel_rfl) (fun _ _ _ h => h) (Or.inl ⟨by rfl, ?_⟩) ?_ ?_
            rotate_left
            · intro w'
              go_simp
              with_reducible rfl
            rotate_left
            · simp only [Act.put, List.setIfInBounds_toArray, List.set_cons_zero, List.set_cons_succ, i64_w, i32_w]
              rfl
            refine done_ (by kernel_rfl) ?_
            go_wp2_with fail
            go_roundw
            case rel => exact ⟨j + 1, ys ++ [⟨x, un⟩], by omega, by simp, ⟨by have := HY.out; rw [HFD.out] at this; simpa using this⟩, HR7, HB7⟩
            case measure => simp [intOf]; omega
          · have hdb : (x.f0.f0 == d) = false := by simp [hdd]
            rw [if_neg hdd] at HFD
            clear hdd e4
            go_wp2_with fail
            go_roundw
            case rel => exact ⟨j + 1, ys, by omega, by simp, ⟨by have := HY.out; rw [HFD.out] at this; exact this⟩, HR, HBR⟩
            case measure => simp [intOf]; omega
        · have e : j = n := by omega
          subst e
          have b2 : decide ((j : Int) < (j : Int)) = false := decide_eq_false (by omega)
          have b3 : decide (j < j) = false := decide_eq_false (by omega)
          have hyy : ys = LL := by
            have := HY.out
            rw [List.drop_eq_nil_of_le (by rw [HEN.out]; exact Nat.le_refl _)] at this
            rw [← this]
            exact (List.append_nil _).symm
          subst hyy
          obtain ⟨A9, c9, e9, hc9, hC9⟩ := Kd.R_reads HR.out
          subst e9
          obtain ⟨ln, eln⟩ : ∃ ln, ys.length = ln := ⟨_, rfl⟩
          have HLN := Aside0.mk eln
          have HBW := Aside0.mk (below_step HB2.out HBR.out)
          rw [eln] at hC9 hc9 ⊢
          have HC9 := Aside0.mk hC9
          clear hC9
          by_cases hfull : 24 < ln
          · have hfb : decide ((24 : Int) < (ln : Int)) = true := decide_eq_true (by omega)
            have hr : e0 = 12 := by rw [← HEE.out]; exact learnE_full HA.out HS.out (by rw [HCS.out, HEL.out, eln]; exact hfull)
            have hb : B1 = B := by rw [← HEB.out]; exact learnB_ne (by rw [HEE.out, hr]; decide)
            subst hr
            subst hb
            clear hfull eln
            go_wp2_with fail
            go_ret
            exact ⟨rfl, turned_same HP.out HBW.out⟩
          · have hfb : decide ((24 : Int) < (ln : Int)) = false := decide_eq_false (by omega)
            have hln24 : ln ≤ 24 := by omega
            have hr : e0 = 0 := by rw [← HEE.out]; exact learnE_ok HA.out HS.out (by rw [HCS.out, HEL.out, eln]; omega)
            have hE0 := Aside0.mk (show learnE B d l asked = 0 by rw [HEE.out, hr])
            have HLI := Aside0.mk (learn_is B d l asked hE0.out)
            rw [HCS.out, HEL.out] at HLI
            subst hr
            obtain ⟨A1, c1, _, _, _, _, hcA, _, hcap, _, hCA, _, _, _, hfz, _, hput⟩ := rbook_open ((RBook g B).on HP.out HBW.out)
            have hn := allL_length HG.out
            have HPU := Aside0.mk (allL_put HG.out HD.out ys)
            obtain ⟨al, eal⟩ : ∃ al, allL B = al := ⟨_, rfl⟩
            rw [eal] at hcA hcap hCA hn HPU
            have HCA := Aside0.mk hCA
            have HCX := Aside0.mk hcA
            have HFZ := Aside0.mk hfz
            have HPUT := Aside0.mk hput
            clear hfull eln hcA hCA hfz hput eal hc0 HR
            obtain ⟨an, ean⟩ : ∃ an, al.length = an := ⟨_, rfl⟩
            rw [ean] at HCA HCX hcap hn
            have HAN := Aside0.mk ean
            clear ean
            go_wp2_with fail
            obtain ⟨wb, rfl⟩ : ∃ x : World, x = wr := ⟨_, rfl⟩
            go_loopw [12, 13] (fun s12 s13 wr => ∃ (i : Nat) (xs : List SH), i ≤ an ∧ s13 = .int .i64 (i : Int) ∧ Aside0 (xs ++ (al.drop i).filter (ltD d) = al.filter (ltD d)) ∧ Aside0 (xs.length ≤ i) ∧ Aside0 (RowH wb wr s12 xs) ∧ Aside0 (Below wb.heap.size wb wr)) (fun _ s13 _ => (an - (intOf s13).toNat))
            case atStart => exact ⟨0, [], by omega, rfl, ⟨rfl⟩, ⟨by simp⟩, ⟨Kd.R_nil _ _ _ _ _⟩, ⟨Below.refl _ _⟩⟩
            case round =>
              obtain ⟨i, xs, hi, rfl, HX, HXL, HR, HB⟩ := hrel
              have hcx := pw_cell_below HB.out HCX.out
              by_cases hlt : i < an
              · have b4 : decide ((i : Int) < (an : Int)) = true := decide_eq_true (by omega)
                have b5 : decide (i < an) = true := decide_eq_true hlt
                obtain ⟨ad, rfl, hx⟩ := at_held (Kd.C_below HCA.out HB.out) i hlt
                have hfd := filter_drop' (p := ltD d) (show i < al.length by rw [HAN.out]; exact hlt)
                obtain ⟨h, eh⟩ : ∃ h, al.getD i default = h := ⟨_, rfl⟩
                rw [eh] at hx hfd
                obtain ⟨hx0, hx1, hx2, hx3, hx4, hx5, hx6, hx7, hx8, hx9⟩ := hx
                clear eh
                by_cases hld : h.f0.f0.f0 < d
                · have hlb : decide (h.f0.f0.f0 < d) = true := decide_eq_true hld
                  rw [if_pos (show ltD d h = true from hlb)] at hfd
                  have HFD := Aside0.mk hfd
                  clear hld hfd
                  go_wp2_with (at_builtin; refine app_held (w0 := wb) rfl (.tmp 94) (.tmp 102) rfl u12 xs h rfl rfl HR.out HB.out (by have := HXL.out; omega) ?_)
                  intro v4 w4 hR4 hB4
                  have HR4 := Aside0.mk hR4
                  have HB4 := Aside0.mk hB4
                  clear hR4 hB4 HR HB hx0 hx1 hx2 hx3 hx4 hx5 hx6 hx7 hx8 hx9 hcx
                  go_wp2_with fail
                  go_roundw
                  case rel => exact ⟨i + 1, xs ++ [h], by omega, by simp, ⟨by have := HX.out; rw [HFD.out] at this; simpa using this⟩, ⟨by have := HXL.out; simp; omega⟩, HR4, HB4⟩
                  case measure => simp [intOf]; omega
                · have hlb : decide (h.f0.f0.f0 < d) = false := decide_eq_false hld
                  rw [if_neg (show ¬ ltD d h = true by unfold ltD; rw [hlb]; exact Bool.false_ne_true)] at hfd
                  have HFD := Aside0.mk hfd
                  clear hld hfd
                  go_wp2_with fail
                  go_roundw
                  case rel => exact ⟨i + 1, xs, by omega, by simp, ⟨by have := HX.out; rw [HFD.out] at this; exact this⟩, ⟨by have := HXL.out; omega⟩, HR, HB⟩
                  case measure => simp [intOf]; omega
              · have e : i = an := by omega
                subst e
                have b4 : decide ((i : Int) < (i : Int)) = false := decide_eq_false (by omega)
                have b5 : decide (i < i) = false := decide_eq_false (by omega)
                have hxx : xs = al.filter (ltD d) := by
                  have := HX.out
                  rw [List.drop_eq_nil_of_le (by rw [HAN.out]; exact Nat.le_refl _), List.filter_nil, List.append_nil] at this
                  exact this
                have HXX := Aside0.mk hxx
                clear hxx
                go_wp2_with (at_builtin; refine app_helds (w0 := wb) rfl (.tmp 104) (.tmp 105) rfl u12 xs ys A9 ln c9 rfl rfl HR.out (Kd.C_below HC9.out HB.out) HB.out (by have := HXL.out; omega) ?_)
                intro v5 w5 hR5 hB5
                have HR5 := Aside0.mk hR5
                have HB5 := Aside0.mk hB5
                obtain ⟨zs, ezs⟩ : ∃ zs, xs ++ ys = zs := ⟨_, rfl⟩
                rw [ezs] at HR5
                have HZS := Aside0.mk ezs
                have HZL := Aside0.mk (show zs.length ≤ 500 by rw [← ezs, List.length_append]; have := HXL.out; have := HLN.out; omega)
                clear hR5 hB5 HR HB hcx ezs
                go_wp2_with fail
                go_loopw [12, 14] (fun s12 s14 wr => ∃ (q : Nat) (xs : List SH), q ≤ i ∧ s14 = .int .i64 (q : Int) ∧ Aside0 (xs ++ (al.drop q).filter (gtD d) = zs ++ al.filter (gtD d)) ∧ Aside0 (xs.length ≤ 500 + q) ∧ Aside0 (RowH wb wr s12 xs) ∧ Aside0 (Below wb.heap.size wb wr)) (fun _ s14 _ => (i - (intOf s14).toNat))
                case atStart => exact ⟨0, zs, by omega, rfl, ⟨rfl⟩, ⟨by have := HZL.out; omega⟩, HR5, HB5⟩
                case round =>
                  obtain ⟨q, xt, hq, rfl, HX2, HXL2, HR, HB⟩ := hrel
                  have hcx := pw_cell_below HB.out HCX.out
                  by_cases hlt : q < i
                  · have b6 : decide ((q : Int) < (i : Int)) = true := decide_eq_true (by omega)
                    have b7 : decide (q < i) = true := decide_eq_true hlt
                    obtain ⟨ad, rfl, hx⟩ := at_held (Kd.C_below HCA.out HB.out) q hlt
                    have hfd := filter_drop' (p := gtD d) (show q < al.length by rw [HAN.out]; exact hlt)
                    obtain ⟨h, eh⟩ : ∃ h, al.getD q default = h := ⟨_, rfl⟩
                    rw [eh] at hx hfd
                    obtain ⟨hx0, hx1, hx2, hx3, hx4, hx5, hx6, hx7, hx8, hx9⟩ := hx
                    clear eh
                    by_cases hld : d < h.f0.f0.f0
                    · have hlb : decide (d < h.f0.f0.f0) = true := decide_eq_true hld
                      rw [if_pos (show gtD d h = true from hlb)] at hfd
                      have HFD := Aside0.mk hfd
                      clear hld hfd
                      go_wp2_with (at_builtin; refine app_held (w0 := wb) rfl (.tmp 128) (.tmp 136) rfl u12 xt h rfl rfl HR.out HB.out (by have := HXL2.out; omega) ?_)
                      intro v4 w4 hR4 hB4
                      have HR4 := Aside0.mk hR4
                      have HB4 := Aside0.mk hB4
                      clear hR4 hB4 HR HB hx0 hx1 hx2 hx3 hx4 hx5 hx6 hx7 hx8 hx9 hcx
                      go_wp2_with fail
                      go_roundw
                      case rel => exact ⟨q + 1, xt ++ [h], by omega, by simp, ⟨by have := HX2.out; rw [HFD.out] at this; simpa using this⟩, ⟨by have := HXL2.out; simp; omega⟩, HR4, HB4⟩
                      case measure => simp [intOf]; omega
                    · have hlb : decide (d < h.f0.f0.f0) = false := decide_eq_false hld
                      rw [if_neg (show ¬ gtD d h = true by unfold gtD; rw [hlb]; exact Bool.false_ne_true)] at hfd
                      have HFD := Aside0.mk hfd
                      clear hld hfd
                      go_wp2_with fail
                      go_roundw
                      case rel => exact ⟨q + 1, xt, by omega, by simp, ⟨by have := HX2.out; rw [HFD.out] at this; exact this⟩, ⟨by have := HXL2.out; omega⟩, HR, HB⟩
                      case measure => simp [intOf]; omega
                  · have e : q = i := by omega
                    subst e
                    have b6 : decide ((q : Int) < (q : Int)) = false := decide_eq_false (by omega)
                    have b7 : decide (q < q) = false := decide_eq_false (by omega)
                    have hxx : xt = allL (putH B d ys) := by
                      have := HX2.out
                      rw [List.drop_eq_nil_of_le (by rw [HAN.out]; exact Nat.le_refl _), List.filter_nil, List.append_nil, ← HZS.out, HXX.out] at this
                      rw [HPU.out]
                      exact this
                    have hR6 := HR.out
                    rw [hxx] at hR6
                    have hT := HPUT.out wr u12 (putH B d ys) HB.out hR6 rfl rfl
                    obtain ⟨A3, c3, e3⟩ := Kd.R_slice hR6
                    subst e3
                    have hfz6 := HFZ.out wr HB.out 1
                    obtain ⟨ax, eax⟩ : ∃ ax, (allL (putH B d ys)).length = ax := ⟨_, rfl⟩
                    rw [eax] at hT ⊢
                    obtain ⟨w7, e7⟩ : ∃ w7, w7 = wr.setCell ⟨g, 1, none⟩ (.slice A3 ax c3) := ⟨_, rfl⟩
                    rw [← e7] at hT
                    have HT := Aside0.mk hT
                    have HH := Aside0.mk (rbookHear.calls g (putH B d ys) d asked w7 _ hT.2)
                    have hE : hearE (putH B d ys) d asked = 0 := by unfold hearE; rw [show mayA (putH B d ys) d asked = true from HA.out]; rfl
                    rw [hE, HLI.out, HEB.out] at HH
                    clear hxx hR6 hT hE eax HR
                    go_wp2_with fail
                    rw [← e7]
                    refine HH.out.mono ?_
                    rintro e w8 ⟨rfl, hT8⟩
                    have HT8 := Aside0.mk hT8
                    clear hT8 HH e7 hfz6 hcx
                    go_wp2_with fail
                    go_ret
                    refine ⟨rfl, ((Keeps.of_below HBW.out ok).then_ HT.out.1 (fun k hk => .inl hk)).then_ HT8.out.1 (fun k hk => hk.elim .inl (fun h => .inr (Nat.le_trans HBW.out.size h))), (RBook g B1).mono (fun k hk => ?_) HT8.out.2⟩
                    rcases hk with (hk | hk) | hk
                    · exact .inl hk
                    · exact .inr (Nat.le_trans HBW.out.size hk)
                    · exact .inr (Nat.le_trans (Nat.le_trans HBW.out.size HT.out.1.size) hk)
end Go.Proofs.YtpdcmdofojckdaaDoor.P
