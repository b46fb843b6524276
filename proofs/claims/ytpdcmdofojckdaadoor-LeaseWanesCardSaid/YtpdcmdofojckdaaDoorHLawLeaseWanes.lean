/- A law: as time goes on, with nothing learned, no more is held, and nothing is fresh again. -/
import Derived.Test.YtpdcmdofojckdaaDoorHLaws13
set_option linter.unusedVariables false
set_option linter.unusedSimpArgs false
namespace Go.Proofs.YtpdcmdofojckdaaDoor.P
open Go.RowKit Go.Proofs.YtpdcmdofojckdaaDoor.Pure Go.Proofs.YtpdcmdofojckdaaDoorW.PrintWords Go.Proofs.YtpdcmdofojckdaaDoorW.PrintLast Go.Proofs.YtpdcmdofojckdaaDoorW.PrintMore
attribute [local go_sem high] eqA42
theorem over_mono {a b u : Int} (h : a ≤ b) (ho : overT a u = true) : overT b u = true := by
  unfold overT at *
  simp only [Bool.or_eq_true, decide_eq_true_eq] at *
  have h1 := tickT_range b
  have h2 : tickT a ≤ tickT b := by
    unfold tickT
    repeat' split
    all_goals omega
  omega
theorem held_sub (B : Bk) {a b : Int} (h : a ≤ b) : (heldL B b).Sublist (heldL B a) := by
  rw [heldL_all, heldL_all]
  have : (allL B).filter (fun x => !overT b x.f1) = ((allL B).filter fun x => !overT a x.f1).filter fun x => !overT b x.f1 := by
    rw [List.filter_filter]
    congr 1
    funext x
    cases h1 : overT a x.f1 with
    | false => simp
    | true => rw [over_mono h h1]; rfl
  rw [this]
  exact List.filter_sublist
theorem fresh_mono (B : Bk) (d : Int) {a b : Int} (h : a ≤ b) (hf : freshB B d b = true) : freshB B d a = true := by
  unfold freshB at *
  simp only [Bool.or_eq_true, Bool.and_eq_true, decide_eq_true_eq, Bool.not_eq_true'] at *
  rcases hf with hf | ⟨h1, h2⟩
  · exact .inl hf
  · refine .inr ⟨h1, ?_⟩
    cases ho : overT a (addT (B.stamp d) 48) with
    | false => rfl
    | true => rw [over_mono h ho] at h2; cases h2
/-- What the program's comparison of two held credentials comes to. -/
def neH (x y : SH) : Bool := ((!(x.f0.f0.f0 == y.f0.f0.f0) || !(x.f0.f0.f1 == y.f0.f0.f1)) || (!(x.f0.f1.toList == y.f0.f1.toList) || (!(x.f0.f2 == y.f0.f2) || (!(x.f0.f3.toList == y.f0.f3.toList) || ((!(x.f0.f4.f0.toList == y.f0.f4.f0.toList) || !(x.f0.f4.f1.toList == y.f0.f4.f1.toList)) || (!(x.f0.f5.f0.toList == y.f0.f5.f0.toList) || !(x.f0.f5.f1.toList == y.f0.f5.f1.toList))))))) || !(x.f1 == y.f1)
theorem neH_iff {x y : SH} : neH x y = false ↔ x = y := by
  obtain ⟨⟨⟨a, b⟩, c, d, e, ⟨f, g⟩, ⟨h, i⟩⟩, j⟩ := x
  obtain ⟨⟨⟨a', b'⟩, c', d', e', ⟨f', g'⟩, ⟨h', i'⟩⟩, j'⟩ := y
  unfold neH
  simp only [Bool.or_eq_false_iff, Bool.not_eq_false', beq_iff_eq, toList_iff]
  constructor
  · rintro ⟨⟨⟨rfl, rfl⟩, rfl, rfl, rfl, ⟨rfl, rfl⟩, ⟨rfl, rfl⟩⟩, rfl⟩
    rfl
  · intro h
    injection h with h1 h2
    injection h1 with h3 h4 h5 h6 h7 h8
    injection h3 with h9 h10
    injection h7 with h11 h12
    injection h8 with h13 h14
    exact ⟨⟨⟨h9, h10⟩, h4, h5, h6, ⟨h11, h12⟩, ⟨h13, h14⟩⟩, h2⟩
theorem sub_step {x y : SH} {t u : List SH} (h : (x :: t).Sublist (y :: u)) (hne : y ≠ x) : (x :: t).Sublist u := by
  cases h with
  | cons _ h => exact h
  | cons_cons _ h => exact absurd rfl hne
theorem drop_get {L : List SH} {i : Nat} (h : i < L.length) : L.drop i = L.getD i default :: L.drop (i + 1) := by
  rw [List.drop_eq_getElem_cons h, List.getD_eq_getElem?_getD, List.getElem?_eq_getElem h]; rfl
set_option maxHeartbeats 16000000 in
set_option maxRecDepth 100000 in
theorem liverylaw13_LeaseWanes.walk (a0 : Int) (A1 : Option Addr) (c1 : Nat) (l1 : List S29) (a2 : Int) (a3 : Int) (w : World) (w0 : (Lit.int .i64 a0).wf = true) (w1 : (l1.length ≤ maxLen ∧ l1.length * 48 ≤ 140737488351232 ∧ ∀ y0 ∈ l1, q29 y0)) (hr1 : Kd.C k29 w A1 l1.length l1) (hc1 : l1.length ≤ c1) (w2 : (Lit.int .i64 a2).wf = true) (w3 : (Lit.int .i64 a3).wf = true) :
    Calls Tryd.prog 4 #[.int .i64 a0, .slice A1 l1.length c1, .int .i64 a2, .int .i64 a3] w fun e w' => e = .returned (.bool true) ∧ Below w.heap.size w w' := by
  obtain ⟨Fo, hF, hst⟩ := law_st hr1
  have HD := Aside0.mk hF
  have HST := Aside0.mk hst
  have hml := w1.1
  clear hF hst w1 w2 w3 w0 hr1
  have hu := Tryd.underlying29
  by_cases ho : 1 ≤ a0 ∧ a0 ≤ 16
  · have HO := Aside0.mk ho
    obtain ⟨lo, hi_, elo⟩ : ∃ lo hi_ : Int, (a3 < a2 ∧ lo = a3 ∧ hi_ = a2) ∨ (¬ a3 < a2 ∧ lo = a2 ∧ hi_ = a3) := by
      by_cases h : a3 < a2
      · exact ⟨a3, a2, .inl ⟨h, rfl, rfl⟩⟩
      · exact ⟨a2, a3, .inr ⟨h, rfl, rfl⟩⟩
    have HLH := Aside0.mk (show lo ≤ hi_ by omega)
    clear ho
    go_enter Tryd.func4, Tryd.ntmps4
    go_wp2_with fail
    refine (newP_at HST.out a0 HO.out).mono ?_
    rintro e w1 ⟨gp, rfl, h1⟩
    have HST1 := Aside0.mk (show St w (fun _ => False) w1 [Res.agree w Fo, PBook gp (bk0 a0)] from h1)
    clear h1
    rcases elo with ⟨hlt0, rfl, rfl⟩ | ⟨hlt0, rfl, rfl⟩
    · have q0 : decide (lo < hi_) = true := decide_eq_true hlt0
      clear hlt0
      go_wp2_with fail
      obtain ⟨gr, egr⟩ : ∃ gr, gr = w1.heap.size := ⟨_, rfl⟩
      have h2 := boxR_at HST1.out a0
      rw [← egr] at h2 ⊢
      have HST2 := Aside0.mk (show St w (fun _ => False) (w1.alloc (.cells #[.int .i64 a0, .slice none 0 0, .slice none 0 0] 47)) [Res.agree w Fo, PBook gp (bk0 a0), RBook gr (bk0 a0)] from h2)
      clear h2 egr HST1
      go_loopw [11] (fun s11 wr => ∃ (i : Nat) (B : Bk), i ≤ l1.length ∧ i ≤ 20 ∧ s11 = .int .i64 (i : Int) ∧ Aside0 (Good13 B) ∧ Aside0 (St w (fun _ => False) wr [Res.agree w Fo, PBook gp B, RBook gr B])) (fun s11 _ => (21 - (intOf s11).toNat))
      case atStart => exact ⟨0, bk0 a0, by omega, by omega, rfl, ⟨good0 HO.out⟩, HST2⟩
      case round =>
        obtain ⟨i, B, hi, hi20, rfl, HG, HSR⟩ := hrel
        clear HST HST2
        by_cases hgo : i < l1.length ∧ i < 20
        · obtain ⟨hlt, h20⟩ := hgo
          have b1 : decide ((i : Int) < (l1.length : Int)) = true := decide_eq_true (by omega)
          have b2 : decide ((i : Int) < 20) = true := decide_eq_true (by omega)
          have b3 : decide (i < l1.length) = true := decide_eq_true hlt
          obtain ⟨ad, A4, c4, x, eA, hmem, hx0, hx1, hx2, hx3, l4, g4⟩ := deed_at HD.out i hlt
          subst eA
          obtain ⟨k, d, s, l, e0, e1, e2, e3⟩ : ∃ k d s l, x.f0 = k ∧ x.f1 = d ∧ x.f2 = s ∧ x.f3 = l := ⟨_, _, _, _, rfl, rfl, rfl, rfl⟩
          rw [e0] at hx0
          rw [e1] at hx1
          rw [e2] at hx2
          rw [e3] at hx3 l4 g4
          replace hx0 := pw_cell_below HSR.out.below hx0
          replace hx1 := pw_cell_below HSR.out.below hx1
          replace hx2 := pw_cell_below HSR.out.below hx2
          replace hx3 := pw_cell_below HSR.out.below hx3
          have HK := Aside0.mk (And.intro l4 g4)
          clear e0 e1 e2 e3 hmem l4 g4
          go_wp2_with fail
          refine (does_at HSR.out 1 2 rfl rfl (by decide) (by decide) (by decide) HG.out k d s HK.out.1 (fun W' hW => (hW 0 _ (by decide) (by decide) rfl).elim fun ok hp => HK.out.2 W' hp.2)).mono ?_
          rintro e w3 ⟨rfl, h3⟩
          have HST3 := Aside0.mk (show St w (fun _ => False) w3 [Res.agree w Fo, PBook gp (stepB k d s l B), RBook gr (stepB k d s l B)] from h3)
          have HG2 := Aside0.mk (HG.out.step k d s l)
          clear h3 hx0 hx1 hx2 hx3 HSR HG
          go_wp2_with fail
          go_roundw
          case rel => exact ⟨i + 1, _, by omega, by omega, by simp, HG2, HST3⟩
          case measure => simp [intOf]; omega
        · by_cases hlt : i < l1.length
          · have e20 : i = 20 := by omega
            subst e20
            have b1 : decide ((20 : Int) < (l1.length : Int)) = true := decide_eq_true (by omega)
            clear hgo
            have HP := Aside0.mk (heldP_at HSR.out 1 rfl HG.out lo)
            have HL1 := Aside0.mk (heldL_length HG.out lo)
            have HL2 := Aside0.mk (heldL_length HG.out hi_)
            have hsub := held_sub B HLH.out
            obtain ⟨L, eL⟩ : ∃ L, heldL B lo = L := ⟨_, rfl⟩
            obtain ⟨M, eM⟩ : ∃ M, heldL B hi_ = M := ⟨_, rfl⟩
            rw [eL] at HP HL1 hsub
            rw [eM] at HL2 hsub
            have HSUB := Aside0.mk hsub
            clear hsub
            go_wp2_with fail
            refine HP.out.mono ?_
            rintro e w4 ⟨A5, c5, rfl, hc5, hC5, h4⟩
            have HST4 := Aside0.mk (show St w (fun _ => False) w4 [Res.agree w Fo, PBook gp B, RBook gr B, Res.row k42 42 (.slice A5 L.length c5) L] from h4)
            have HR := Aside0.mk (heldP_at HST4.out 1 rfl HG.out hi_)
            rw [eM] at HR
            clear h4 hC5 HP eL
            go_wp2_with fail
            refine HR.out.mono ?_
            rintro e w5 ⟨A6, c6, rfl, hc6, hC6, h5⟩
            have HST5 := Aside0.mk (show St w (fun _ => False) w5 [Res.agree w Fo, PBook gp B, RBook gr B, Res.row k42 42 (.slice A5 L.length c5) L, Res.row k42 42 (.slice A6 M.length c6) M] from h5)
            obtain ⟨nl, enl⟩ : ∃ nl, L.length = nl := ⟨_, rfl⟩
            obtain ⟨nm, enm⟩ : ∃ nm, M.length = nm := ⟨_, rfl⟩
            have HNL := Aside0.mk enl
            have HNM := Aside0.mk enm
            have hnl : nl ≤ 384 := by rw [← enl]; exact HL1.out
            have hnm : nm ≤ 384 := by rw [← enm]; exact HL2.out
            rw [enl] at HST5 ⊢
            rw [enm] at HST5 ⊢
            clear h5 hC6 HR HST4 eM enl enm hc5 hc6
            go_wp2_with fail
            go_loopw [14, 15] (fun s14 s15 wr => ∃ (k i : Nat), k ≤ nl ∧ i ≤ nm ∧ s14 = .int .i64 (k : Int) ∧ s15 = .int .i64 (i : Int) ∧ Aside0 ((M.drop i).Sublist (L.drop k)) ∧ Aside0 (St w (fun _ => False) wr [Res.agree w Fo, PBook gp B, RBook gr B, Res.row k42 42 (.slice A5 nl c5) L, Res.row k42 42 (.slice A6 nm c6) M])) (fun _ s15 _ => (nm - (intOf s15).toNat))
            case atStart => exact ⟨0, 0, by omega, by omega, rfl, rfl, ⟨by rw [List.drop_zero, List.drop_zero]; exact HSUB.out⟩, HST5⟩
            case round =>
              obtain ⟨k, i2, hk, hi2, rfl, rfl, HSU, HS6⟩ := hrel
              clear HST5 HSUB
              by_cases hil : i2 < nm
              · have p1 : decide ((i2 : Int) < (nm : Int)) = true := decide_eq_true (by omega)
                have p2 : decide (i2 < nm) = true := decide_eq_true hil
                have HIL := Aside0.mk hil
                go_wp2_with fail
                go_loopw [14] (fun s14 wr => ∃ (k : Nat), k ≤ nl ∧ s14 = .int .i64 (k : Int) ∧ Aside0 ((M.drop i2).Sublist (L.drop k)) ∧ Aside0 (St w (fun _ => False) wr [Res.agree w Fo, PBook gp B, RBook gr B, Res.row k42 42 (.slice A5 nl c5) L, Res.row k42 42 (.slice A6 nm c6) M])) (fun s14 _ => (nl - (intOf s14).toNat))
                case atStart => exact ⟨k, by omega, rfl, HSU, HS6⟩
                case round =>
                  obtain ⟨k, hk, rfl, HSU, HS7⟩ := hrel
                  clear HS6
                  have hil := HIL.out
                  have hkl : k < nl := by
                    refine Classical.byContradiction fun hn => ?_
                    have h1 := HSU.out.length_le
                    rw [List.length_drop, List.length_drop, HNL.out, HNM.out] at h1
                    omega
                  have p3 : decide ((k : Int) < (nl : Int)) = true := decide_eq_true (by omega)
                  have p4 : decide (k < nl) = true := decide_eq_true hkl
                  obtain ⟨w8, e8⟩ : ∃ w8, w8 = wr := ⟨_, rfl⟩
                  obtain ⟨ad5, eA5, _⟩ := at_held (by have := row_C HS7.out 3 rfl; rwa [HNL.out] at this) k hkl
                  obtain ⟨ad6, eA6, _⟩ := at_held (by have := row_C HS7.out 4 rfl; rwa [HNM.out] at this) i2 hil
                  subst eA5
                  subst eA6
                  obtain ⟨x, ex⟩ : ∃ x, L.getD k default = x := ⟨_, rfl⟩
                  obtain ⟨y, ey⟩ : ∃ y, M.getD i2 default = y := ⟨_, rfl⟩
                  have HEX := Aside0.mk ex
                  have HEY := Aside0.mk ey
                  clear ex ey
                  go_wp2_with fail
                  rw [← e8] at HS7 ⊢
                  clear e8
                  obtain ⟨w9, e_w9⟩ : ∃ w_, w_ = World.drew w8 := ⟨_, rfl⟩
                  have HBw9 := Aside0.mk (show Below (World.heap w8).size w8 w9 by rw [e_w9]; exact below_drew (Below.refl _ _))
                  refine start_ (n := 15) (S := fun w' => w'.cell? (ad5.add (k * 10)) = some (.int .i64 x.f0.f0.f0) ∧ w'.cell? ⟨(ad5.add (k * 10)).block, (ad5.add (k * 10)).off + 1, none⟩ = some (.int .i64 x.f0.f0.f1) ∧ w'.cell? ⟨(ad5.add (k * 10)).block, (ad5.add (k * 10)).off + 2, none⟩ = some (.string x.f0.f1) ∧ w'.cell? ⟨(ad5.add (k * 10)).block, (ad5.add (k * 10)).off + 3, none⟩ = some (.int .i64 x.f0.f2) ∧ w'.cell? ⟨(ad5.add (k * 10)).block, (ad5.add (k * 10)).off + 4, none⟩ = some (.string x.f0.f3) ∧ w'.cell? ⟨(ad5.add (k * 10)).block, (ad5.add (k * 10)).off + 5, none⟩ = some (.string x.f0.f4.f0) ∧ w'.cell? ⟨(ad5.add (k * 10)).block, (ad5.add (k * 10)).off + 6, none⟩ = some (.string x.f0.f4.f1) ∧ w'.cell? ⟨(ad5.add (k * 10)).block, (ad5.add (k * 10)).off + 7, none⟩ = some (.string x.f0.f5.f0) ∧ w'.cell? ⟨(ad5.add (k * 10)).block, (ad5.add (k * 10)).off + 8, none⟩ = some (.string x.f0.f5.f1) ∧ w'.cell? ⟨(ad5.add (k * 10)).block, (ad5.add (k * 10)).off + 9, none⟩ = some (.int .i64 x.f1) ∧ w'.cell? (ad6.add (i2 * 10)) = some (.int .i64 y.f0.f0.f0) ∧ w'.cell? ⟨(ad6.add (i2 * 10)).block, (ad6.add (i2 * 10)).off + 1, none⟩ = some (.int .i64 y.f0.f0.f1) ∧ w'.cell? ⟨(ad6.add (i2 * 10)).block, (ad6.add (i2 * 10)).off + 2, none⟩ = some (.string y.f0.f1) ∧ w'.cell? ⟨(ad6.add (i2 * 10)).block, (ad6.add (i2 * 10)).off + 3, none⟩ = some (.int .i64 y.f0.f2) ∧ w'.cell? ⟨(ad6.add (i2 * 10)).block, (ad6.add (i2 * 10)).off + 4, none⟩ = some (.string y.f0.f3) ∧ w'.cell? ⟨(ad6.add (i2 * 10)).block, (ad6.add (i2 * 10)).off + 5, none⟩ = some (.string y.f0.f4.f0) ∧ w'.cell? ⟨(ad6.add (i2 * 10)).block, (ad6.add (i2 * 10)).off + 6, none⟩ = some (.string y.f0.f4.f1) ∧ w'.cell? ⟨(ad6.add (i2 * 10)).block, (ad6.add (i2 * 10)).off + 7, none⟩ = some (.string y.f0.f5.f0) ∧ w'.cell? ⟨(ad6.add (i2 * 10)).block, (ad6.add (i2 * 10)).off + 8, none⟩ = some (.string y.f0.f5.f1) ∧ w'.cell? ⟨(ad6.add (i2 * 10)).block, (ad6.add (i2 * 10)).off + 9, none⟩ = some (.int .i64 y.f1)) (ds := []) #[false, false, false, false, false, false, false, false, false, false, false, false, false, false, false] (by kernel_rfl) rfl rfl ⟨(by rw [← e_w9]; exact (row_at10 (HS7.out.on HBw9.out) 3 rfl k (by rw [HNL.out]; exact hkl) HEX.out).1), (by rw [← e_w9]; exact (row_at10 (HS7.out.on HBw9.out) 3 rfl k (by rw [HNL.out]; exact hkl) HEX.out).2.1), (by rw [← e_w9]; exact (row_at10 (HS7.out.on HBw9.out) 3 rfl k (by rw [HNL.out]; exact hkl) HEX.out).2.2.1), (by rw [← e_w9]; exact (row_at10 (HS7.out.on HBw9.out) 3 rfl k (by rw [HNL.out]; exact hkl) HEX.out).2.2.2.1), (by rw [← e_w9]; exact (row_at10 (HS7.out.on HBw9.out) 3 rfl k (by rw [HNL.out]; exact hkl) HEX.out).2.2.2.2.1), (by rw [← e_w9]; exact (row_at10 (HS7.out.on HBw9.out) 3 rfl k (by rw [HNL.out]; exact hkl) HEX.out).2.2.2.2.2.1), (by rw [← e_w9]; exact (row_at10 (HS7.out.on HBw9.out) 3 rfl k (by rw [HNL.out]; exact hkl) HEX.out).2.2.2.2.2.2.1), (by rw [← e_w9]; exact (row_at10 (HS7.out.on HBw9.out) 3 rfl k (by rw [HNL.out]; exact hkl) HEX.out).2.2.2.2.2.2.2.1), (by rw [← e_w9]; exact (row_at10 (HS7.out.on HBw9.out) 3 rfl k (by rw [HNL.out]; exact hkl) HEX.out).2.2.2.2.2.2.2.2.1), (by rw [← e_w9]; exact (row_at10 (HS7.out.on HBw9.out) 3 rfl k (by rw [HNL.out]; exact hkl) HEX.out).2.2.2.2.2.2.2.2.2), (by rw [← e_w9]; exact (row_at10 (HS7.out.on HBw9.out) 4 rfl i2 (by rw [HNM.out]; exact hil) HEY.out).1), (by rw [← e_w9]; exact (row_at10 (HS7.out.on HBw9.out) 4 rfl i2 (by rw [HNM.out]; exact hil) HEY.out).2.1), (by rw [← e_w9]; exact (row_at10 (HS7.out.on HBw9.out) 4 rfl i2 (by rw [HNM.out]; exact hil) HEY.out).2.2.1), (by rw [← e_w9]; exact (row_at10 (HS7.out.on HBw9.out) 4 rfl i2 (by rw [HNM.out]; exact hil) HEY.out).2.2.2.1), (by rw [← e_w9]; exact (row_at10 (HS7.out.on HBw9.out) 4 rfl i2 (by rw [HNM.out]; exact hil) HEY.out).2.2.2.2.1), (by rw [← e_w9]; exact (row_at10 (HS7.out.on HBw9.out) 4 rfl i2 (by rw [HNM.out]; exact hil) HEY.out).2.2.2.2.2.1), (by rw [← e_w9]; exact (row_at10 (HS7.out.on HBw9.out) 4 rfl i2 (by rw [HNM.out]; exact hil) HEY.out).2.2.2.2.2.2.1), (by rw [← e_w9]; exact (row_at10 (HS7.out.on HBw9.out) 4 rfl i2 (by rw [HNM.out]; exact hil) HEY.out).2.2.2.2.2.2.2.1), (by rw [← e_w9]; exact (row_at10 (HS7.out.on HBw9.out) 4 rfl i2 (by rw [HNM.out]; exact hil) HEY.out).2.2.2.2.2.2.2.2.1), (by rw [← e_w9]; exact (row_at10 (HS7.out.on HBw9.out) 4 rfl i2 (by rw [HNM.out]; exact hil) HEY.out).2.2.2.2.2.2.2.2.2)⟩ (fun hHeld => ?_)
                  rw [← e_w9] at hHeld ⊢
                  clear e_w9
                  refine pure_ (i := 0) (N := some 59) (v := ?_) (a' := ?_) #[true, false, false, false, false, false, false, false, false, false, false, false, false, false, false] rfl rfl (by kernel_rfl) (fun _ _ _ h => h) (Or.inl ⟨by rfl, ?_⟩) ?_ ?_
                  rotate_left
                  · intro w'
                    go_simp
                    with_reducible rfl
                  rotate_left
                  · simp only [Act.put, List.setIfInBounds_toArray, List.set_cons_zero, List.set_cons_succ, i64_w, i32_w]
                    rfl
                  refine pure_ (i := 1) (N := some 60) (v := ?_) (a' := ?_) #[true, true, false, false, false, false, false, false, false, false, false, false, false, false, false] rfl rfl (by kernel_rfl) (fun _ _ _ h => h) (Or.inl ⟨by rfl, ?_⟩) ?_ ?_
                  rotate_left
                  · intro w'
                    go_simp
                    with_reducible rfl
                  rotate_left
                  · simp only [Act.put, List.setIfInBounds_toArray, List.set_cons_zero, List.set_cons_succ, i64_w, i32_w]
                    rfl
                  refine pure_ (i := 2) (N := some 61) (v := ?_) (a' := ?_) #[true, true, true, false, false, false, false, false, false, false, false, false, false, false, false] rfl rfl (by kernel_rfl) (fun _ _ _ h => h) (Or.inl ⟨by rfl, ?_⟩) ?_ ?_
                  rotate_left
                  · intro w'
                    go_simp
                    with_reducible rfl
                  rotate_left
                  · simp only [Act.put, List.setIfInBounds_toArray, List.set_cons_zero, List.set_cons_succ, i64_w, i32_w]
                    rfl
                  refine pure_ (i := 3) (N := some 62) (v := ?_) (a' := ?_) #[true, true, true, true, false, false, false, false, false, false, false, false, false, false, false] rfl rfl (by kernel_rfl) (fun _ _ _ h => h) (Or.inl ⟨by rfl, ?_⟩) ?_ ?_
                  rotate_left
                  · intro w'
                    go_simp
                    with_reducible rfl
                  rotate_left
                  · simp only [Act.put, List.setIfInBounds_toArray, List.set_cons_zero, List.set_cons_succ, i64_w, i32_w]
                    rfl
                  refine pure_ (i := 4) (N := some 63) (v := ?_) (a' := ?_) #[true, true, true, true, true, false, false, false, false, false, false, false, false, false, false] rfl rfl (by kernel_rfl) (fun _ _ _ h => h) (Or.inl ⟨by rfl, ?_⟩) ?_ ?_
                  rotate_left
                  · intro w'
                    go_simp
                    with_reducible rfl
                  rotate_left
                  · simp only [Act.put, List.setIfInBounds_toArray, List.set_cons_zero, List.set_cons_succ, i64_w, i32_w]
                    rfl
                  refine pure_ (i := 5) (N := some 64) (v := ?_) (a' := ?_) #[true, true, true, true, true, true, false, false, false, false, false, false, false, false, false] rfl rfl (by kernel_rfl) (fun _ _ _ h => h) (Or.inl ⟨by rfl, ?_⟩) ?_ ?_
                  rotate_left
                  · intro w'
                    go_simp
                    with_reducible rfl
                  rotate_left
                  · simp only [Act.put, List.setIfInBounds_toArray, List.set_cons_zero, List.set_cons_succ, i64_w, i32_w]
                    rfl
                  refine pure_ (i := 6) (N := some 65) (v := ?_) (a' := ?_) #[true, true, true, true, true, true, true, false, false, false, false, false, false, false, false] rfl rfl (by kernel_rfl) (fun _ _ _ h => h) (Or.inl ⟨by rfl, ?_⟩) ?_ ?_
                  rotate_left
                  · intro w'
                    go_simp
                    with_reducible rfl
                  rotate_left
                  · simp only [Act.put, List.setIfInBounds_toArray, List.set_cons_zero, List.set_cons_succ, i64_w, i32_w]
                    rfl
                  refine pure_ (i := 7) (N := some 66) (v := ?_) (a' := ?_) #[true, true, true, true, true, true, true, true, false, false, false, false, false, false, false] rfl rfl (by kernel_rfl) (fun _ _ _ h => h) (Or.inl ⟨by rfl, ?_⟩) ?_ ?_
                  rotate_left
                  · intro w'
                    go_simp
                    with_reducible rfl
                  rotate_left
                  · simp only [Act.put, List.setIfInBounds_toArray, List.set_cons_zero, List.set_cons_succ, i64_w, i32_w]
                    rfl
                  refine pure_ (i := 9) (N := some 68) (v := ?_) (a' := ?_) #[true, true, true, true, true, true, true, true, false, true, false, false, false, false, false] rfl rfl (by kernel_rfl) (fun _ _ _ h => h) (Or.inl ⟨by rfl, ?_⟩) ?_ ?_
                  rotate_left
                  · intro w'
                    go_simp
                    with_reducible rfl
                  rotate_left
                  · simp only [Act.put, List.setIfInBounds_toArray, List.set_cons_zero, List.set_cons_succ, i64_w, i32_w]
                    rfl
                  refine pure_ (i := 10) (N := some 69) (v := ?_) (a' := ?_) #[true, true, true, true, true, true, true, true, false, true, true, false, false, false, false] rfl rfl (by kernel_rfl) (fun _ _ _ h => h) (Or.inl ⟨by rfl, ?_⟩) ?_ ?_
                  rotate_left
                  · intro w'
                    go_simp
                    with_reducible rfl
                  rotate_left
                  · simp only [Act.put, List.setIfInBounds_toArray, List.set_cons_zero, List.set_cons_succ, i64_w, i32_w]
                    rfl
                  refine pure_ (i := 11) (N := some 70) (v := ?_) (a' := ?_) #[true, true, true, true, true, true, true, true, false, true, true, true, false, false, false] rfl rfl (by kernel_rfl) (fun _ _ _ h => h) (Or.inl ⟨by rfl, ?_⟩) ?_ ?_
                  rotate_left
                  · intro w'
                    go_simp
                    with_reducible rfl
                  rotate_left
                  · simp only [Act.put, List.setIfInBounds_toArray, List.set_cons_zero, List.set_cons_succ, i64_w, i32_w]
                    rfl
                  refine take_ (i := 8) (N := some 67) (v := ?_) (a' := ?_) #[true, true, true, true, true, true, true, true, true, true, true, true, false, false, false] rfl rfl (by kernel_rfl) (fun _ _ _ h => h) (Or.inl ⟨by rfl, ?_⟩) hHeld ?_ ?_
                  rotate_left
                  · rintro w' ⟨s0, s1, s2, s3, s4, s5, s6, s7, s8, s9, s10, s11, s12, s13, s14, s15, s16, s17, s18, s19⟩
                    go_simp
                    with_reducible rfl
                  rotate_left
                  · simp only [Act.put, List.setIfInBounds_toArray, List.set_cons_zero, List.set_cons_succ, i64_w, i32_w]
                    rfl
                  refine take_ (i := 12) (N := some 71) (v := ?_) (a' := ?_) #[true, true, true, true, true, true, true, true, true, true, true, true, true, false, false] rfl rfl (by kernel_rfl) (fun _ _ _ h => h) (Or.inl ⟨by rfl, ?_⟩) hHeld ?_ ?_
                  rotate_left
                  · rintro w' ⟨s0, s1, s2, s3, s4, s5, s6, s7, s8, s9, s10, s11, s12, s13, s14, s15, s16, s17, s18, s19⟩
                    go_simp
                    with_reducible rfl
                  rotate_left
                  · simp only [Act.put, List.setIfInBounds_toArray, List.set_cons_zero, List.set_cons_succ, i64_w, i32_w]
                    rfl
                  refine pure_ (i := 13) (N := some 72) (v := ?_) (a' := ?_) #[true, true, true, true, true, true, true, true, true, true, true, true, true, true, false] rfl rfl (by kernel_rfl) (fun _ _ _ h => h) (Or.inl ⟨by rfl, ?_⟩) ?_ ?_
                  rotate_left
                  · intro w'
                    go_simp
                    with_reducible rfl
                  rotate_left
                  · simp only [Act.put, List.setIfInBounds_toArray, List.set_cons_zero, List.set_cons_succ, i64_w, i32_w]
                    rfl
                  refine pure_ (i := 14) (N := some 73) (v := ?_) (a' := ?_) #[true, true, true, true, true, true, true, true, true, true, true, true, true, true, true] rfl rfl (by kernel_rfl) (fun _ _ _ h => h) (Or.inl ⟨by rfl, ?_⟩) ?_ ?_
                  rotate_left
                  · intro w'
                    go_simp
                    with_reducible rfl
                  rotate_left
                  · simp only [Act.put, List.setIfInBounds_toArray, List.set_cons_zero, List.set_cons_succ, i64_w, i32_w]
                    rfl
                  refine done_ (by kernel_rfl) ?_
                  obtain ⟨t, et⟩ : ∃ t, neH x y = t := ⟨_, rfl⟩
                  have e17 : (((!(x.f0.f0.f0 == y.f0.f0.f0) || !(x.f0.f0.f1 == y.f0.f0.f1)) || (!(x.f0.f1.toList == y.f0.f1.toList) || (!(x.f0.f2 == y.f0.f2) || (!(x.f0.f3.toList == y.f0.f3.toList) || ((!(x.f0.f4.f0.toList == y.f0.f4.f0.toList) || !(x.f0.f4.f1.toList == y.f0.f4.f1.toList)) || (!(x.f0.f5.f0.toList == y.f0.f5.f0.toList) || !(x.f0.f5.f1.toList == y.f0.f5.f1.toList))))))) || !(x.f1 == y.f1)) = t := et
                  rw [e17]
                  have HET := Aside0.mk et
                  have HS9 := Aside0.mk (HS7.out.on HBw9.out)
                  have hdm := drop_get (show i2 < M.length by rw [HNM.out]; exact hil)
                  have hdl := drop_get (show k < L.length by rw [HNL.out]; exact hkl)
                  rw [HEY.out] at hdm
                  rw [HEX.out] at hdl
                  have hsu := HSU.out
                  rw [hdm, hdl] at hsu
                  cases t with
                  | true =>
                    have HSV := Aside0.mk (show (M.drop i2).Sublist (L.drop (k + 1)) by rw [hdm]; exact sub_step hsu (fun e => by rw [neH_iff.2 e] at et; cases et))
                    clear hdm hdl hsu et e17 HS7 HBw9
                    go_wp2_with fail
                    go_roundw
                    case rel => exact ⟨k + 1, by omega, by simp, HSV, HS9⟩
                    case measure => simp [intOf]; omega
                  | false =>
                    have hxy : x = y := neH_iff.1 et
                    have HSV := Aside0.mk (show (M.drop (i2 + 1)).Sublist (L.drop k) by
                      rw [hdl]
                      refine ((List.sublist_cons_self y (M.drop (i2 + 1))).trans ?_)
                      exact hsu)
                    have hkne : ((k : Int) == (nl : Int)) = false := by simp; omega
                    clear hdm hdl hsu et e17 HS7 HBw9 hxy
                    go_wp2_with fail
                    go_roundw
                    case rel => exact ⟨k, i2 + 1, by omega, by omega, rfl, by simp, HSV, HS9⟩
                    case measure => simp [intOf]; omega
              · have p1 : decide ((i2 : Int) < (nm : Int)) = false := decide_eq_false (by omega)
                have p2 : decide (i2 < nm) = false := decide_eq_false (by omega)
                go_wp2_with fail
                go_loopw [16] (fun s16 wr => ∃ q : Nat, 1 ≤ q ∧ q ≤ 17 ∧ s16 = .int .i64 (q : Int) ∧ Aside0 (St w (fun _ => False) wr [Res.agree w Fo, PBook gp B, RBook gr B, Res.row k42 42 (.slice A5 nl c5) L, Res.row k42 42 (.slice A6 nm c6) M])) (fun s16 _ => (17 - (intOf s16).toNat))
                case atStart => exact ⟨1, by omega, by omega, rfl, HS6⟩
                case round =>
                  obtain ⟨q, hq1, hq, rfl, HS8⟩ := hrel
                  clear HS6
                  by_cases hql : q < 17
                  · have p3 : decide ((q : Int) ≤ 16) = true := decide_eq_true (by omega)
                    have HF1 := Aside0.mk (freshP_at HS8.out 1 rfl HG.out (q : Int) hi_)
                    have hfm := fresh_mono B (q : Int) HLH.out
                    obtain ⟨t, et⟩ : ∃ t, freshB B (q : Int) hi_ = t := ⟨_, rfl⟩
                    rw [et] at HF1 hfm
                    clear et
                    go_wp2_with fail
                    refine HF1.out.mono ?_
                    rintro e w9 ⟨rfl, h9⟩
                    cases t with
                    | false =>
                      have HST9 := Aside0.mk h9
                      clear h9 hfm HF1
                      go_wp2_with fail
                      go_roundw
                      case rel => exact ⟨q + 1, by omega, by omega, by simp, HST9⟩
                      case measure => simp [intOf]; omega
                    | true =>
                      have HF2 := Aside0.mk (freshP_at h9 1 rfl HG.out (q : Int) lo)
                      rw [hfm rfl] at HF2
                      clear h9 hfm HF1
                      go_wp2_with fail
                      refine HF2.out.mono ?_
                      rintro e w10 ⟨rfl, h10⟩
                      have HST10 := Aside0.mk h10
                      clear h10 HF2
                      go_wp2_with fail
                      go_roundw
                      case rel => exact ⟨q + 1, by omega, by omega, by simp, HST10⟩
                      case measure => simp [intOf]; omega
                  · have p3 : decide ((q : Int) ≤ 16) = false := decide_eq_false (by omega)
                    go_wp2_with fail
                    refine (lives_at HS8.out).mono ?_
                    rintro e w9 ⟨rfl, h9⟩
                    have HST9 := Aside0.mk h9
                    clear h9
                    go_wp2_with fail
                    go_ret
                    exact ⟨rfl, HST9.out.below⟩
          · have b1 : decide ((i : Int) < (l1.length : Int)) = false := decide_eq_false (by omega)
            clear hgo
            have HP := Aside0.mk (heldP_at HSR.out 1 rfl HG.out lo)
            have HL1 := Aside0.mk (heldL_length HG.out lo)
            have HL2 := Aside0.mk (heldL_length HG.out hi_)
            have hsub := held_sub B HLH.out
            obtain ⟨L, eL⟩ : ∃ L, heldL B lo = L := ⟨_, rfl⟩
            obtain ⟨M, eM⟩ : ∃ M, heldL B hi_ = M := ⟨_, rfl⟩
            rw [eL] at HP HL1 hsub
            rw [eM] at HL2 hsub
            have HSUB := Aside0.mk hsub
            clear hsub
            go_wp2_with fail
            refine HP.out.mono ?_
            rintro e w4 ⟨A5, c5, rfl, hc5, hC5, h4⟩
            have HST4 := Aside0.mk (show St w (fun _ => False) w4 [Res.agree w Fo, PBook gp B, RBook gr B, Res.row k42 42 (.slice A5 L.length c5) L] from h4)
            have HR := Aside0.mk (heldP_at HST4.out 1 rfl HG.out hi_)
            rw [eM] at HR
            clear h4 hC5 HP eL
            go_wp2_with fail
            refine HR.out.mono ?_
            rintro e w5 ⟨A6, c6, rfl, hc6, hC6, h5⟩
            have HST5 := Aside0.mk (show St w (fun _ => False) w5 [Res.agree w Fo, PBook gp B, RBook gr B, Res.row k42 42 (.slice A5 L.length c5) L, Res.row k42 42 (.slice A6 M.length c6) M] from h5)
            obtain ⟨nl, enl⟩ : ∃ nl, L.length = nl := ⟨_, rfl⟩
            obtain ⟨nm, enm⟩ : ∃ nm, M.length = nm := ⟨_, rfl⟩
            have HNL := Aside0.mk enl
            have HNM := Aside0.mk enm
            have hnl : nl ≤ 384 := by rw [← enl]; exact HL1.out
            have hnm : nm ≤ 384 := by rw [← enm]; exact HL2.out
            rw [enl] at HST5 ⊢
            rw [enm] at HST5 ⊢
            clear h5 hC6 HR HST4 eM enl enm hc5 hc6
            go_wp2_with fail
            go_loopw [14, 15] (fun s14 s15 wr => ∃ (k i : Nat), k ≤ nl ∧ i ≤ nm ∧ s14 = .int .i64 (k : Int) ∧ s15 = .int .i64 (i : Int) ∧ Aside0 ((M.drop i).Sublist (L.drop k)) ∧ Aside0 (St w (fun _ => False) wr [Res.agree w Fo, PBook gp B, RBook gr B, Res.row k42 42 (.slice A5 nl c5) L, Res.row k42 42 (.slice A6 nm c6) M])) (fun _ s15 _ => (nm - (intOf s15).toNat))
            case atStart => exact ⟨0, 0, by omega, by omega, rfl, rfl, ⟨by rw [List.drop_zero, List.drop_zero]; exact HSUB.out⟩, HST5⟩
            case round =>
              obtain ⟨k, i2, hk, hi2, rfl, rfl, HSU, HS6⟩ := hrel
              clear HST5 HSUB
              by_cases hil : i2 < nm
              · have p1 : decide ((i2 : Int) < (nm : Int)) = true := decide_eq_true (by omega)
                have p2 : decide (i2 < nm) = true := decide_eq_true hil
                have HIL := Aside0.mk hil
                go_wp2_with fail
                go_loopw [14] (fun s14 wr => ∃ (k : Nat), k ≤ nl ∧ s14 = .int .i64 (k : Int) ∧ Aside0 ((M.drop i2).Sublist (L.drop k)) ∧ Aside0 (St w (fun _ => False) wr [Res.agree w Fo, PBook gp B, RBook gr B, Res.row k42 42 (.slice A5 nl c5) L, Res.row k42 42 (.slice A6 nm c6) M])) (fun s14 _ => (nl - (intOf s14).toNat))
                case atStart => exact ⟨k, by omega, rfl, HSU, HS6⟩
                case round =>
                  obtain ⟨k, hk, rfl, HSU, HS7⟩ := hrel
                  clear HS6
                  have hil := HIL.out
                  have hkl : k < nl := by
                    refine Classical.byContradiction fun hn => ?_
                    have h1 := HSU.out.length_le
                    rw [List.length_drop, List.length_drop, HNL.out, HNM.out] at h1
                    omega
                  have p3 : decide ((k : Int) < (nl : Int)) = true := decide_eq_true (by omega)
                  have p4 : decide (k < nl) = true := decide_eq_true hkl
                  obtain ⟨w8, e8⟩ : ∃ w8, w8 = wr := ⟨_, rfl⟩
                  obtain ⟨ad5, eA5, _⟩ := at_held (by have := row_C HS7.out 3 rfl; rwa [HNL.out] at this) k hkl
                  obtain ⟨ad6, eA6, _⟩ := at_held (by have := row_C HS7.out 4 rfl; rwa [HNM.out] at this) i2 hil
                  subst eA5
                  subst eA6
                  obtain ⟨x, ex⟩ : ∃ x, L.getD k default = x := ⟨_, rfl⟩
                  obtain ⟨y, ey⟩ : ∃ y, M.getD i2 default = y := ⟨_, rfl⟩
                  have HEX := Aside0.mk ex
                  have HEY := Aside0.mk ey
                  clear ex ey
                  go_wp2_with fail
                  rw [← e8] at HS7 ⊢
                  clear e8
                  obtain ⟨w9, e_w9⟩ : ∃ w_, w_ = World.drew w8 := ⟨_, rfl⟩
                  have HBw9 := Aside0.mk (show Below (World.heap w8).size w8 w9 by rw [e_w9]; exact below_drew (Below.refl _ _))
                  refine start_ (n := 15) (S := fun w' => w'.cell? (ad5.add (k * 10)) = some (.int .i64 x.f0.f0.f0) ∧ w'.cell? ⟨(ad5.add (k * 10)).block, (ad5.add (k * 10)).off + 1, none⟩ = some (.int .i64 x.f0.f0.f1) ∧ w'.cell? ⟨(ad5.add (k * 10)).block, (ad5.add (k * 10)).off + 2, none⟩ = some (.string x.f0.f1) ∧ w'.cell? ⟨(ad5.add (k * 10)).block, (ad5.add (k * 10)).off + 3, none⟩ = some (.int .i64 x.f0.f2) ∧ w'.cell? ⟨(ad5.add (k * 10)).block, (ad5.add (k * 10)).off + 4, none⟩ = some (.string x.f0.f3) ∧ w'.cell? ⟨(ad5.add (k * 10)).block, (ad5.add (k * 10)).off + 5, none⟩ = some (.string x.f0.f4.f0) ∧ w'.cell? ⟨(ad5.add (k * 10)).block, (ad5.add (k * 10)).off + 6, none⟩ = some (.string x.f0.f4.f1) ∧ w'.cell? ⟨(ad5.add (k * 10)).block, (ad5.add (k * 10)).off + 7, none⟩ = some (.string x.f0.f5.f0) ∧ w'.cell? ⟨(ad5.add (k * 10)).block, (ad5.add (k * 10)).off + 8, none⟩ = some (.string x.f0.f5.f1) ∧ w'.cell? ⟨(ad5.add (k * 10)).block, (ad5.add (k * 10)).off + 9, none⟩ = some (.int .i64 x.f1) ∧ w'.cell? (ad6.add (i2 * 10)) = some (.int .i64 y.f0.f0.f0) ∧ w'.cell? ⟨(ad6.add (i2 * 10)).block, (ad6.add (i2 * 10)).off + 1, none⟩ = some (.int .i64 y.f0.f0.f1) ∧ w'.cell? ⟨(ad6.add (i2 * 10)).block, (ad6.add (i2 * 10)).off + 2, none⟩ = some (.string y.f0.f1) ∧ w'.cell? ⟨(ad6.add (i2 * 10)).block, (ad6.add (i2 * 10)).off + 3, none⟩ = some (.int .i64 y.f0.f2) ∧ w'.cell? ⟨(ad6.add (i2 * 10)).block, (ad6.add (i2 * 10)).off + 4, none⟩ = some (.string y.f0.f3) ∧ w'.cell? ⟨(ad6.add (i2 * 10)).block, (ad6.add (i2 * 10)).off + 5, none⟩ = some (.string y.f0.f4.f0) ∧ w'.cell? ⟨(ad6.add (i2 * 10)).block, (ad6.add (i2 * 10)).off + 6, none⟩ = some (.string y.f0.f4.f1) ∧ w'.cell? ⟨(ad6.add (i2 * 10)).block, (ad6.add (i2 * 10)).off + 7, none⟩ = some (.string y.f0.f5.f0) ∧ w'.cell? ⟨(ad6.add (i2 * 10)).block, (ad6.add (i2 * 10)).off + 8, none⟩ = some (.string y.f0.f5.f1) ∧ w'.cell? ⟨(ad6.add (i2 * 10)).block, (ad6.add (i2 * 10)).off + 9, none⟩ = some (.int .i64 y.f1)) (ds := []) #[false, false, false, false, false, false, false, false, false, false, false, false, false, false, false] (by kernel_rfl) rfl rfl ⟨(by rw [← e_w9]; exact (row_at10 (HS7.out.on HBw9.out) 3 rfl k (by rw [HNL.out]; exact hkl) HEX.out).1), (by rw [← e_w9]; exact (row_at10 (HS7.out.on HBw9.out) 3 rfl k (by rw [HNL.out]; exact hkl) HEX.out).2.1), (by rw [← e_w9]; exact (row_at10 (HS7.out.on HBw9.out) 3 rfl k (by rw [HNL.out]; exact hkl) HEX.out).2.2.1), (by rw [← e_w9]; exact (row_at10 (HS7.out.on HBw9.out) 3 rfl k (by rw [HNL.out]; exact hkl) HEX.out).2.2.2.1), (by rw [← e_w9]; exact (row_at10 (HS7.out.on HBw9.out) 3 rfl k (by rw [HNL.out]; exact hkl) HEX.out).2.2.2.2.1), (by rw [← e_w9]; exact (row_at10 (HS7.out.on HBw9.out) 3 rfl k (by rw [HNL.out]; exact hkl) HEX.out).2.2.2.2.2.1), (by rw [← e_w9]; exact (row_at10 (HS7.out.on HBw9.out) 3 rfl k (by rw [HNL.out]; exact hkl) HEX.out).2.2.2.2.2.2.1), (by rw [← e_w9]; exact (row_at10 (HS7.out.on HBw9.out) 3 rfl k (by rw [HNL.out]; exact hkl) HEX.out).2.2.2.2.2.2.2.1), (by rw [← e_w9]; exact (row_at10 (HS7.out.on HBw9.out) 3 rfl k (by rw [HNL.out]; exact hkl) HEX.out).2.2.2.2.2.2.2.2.1), (by rw [← e_w9]; exact (row_at10 (HS7.out.on HBw9.out) 3 rfl k (by rw [HNL.out]; exact hkl) HEX.out).2.2.2.2.2.2.2.2.2), (by rw [← e_w9]; exact (row_at10 (HS7.out.on HBw9.out) 4 rfl i2 (by rw [HNM.out]; exact hil) HEY.out).1), (by rw [← e_w9]; exact (row_at10 (HS7.out.on HBw9.out) 4 rfl i2 (by rw [HNM.out]; exact hil) HEY.out).2.1), (by rw [← e_w9]; exact (row_at10 (HS7.out.on HBw9.out) 4 rfl i2 (by rw [HNM.out]; exact hil) HEY.out).2.2.1), (by rw [← e_w9]; exact (row_at10 (HS7.out.on HBw9.out) 4 rfl i2 (by rw [HNM.out]; exact hil) HEY.out).2.2.2.1), (by rw [← e_w9]; exact (row_at10 (HS7.out.on HBw9.out) 4 rfl i2 (by rw [HNM.out]; exact hil) HEY.out).2.2.2.2.1), (by rw [← e_w9]; exact (row_at10 (HS7.out.on HBw9.out) 4 rfl i2 (by rw [HNM.out]; exact hil) HEY.out).2.2.2.2.2.1), (by rw [← e_w9]; exact (row_at10 (HS7.out.on HBw9.out) 4 rfl i2 (by rw [HNM.out]; exact hil) HEY.out).2.2.2.2.2.2.1), (by rw [← e_w9]; exact (row_at10 (HS7.out.on HBw9.out) 4 rfl i2 (by rw [HNM.out]; exact hil) HEY.out).2.2.2.2.2.2.2.1), (by rw [← e_w9]; exact (row_at10 (HS7.out.on HBw9.out) 4 rfl i2 (by rw [HNM.out]; exact hil) HEY.out).2.2.2.2.2.2.2.2.1), (by rw [← e_w9]; exact (row_at10 (HS7.out.on HBw9.out) 4 rfl i2 (by rw [HNM.out]; exact hil) HEY.out).2.2.2.2.2.2.2.2.2)⟩ (fun hHeld => ?_)
                  rw [← e_w9] at hHeld ⊢
                  clear e_w9
                  refine pure_ (i := 0) (N := some 59) (v := ?_) (a' := ?_) #[true, false, false, false, false, false, false, false, false, false, false, false, false, false, false] rfl rfl (by kernel_rfl) (fun _ _ _ h => h) (Or.inl ⟨by rfl, ?_⟩) ?_ ?_
                  rotate_left
                  · intro w'
                    go_simp
                    with_reducible rfl
                  rotate_left
                  · simp only [Act.put, List.setIfInBounds_toArray, List.set_cons_zero, List.set_cons_succ, i64_w, i32_w]
                    rfl
                  refine pure_ (i := 1) (N := some 60) (v := ?_) (a' := ?_) #[true, true, false, false, false, false, false, false, false, false, false, false, false, false, false] rfl rfl (by kernel_rfl) (fun _ _ _ h => h) (Or.inl ⟨by rfl, ?_⟩) ?_ ?_
                  rotate_left
                  · intro w'
                    go_simp
                    with_reducible rfl
                  rotate_left
                  · simp only [Act.put, List.setIfInBounds_toArray, List.set_cons_zero, List.set_cons_succ, i64_w, i32_w]
                    rfl
                  refine pure_ (i := 2) (N := some 61) (v := ?_) (a' := ?_) #[true, true, true, false, false, false, false, false, false, false, false, false, false, false, false] rfl rfl (by kernel_rfl) (fun _ _ _ h => h) (Or.inl ⟨by rfl, ?_⟩) ?_ ?_
                  rotate_left
                  · intro w'
                    go_simp
                    with_reducible rfl
                  rotate_left
                  · simp only [Act.put, List.setIfInBounds_toArray, List.set_cons_zero, List.set_cons_succ, i64_w, i32_w]
                    rfl
                  refine pure_ (i := 3) (N := some 62) (v := ?_) (a' := ?_) #[true, true, true, true, false, false, false, false, false, false, false, false, false, false, false] rfl rfl (by kernel_rfl) (fun _ _ _ h => h) (Or.inl ⟨by rfl, ?_⟩) ?_ ?_
                  rotate_left
                  · intro w'
                    go_simp
                    with_reducible rfl
                  rotate_left
                  · simp only [Act.put, List.setIfInBounds_toArray, List.set_cons_zero, List.set_cons_succ, i64_w, i32_w]
                    rfl
                  refine pure_ (i := 4) (N := some 63) (v := ?_) (a' := ?_) #[true, true, true, true, true, false, false, false, false, false, false, false, false, false, false] rfl rfl (by kernel_rfl) (fun _ _ _ h => h) (Or.inl ⟨by rfl, ?_⟩) ?_ ?_
                  rotate_left
                  · intro w'
                    go_simp
                    with_reducible rfl
                  rotate_left
                  · simp only [Act.put, List.setIfInBounds_toArray, List.set_cons_zero, List.set_cons_succ, i64_w, i32_w]
                    rfl
                  refine pure_ (i := 5) (N := some 64) (v := ?_) (a' := ?_) #[true, true, true, true, true, true, false, false, false, false, false, false, false, false, false] rfl rfl (by kernel_rfl) (fun _ _ _ h => h) (Or.inl ⟨by rfl, ?_⟩) ?_ ?_
                  rotate_left
                  · intro w'
                    go_simp
                    with_reducible rfl
                  rotate_left
                  · simp only [Act.put, List.setIfInBounds_toArray, List.set_cons_zero, List.set_cons_succ, i64_w, i32_w]
                    rfl
                  refine pure_ (i := 6) (N := some 65) (v := ?_) (a' := ?_) #[true, true, true, true, true, true, true, false, false, false, false, false, false, false, false] rfl rfl (by kernel_rfl) (fun _ _ _ h => h) (Or.inl ⟨by rfl, ?_⟩) ?_ ?_
                  rotate_left
                  · intro w'
                    go_simp
                    with_reducible rfl
                  rotate_left
                  · simp only [Act.put, List.setIfInBounds_toArray, List.set_cons_zero, List.set_cons_succ, i64_w, i32_w]
                    rfl
                  refine pure_ (i := 7) (N := some 66) (v := ?_) (a' := ?_) #[true, true, true, true, true, true, true, true, false, false, false, false, false, false, false] rfl rfl (by kernel_rfl) (fun _ _ _ h => h) (Or.inl ⟨by rfl, ?_⟩) ?_ ?_
                  rotate_left
                  · intro w'
                    go_simp
                    with_reducible rfl
                  rotate_left
                  · simp only [Act.put, List.setIfInBounds_toArray, List.set_cons_zero, List.set_cons_succ, i64_w, i32_w]
                    rfl
                  refine pure_ (i := 9) (N := some 68) (v := ?_) (a' := ?_) #[true, true, true, true, true, true, true, true, false, true, false, false, false, false, false] rfl rfl (by kernel_rfl) (fun _ _ _ h => h) (Or.inl ⟨by rfl, ?_⟩) ?_ ?_
                  rotate_left
                  · intro w'
                    go_simp
                    with_reducible rfl
                  rotate_left
                  · simp only [Act.put, List.setIfInBounds_toArray, List.set_cons_zero, List.set_cons_succ, i64_w, i32_w]
                    rfl
                  refine pure_ (i := 10) (N := some 69) (v := ?_) (a' := ?_) #[true, true, true, true, true, true, true, true, false, true, true, false, false, false, false] rfl rfl (by kernel_rfl) (fun _ _ _ h => h) (Or.inl ⟨by rfl, ?_⟩) ?_ ?_
                  rotate_left
                  · intro w'
                    go_simp
                    with_reducible rfl
                  rotate_left
                  · simp only [Act.put, List.setIfInBounds_toArray, List.set_cons_zero, List.set_cons_succ, i64_w, i32_w]
                    rfl
                  refine pure_ (i := 11) (N := some 70) (v := ?_) (a' := ?_) #[true, true, true, true, true, true, true, true, false, true, true, true, false, false, false] rfl rfl (by kernel_rfl) (fun _ _ _ h => h) (Or.inl ⟨by rfl, ?_⟩) ?_ ?_
                  rotate_left
                  · intro w'
                    go_simp
                    with_reducible rfl
                  rotate_left
                  · simp only [Act.put, List.setIfInBounds_toArray, List.set_cons_zero, List.set_cons_succ, i64_w, i32_w]
                    rfl
                  refine take_ (i := 8) (N := some 67) (v := ?_) (a' := ?_) #[true, true, true, true, true, true, true, true, true, true, true, true, false, false, false] rfl rfl (by kernel_rfl) (fun _ _ _ h => h) (Or.inl ⟨by rfl, ?_⟩) hHeld ?_ ?_
                  rotate_left
                  · rintro w' ⟨s0, s1, s2, s3, s4, s5, s6, s7, s8, s9, s10, s11, s12, s13, s14, s15, s16, s17, s18, s19⟩
                    go_simp
                    with_reducible rfl
                  rotate_left
                  · simp only [Act.put, List.setIfInBounds_toArray, List.set_cons_zero, List.set_cons_succ, i64_w, i32_w]
                    rfl
                  refine take_ (i := 12) (N := some 71) (v := ?_) (a' := ?_) #[true, true, true, true, true, true, true, true, true, true, true, true, true, false, false] rfl rfl (by kernel_rfl) (fun _ _ _ h => h) (Or.inl ⟨by rfl, ?_⟩) hHeld ?_ ?_
                  rotate_left
                  · rintro w' ⟨s0, s1, s2, s3, s4, s5, s6, s7, s8, s9, s10, s11, s12, s13, s14, s15, s16, s17, s18, s19⟩
                    go_simp
                    with_reducible rfl
                  rotate_left
                  · simp only [Act.put, List.setIfInBounds_toArray, List.set_cons_zero, List.set_cons_succ, i64_w, i32_w]
                    rfl
                  refine pure_ (i := 13) (N := some 72) (v := ?_) (a' := ?_) #[true, true, true, true, true, true, true, true, true, true, true, true, true, true, false] rfl rfl (by kernel_rfl) (fun _ _ _ h => h) (Or.inl ⟨by rfl, ?_⟩) ?_ ?_
                  rotate_left
                  · intro w'
                    go_simp
                    with_reducible rfl
                  rotate_left
                  · simp only [Act.put, List.setIfInBounds_toArray, List.set_cons_zero, List.set_cons_succ, i64_w, i32_w]
                    rfl
                  refine pure_ (i := 14) (N := some 73) (v := ?_) (a' := ?_) #[true, true, true, true, true, true, true, true, true, true, true, true, true, true, true] rfl rfl (by kernel_rfl) (fun _ _ _ h => h) (Or.inl ⟨by rfl, ?_⟩) ?_ ?_
                  rotate_left
                  · intro w'
                    go_simp
                    with_reducible rfl
                  rotate_left
                  · simp only [Act.put, List.setIfInBounds_toArray, List.set_cons_zero, List.set_cons_succ, i64_w, i32_w]
                    rfl
                  refine done_ (by kernel_rfl) ?_
                  obtain ⟨t, et⟩ : ∃ t, neH x y = t := ⟨_, rfl⟩
                  have e17 : (((!(x.f0.f0.f0 == y.f0.f0.f0) || !(x.f0.f0.f1 == y.f0.f0.f1)) || (!(x.f0.f1.toList == y.f0.f1.toList) || (!(x.f0.f2 == y.f0.f2) || (!(x.f0.f3.toList == y.f0.f3.toList) || ((!(x.f0.f4.f0.toList == y.f0.f4.f0.toList) || !(x.f0.f4.f1.toList == y.f0.f4.f1.toList)) || (!(x.f0.f5.f0.toList == y.f0.f5.f0.toList) || !(x.f0.f5.f1.toList == y.f0.f5.f1.toList))))))) || !(x.f1 == y.f1)) = t := et
                  rw [e17]
                  have HET := Aside0.mk et
                  have HS9 := Aside0.mk (HS7.out.on HBw9.out)
                  have hdm := drop_get (show i2 < M.length by rw [HNM.out]; exact hil)
                  have hdl := drop_get (show k < L.length by rw [HNL.out]; exact hkl)
                  rw [HEY.out] at hdm
                  rw [HEX.out] at hdl
                  have hsu := HSU.out
                  rw [hdm, hdl] at hsu
                  cases t with
                  | true =>
                    have HSV := Aside0.mk (show (M.drop i2).Sublist (L.drop (k + 1)) by rw [hdm]; exact sub_step hsu (fun e => by rw [neH_iff.2 e] at et; cases et))
                    clear hdm hdl hsu et e17 HS7 HBw9
                    go_wp2_with fail
                    go_roundw
                    case rel => exact ⟨k + 1, by omega, by simp, HSV, HS9⟩
                    case measure => simp [intOf]; omega
                  | false =>
                    have hxy : x = y := neH_iff.1 et
                    have HSV := Aside0.mk (show (M.drop (i2 + 1)).Sublist (L.drop k) by
                      rw [hdl]
                      refine ((List.sublist_cons_self y (M.drop (i2 + 1))).trans ?_)
                      exact hsu)
                    have hkne : ((k : Int) == (nl : Int)) = false := by simp; omega
                    clear hdm hdl hsu et e17 HS7 HBw9 hxy
                    go_wp2_with fail
                    go_roundw
                    case rel => exact ⟨k, i2 + 1, by omega, by omega, rfl, by simp, HSV, HS9⟩
                    case measure => simp [intOf]; omega
              · have p1 : decide ((i2 : Int) < (nm : Int)) = false := decide_eq_false (by omega)
                have p2 : decide (i2 < nm) = false := decide_eq_false (by omega)
                go_wp2_with fail
                go_loopw [16] (fun s16 wr => ∃ q : Nat, 1 ≤ q ∧ q ≤ 17 ∧ s16 = .int .i64 (q : Int) ∧ Aside0 (St w (fun _ => False) wr [Res.agree w Fo, PBook gp B, RBook gr B, Res.row k42 42 (.slice A5 nl c5) L, Res.row k42 42 (.slice A6 nm c6) M])) (fun s16 _ => (17 - (intOf s16).toNat))
                case atStart => exact ⟨1, by omega, by omega, rfl, HS6⟩
                case round =>
                  obtain ⟨q, hq1, hq, rfl, HS8⟩ := hrel
                  clear HS6
                  by_cases hql : q < 17
                  · have p3 : decide ((q : Int) ≤ 16) = true := decide_eq_true (by omega)
                    have HF1 := Aside0.mk (freshP_at HS8.out 1 rfl HG.out (q : Int) hi_)
                    have hfm := fresh_mono B (q : Int) HLH.out
                    obtain ⟨t, et⟩ : ∃ t, freshB B (q : Int) hi_ = t := ⟨_, rfl⟩
                    rw [et] at HF1 hfm
                    clear et
                    go_wp2_with fail
                    refine HF1.out.mono ?_
                    rintro e w9 ⟨rfl, h9⟩
                    cases t with
                    | false =>
                      have HST9 := Aside0.mk h9
                      clear h9 hfm HF1
                      go_wp2_with fail
                      go_roundw
                      case rel => exact ⟨q + 1, by omega, by omega, by simp, HST9⟩
                      case measure => simp [intOf]; omega
                    | true =>
                      have HF2 := Aside0.mk (freshP_at h9 1 rfl HG.out (q : Int) lo)
                      rw [hfm rfl] at HF2
                      clear h9 hfm HF1
                      go_wp2_with fail
                      refine HF2.out.mono ?_
                      rintro e w10 ⟨rfl, h10⟩
                      have HST10 := Aside0.mk h10
                      clear h10 HF2
                      go_wp2_with fail
                      go_roundw
                      case rel => exact ⟨q + 1, by omega, by omega, by simp, HST10⟩
                      case measure => simp [intOf]; omega
                  · have p3 : decide ((q : Int) ≤ 16) = false := decide_eq_false (by omega)
                    go_wp2_with fail
                    refine (lives_at HS8.out).mono ?_
                    rintro e w9 ⟨rfl, h9⟩
                    have HST9 := Aside0.mk h9
                    clear h9
                    go_wp2_with fail
                    go_ret
                    exact ⟨rfl, HST9.out.below⟩
    · have q0 : decide (hi_ < lo) = false := decide_eq_false (by omega)
      clear hlt0
      go_wp2_with fail
      obtain ⟨gr, egr⟩ : ∃ gr, gr = w1.heap.size := ⟨_, rfl⟩
      have h2 := boxR_at HST1.out a0
      rw [← egr] at h2 ⊢
      have HST2 := Aside0.mk (show St w (fun _ => False) (w1.alloc (.cells #[.int .i64 a0, .slice none 0 0, .slice none 0 0] 47)) [Res.agree w Fo, PBook gp (bk0 a0), RBook gr (bk0 a0)] from h2)
      clear h2 egr HST1
      go_loopw [11] (fun s11 wr => ∃ (i : Nat) (B : Bk), i ≤ l1.length ∧ i ≤ 20 ∧ s11 = .int .i64 (i : Int) ∧ Aside0 (Good13 B) ∧ Aside0 (St w (fun _ => False) wr [Res.agree w Fo, PBook gp B, RBook gr B])) (fun s11 _ => (21 - (intOf s11).toNat))
      case atStart => exact ⟨0, bk0 a0, by omega, by omega, rfl, ⟨good0 HO.out⟩, HST2⟩
      case round =>
        obtain ⟨i, B, hi, hi20, rfl, HG, HSR⟩ := hrel
        clear HST HST2
        by_cases hgo : i < l1.length ∧ i < 20
        · obtain ⟨hlt, h20⟩ := hgo
          have b1 : decide ((i : Int) < (l1.length : Int)) = true := decide_eq_true (by omega)
          have b2 : decide ((i : Int) < 20) = true := decide_eq_true (by omega)
          have b3 : decide (i < l1.length) = true := decide_eq_true hlt
          obtain ⟨ad, A4, c4, x, eA, hmem, hx0, hx1, hx2, hx3, l4, g4⟩ := deed_at HD.out i hlt
          subst eA
          obtain ⟨k, d, s, l, e0, e1, e2, e3⟩ : ∃ k d s l, x.f0 = k ∧ x.f1 = d ∧ x.f2 = s ∧ x.f3 = l := ⟨_, _, _, _, rfl, rfl, rfl, rfl⟩
          rw [e0] at hx0
          rw [e1] at hx1
          rw [e2] at hx2
          rw [e3] at hx3 l4 g4
          replace hx0 := pw_cell_below HSR.out.below hx0
          replace hx1 := pw_cell_below HSR.out.below hx1
          replace hx2 := pw_cell_below HSR.out.below hx2
          replace hx3 := pw_cell_below HSR.out.below hx3
          have HK := Aside0.mk (And.intro l4 g4)
          clear e0 e1 e2 e3 hmem l4 g4
          go_wp2_with fail
          refine (does_at HSR.out 1 2 rfl rfl (by decide) (by decide) (by decide) HG.out k d s HK.out.1 (fun W' hW => (hW 0 _ (by decide) (by decide) rfl).elim fun ok hp => HK.out.2 W' hp.2)).mono ?_
          rintro e w3 ⟨rfl, h3⟩
          have HST3 := Aside0.mk (show St w (fun _ => False) w3 [Res.agree w Fo, PBook gp (stepB k d s l B), RBook gr (stepB k d s l B)] from h3)
          have HG2 := Aside0.mk (HG.out.step k d s l)
          clear h3 hx0 hx1 hx2 hx3 HSR HG
          go_wp2_with fail
          go_roundw
          case rel => exact ⟨i + 1, _, by omega, by omega, by simp, HG2, HST3⟩
          case measure => simp [intOf]; omega
        · by_cases hlt : i < l1.length
          · have e20 : i = 20 := by omega
            subst e20
            have b1 : decide ((20 : Int) < (l1.length : Int)) = true := decide_eq_true (by omega)
            clear hgo
            have HP := Aside0.mk (heldP_at HSR.out 1 rfl HG.out lo)
            have HL1 := Aside0.mk (heldL_length HG.out lo)
            have HL2 := Aside0.mk (heldL_length HG.out hi_)
            have hsub := held_sub B HLH.out
            obtain ⟨L, eL⟩ : ∃ L, heldL B lo = L := ⟨_, rfl⟩
            obtain ⟨M, eM⟩ : ∃ M, heldL B hi_ = M := ⟨_, rfl⟩
            rw [eL] at HP HL1 hsub
            rw [eM] at HL2 hsub
            have HSUB := Aside0.mk hsub
            clear hsub
            go_wp2_with fail
            refine HP.out.mono ?_
            rintro e w4 ⟨A5, c5, rfl, hc5, hC5, h4⟩
            have HST4 := Aside0.mk (show St w (fun _ => False) w4 [Res.agree w Fo, PBook gp B, RBook gr B, Res.row k42 42 (.slice A5 L.length c5) L] from h4)
            have HR := Aside0.mk (heldP_at HST4.out 1 rfl HG.out hi_)
            rw [eM] at HR
            clear h4 hC5 HP eL
            go_wp2_with fail
            refine HR.out.mono ?_
            rintro e w5 ⟨A6, c6, rfl, hc6, hC6, h5⟩
            have HST5 := Aside0.mk (show St w (fun _ => False) w5 [Res.agree w Fo, PBook gp B, RBook gr B, Res.row k42 42 (.slice A5 L.length c5) L, Res.row k42 42 (.slice A6 M.length c6) M] from h5)
            obtain ⟨nl, enl⟩ : ∃ nl, L.length = nl := ⟨_, rfl⟩
            obtain ⟨nm, enm⟩ : ∃ nm, M.length = nm := ⟨_, rfl⟩
            have HNL := Aside0.mk enl
            have HNM := Aside0.mk enm
            have hnl : nl ≤ 384 := by rw [← enl]; exact HL1.out
            have hnm : nm ≤ 384 := by rw [← enm]; exact HL2.out
            rw [enl] at HST5 ⊢
            rw [enm] at HST5 ⊢
            clear h5 hC6 HR HST4 eM enl enm hc5 hc6
            go_wp2_with fail
            go_loopw [14, 15] (fun s14 s15 wr => ∃ (k i : Nat), k ≤ nl ∧ i ≤ nm ∧ s14 = .int .i64 (k : Int) ∧ s15 = .int .i64 (i : Int) ∧ Aside0 ((M.drop i).Sublist (L.drop k)) ∧ Aside0 (St w (fun _ => False) wr [Res.agree w Fo, PBook gp B, RBook gr B, Res.row k42 42 (.slice A5 nl c5) L, Res.row k42 42 (.slice A6 nm c6) M])) (fun _ s15 _ => (nm - (intOf s15).toNat))
            case atStart => exact ⟨0, 0, by omega, by omega, rfl, rfl, ⟨by rw [List.drop_zero, List.drop_zero]; exact HSUB.out⟩, HST5⟩
            case round =>
              obtain ⟨k, i2, hk, hi2, rfl, rfl, HSU, HS6⟩ := hrel
              clear HST5 HSUB
              by_cases hil : i2 < nm
              · have p1 : decide ((i2 : Int) < (nm : Int)) = true := decide_eq_true (by omega)
                have p2 : decide (i2 < nm) = true := decide_eq_true hil
                have HIL := Aside0.mk hil
                go_wp2_with fail
                go_loopw [14] (fun s14 wr => ∃ (k : Nat), k ≤ nl ∧ s14 = .int .i64 (k : Int) ∧ Aside0 ((M.drop i2).Sublist (L.drop k)) ∧ Aside0 (St w (fun _ => False) wr [Res.agree w Fo, PBook gp B, RBook gr B, Res.row k42 42 (.slice A5 nl c5) L, Res.row k42 42 (.slice A6 nm c6) M])) (fun s14 _ => (nl - (intOf s14).toNat))
                case atStart => exact ⟨k, by omega, rfl, HSU, HS6⟩
                case round =>
                  obtain ⟨k, hk, rfl, HSU, HS7⟩ := hrel
                  clear HS6
                  have hil := HIL.out
                  have hkl : k < nl := by
                    refine Classical.byContradiction fun hn => ?_
                    have h1 := HSU.out.length_le
                    rw [List.length_drop, List.length_drop, HNL.out, HNM.out] at h1
                    omega
                  have p3 : decide ((k : Int) < (nl : Int)) = true := decide_eq_true (by omega)
                  have p4 : decide (k < nl) = true := decide_eq_true hkl
                  obtain ⟨w8, e8⟩ : ∃ w8, w8 = wr := ⟨_, rfl⟩
                  obtain ⟨ad5, eA5, _⟩ := at_held (by have := row_C HS7.out 3 rfl; rwa [HNL.out] at this) k hkl
                  obtain ⟨ad6, eA6, _⟩ := at_held (by have := row_C HS7.out 4 rfl; rwa [HNM.out] at this) i2 hil
                  subst eA5
                  subst eA6
                  obtain ⟨x, ex⟩ : ∃ x, L.getD k default = x := ⟨_, rfl⟩
                  obtain ⟨y, ey⟩ : ∃ y, M.getD i2 default = y := ⟨_, rfl⟩
                  have HEX := Aside0.mk ex
                  have HEY := Aside0.mk ey
                  clear ex ey
                  go_wp2_with fail
                  rw [← e8] at HS7 ⊢
                  clear e8
                  obtain ⟨w9, e_w9⟩ : ∃ w_, w_ = World.drew w8 := ⟨_, rfl⟩
                  have HBw9 := Aside0.mk (show Below (World.heap w8).size w8 w9 by rw [e_w9]; exact below_drew (Below.refl _ _))
                  refine start_ (n := 15) (S := fun w' => w'.cell? (ad5.add (k * 10)) = some (.int .i64 x.f0.f0.f0) ∧ w'.cell? ⟨(ad5.add (k * 10)).block, (ad5.add (k * 10)).off + 1, none⟩ = some (.int .i64 x.f0.f0.f1) ∧ w'.cell? ⟨(ad5.add (k * 10)).block, (ad5.add (k * 10)).off + 2, none⟩ = some (.string x.f0.f1) ∧ w'.cell? ⟨(ad5.add (k * 10)).block, (ad5.add (k * 10)).off + 3, none⟩ = some (.int .i64 x.f0.f2) ∧ w'.cell? ⟨(ad5.add (k * 10)).block, (ad5.add (k * 10)).off + 4, none⟩ = some (.string x.f0.f3) ∧ w'.cell? ⟨(ad5.add (k * 10)).block, (ad5.add (k * 10)).off + 5, none⟩ = some (.string x.f0.f4.f0) ∧ w'.cell? ⟨(ad5.add (k * 10)).block, (ad5.add (k * 10)).off + 6, none⟩ = some (.string x.f0.f4.f1) ∧ w'.cell? ⟨(ad5.add (k * 10)).block, (ad5.add (k * 10)).off + 7, none⟩ = some (.string x.f0.f5.f0) ∧ w'.cell? ⟨(ad5.add (k * 10)).block, (ad5.add (k * 10)).off + 8, none⟩ = some (.string x.f0.f5.f1) ∧ w'.cell? ⟨(ad5.add (k * 10)).block, (ad5.add (k * 10)).off + 9, none⟩ = some (.int .i64 x.f1) ∧ w'.cell? (ad6.add (i2 * 10)) = some (.int .i64 y.f0.f0.f0) ∧ w'.cell? ⟨(ad6.add (i2 * 10)).block, (ad6.add (i2 * 10)).off + 1, none⟩ = some (.int .i64 y.f0.f0.f1) ∧ w'.cell? ⟨(ad6.add (i2 * 10)).block, (ad6.add (i2 * 10)).off + 2, none⟩ = some (.string y.f0.f1) ∧ w'.cell? ⟨(ad6.add (i2 * 10)).block, (ad6.add (i2 * 10)).off + 3, none⟩ = some (.int .i64 y.f0.f2) ∧ w'.cell? ⟨(ad6.add (i2 * 10)).block, (ad6.add (i2 * 10)).off + 4, none⟩ = some (.string y.f0.f3) ∧ w'.cell? ⟨(ad6.add (i2 * 10)).block, (ad6.add (i2 * 10)).off + 5, none⟩ = some (.string y.f0.f4.f0) ∧ w'.cell? ⟨(ad6.add (i2 * 10)).block, (ad6.add (i2 * 10)).off + 6, none⟩ = some (.string y.f0.f4.f1) ∧ w'.cell? ⟨(ad6.add (i2 * 10)).block, (ad6.add (i2 * 10)).off + 7, none⟩ = some (.string y.f0.f5.f0) ∧ w'.cell? ⟨(ad6.add (i2 * 10)).block, (ad6.add (i2 * 10)).off + 8, none⟩ = some (.string y.f0.f5.f1) ∧ w'.cell? ⟨(ad6.add (i2 * 10)).block, (ad6.add (i2 * 10)).off + 9, none⟩ = some (.int .i64 y.f1)) (ds := []) #[false, false, false, false, false, false, false, false, false, false, false, false, false, false, false] (by kernel_rfl) rfl rfl ⟨(by rw [← e_w9]; exact (row_at10 (HS7.out.on HBw9.out) 3 rfl k (by rw [HNL.out]; exact hkl) HEX.out).1), (by rw [← e_w9]; exact (row_at10 (HS7.out.on HBw9.out) 3 rfl k (by rw [HNL.out]; exact hkl) HEX.out).2.1), (by rw [← e_w9]; exact (row_at10 (HS7.out.on HBw9.out) 3 rfl k (by rw [HNL.out]; exact hkl) HEX.out).2.2.1), (by rw [← e_w9]; exact (row_at10 (HS7.out.on HBw9.out) 3 rfl k (by rw [HNL.out]; exact hkl) HEX.out).2.2.2.1), (by rw [← e_w9]; exact (row_at10 (HS7.out.on HBw9.out) 3 rfl k (by rw [HNL.out]; exact hkl) HEX.out).2.2.2.2.1), (by rw [← e_w9]; exact (row_at10 (HS7.out.on HBw9.out) 3 rfl k (by rw [HNL.out]; exact hkl) HEX.out).2.2.2.2.2.1), (by rw [← e_w9]; exact (row_at10 (HS7.out.on HBw9.out) 3 rfl k (by rw [HNL.out]; exact hkl) HEX.out).2.2.2.2.2.2.1), (by rw [← e_w9]; exact (row_at10 (HS7.out.on HBw9.out) 3 rfl k (by rw [HNL.out]; exact hkl) HEX.out).2.2.2.2.2.2.2.1), (by rw [← e_w9]; exact (row_at10 (HS7.out.on HBw9.out) 3 rfl k (by rw [HNL.out]; exact hkl) HEX.out).2.2.2.2.2.2.2.2.1), (by rw [← e_w9]; exact (row_at10 (HS7.out.on HBw9.out) 3 rfl k (by rw [HNL.out]; exact hkl) HEX.out).2.2.2.2.2.2.2.2.2), (by rw [← e_w9]; exact (row_at10 (HS7.out.on HBw9.out) 4 rfl i2 (by rw [HNM.out]; exact hil) HEY.out).1), (by rw [← e_w9]; exact (row_at10 (HS7.out.on HBw9.out) 4 rfl i2 (by rw [HNM.out]; exact hil) HEY.out).2.1), (by rw [← e_w9]; exact (row_at10 (HS7.out.on HBw9.out) 4 rfl i2 (by rw [HNM.out]; exact hil) HEY.out).2.2.1), (by rw [← e_w9]; exact (row_at10 (HS7.out.on HBw9.out) 4 rfl i2 (by rw [HNM.out]; exact hil) HEY.out).2.2.2.1), (by rw [← e_w9]; exact (row_at10 (HS7.out.on HBw9.out) 4 rfl i2 (by rw [HNM.out]; exact hil) HEY.out).2.2.2.2.1), (by rw [← e_w9]; exact (row_at10 (HS7.out.on HBw9.out) 4 rfl i2 (by rw [HNM.out]; exact hil) HEY.out).2.2.2.2.2.1), (by rw [← e_w9]; exact (row_at10 (HS7.out.on HBw9.out) 4 rfl i2 (by rw [HNM.out]; exact hil) HEY.out).2.2.2.2.2.2.1), (by rw [← e_w9]; exact (row_at10 (HS7.out.on HBw9.out) 4 rfl i2 (by rw [HNM.out]; exact hil) HEY.out).2.2.2.2.2.2.2.1), (by rw [← e_w9]; exact (row_at10 (HS7.out.on HBw9.out) 4 rfl i2 (by rw [HNM.out]; exact hil) HEY.out).2.2.2.2.2.2.2.2.1), (by rw [← e_w9]; exact (row_at10 (HS7.out.on HBw9.out) 4 rfl i2 (by rw [HNM.out]; exact hil) HEY.out).2.2.2.2.2.2.2.2.2)⟩ (fun hHeld => ?_)
                  rw [← e_w9] at hHeld ⊢
                  clear e_w9
                  refine pure_ (i := 0) (N := some 59) (v := ?_) (a' := ?_) #[true, false, false, false, false, false, false, false, false, false, false, false, false, false, false] rfl rfl (by kernel_rfl) (fun _ _ _ h => h) (Or.inl ⟨by rfl, ?_⟩) ?_ ?_
                  rotate_left
                  · intro w'
                    go_simp
                    with_reducible rfl
                  rotate_left
                  · simp only [Act.put, List.setIfInBounds_toArray, List.set_cons_zero, List.set_cons_succ, i64_w, i32_w]
                    rfl
                  refine pure_ (i := 1) (N := some 60) (v := ?_) (a' := ?_) #[true, true, false, false, false, false, false, false, false, false, false, false, false, false, false] rfl rfl (by kernel_rfl) (fun _ _ _ h => h) (Or.inl ⟨by rfl, ?_⟩) ?_ ?_
                  rotate_left
                  · intro w'
                    go_simp
                    with_reducible rfl
                  rotate_left
                  · simp only [Act.put, List.setIfInBounds_toArray, List.set_cons_zero, List.set_cons_succ, i64_w, i32_w]
                    rfl
                  refine pure_ (i := 2) (N := some 61) (v := ?_) (a' := ?_) #[true, true, true, false, false, false, false, false, false, false, false, false, false, false, false] rfl rfl (by kernel_rfl) (fun _ _ _ h => h) (Or.inl ⟨by rfl, ?_⟩) ?_ ?_
                  rotate_left
                  · intro w'
                    go_simp
                    with_reducible rfl
                  rotate_left
                  · simp only [Act.put, List.setIfInBounds_toArray, List.set_cons_zero, List.set_cons_succ, i64_w, i32_w]
                    rfl
                  refine pure_ (i := 3) (N := some 62) (v := ?_) (a' := ?_) #[true, true, true, true, false, false, false, false, false, false, false, false, false, false, false] rfl rfl (by kernel_rfl) (fun _ _ _ h => h) (Or.inl ⟨by rfl, ?_⟩) ?_ ?_
                  rotate_left
                  · intro w'
                    go_simp
                    with_reducible rfl
                  rotate_left
                  · simp only [Act.put, List.setIfInBounds_toArray, List.set_cons_zero, List.set_cons_succ, i64_w, i32_w]
                    rfl
                  refine pure_ (i := 4) (N := some 63) (v := ?_) (a' := ?_) #[true, true, true, true, true, false, false, false, false, false, false, false, false, false, false] rfl rfl (by kernel_rfl) (fun _ _ _ h => h) (Or.inl ⟨by rfl, ?_⟩) ?_ ?_
                  rotate_left
                  · intro w'
                    go_simp
                    with_reducible rfl
                  rotate_left
                  · simp only [Act.put, List.setIfInBounds_toArray, List.set_cons_zero, List.set_cons_succ, i64_w, i32_w]
                    rfl
                  refine pure_ (i := 5) (N := some 64) (v := ?_) (a' := ?_) #[true, true, true, true, true, true, false, false, false, false, false, false, false, false, false] rfl rfl (by kernel_rfl) (fun _ _ _ h => h) (Or.inl ⟨by rfl, ?_⟩) ?_ ?_
                  rotate_left
                  · intro w'
                    go_simp
                    with_reducible rfl
                  rotate_left
                  · simp only [Act.put, List.setIfInBounds_toArray, List.set_cons_zero, List.set_cons_succ, i64_w, i32_w]
                    rfl
                  refine pure_ (i := 6) (N := some 65) (v := ?_) (a' := ?_) #[true, true, true, true, true, true, true, false, false, false, false, false, false, false, false] rfl rfl (by kernel_rfl) (fun _ _ _ h => h) (Or.inl ⟨by rfl, ?_⟩) ?_ ?_
                  rotate_left
                  · intro w'
                    go_simp
                    with_reducible rfl
                  rotate_left
                  · simp only [Act.put, List.setIfInBounds_toArray, List.set_cons_zero, List.set_cons_succ, i64_w, i32_w]
                    rfl
                  refine pure_ (i := 7) (N := some 66) (v := ?_) (a' := ?_) #[true, true, true, true, true, true, true, true, false, false, false, false, false, false, false] rfl rfl (by kernel_rfl) (fun _ _ _ h => h) (Or.inl ⟨by rfl, ?_⟩) ?_ ?_
                  rotate_left
                  · intro w'
                    go_simp
                    with_reducible rfl
                  rotate_left
                  · simp only [Act.put, List.setIfInBounds_toArray, List.set_cons_zero, List.set_cons_succ, i64_w, i32_w]
                    rfl
                  refine pure_ (i := 9) (N := some 68) (v := ?_) (a' := ?_) #[true, true, true, true, true, true, true, true, false, true, false, false, false, false, false] rfl rfl (by kernel_rfl) (fun _ _ _ h => h) (Or.inl ⟨by rfl, ?_⟩) ?_ ?_
                  rotate_left
                  · intro w'
                    go_simp
                    with_reducible rfl
                  rotate_left
                  · simp only [Act.put, List.setIfInBounds_toArray, List.set_cons_zero, List.set_cons_succ, i64_w, i32_w]
                    rfl
                  refine pure_ (i := 10) (N := some 69) (v := ?_) (a' := ?_) #[true, true, true, true, true, true, true, true, false, true, true, false, false, false, false] rfl rfl (by kernel_rfl) (fun _ _ _ h => h) (Or.inl ⟨by rfl, ?_⟩) ?_ ?_
                  rotate_left
                  · intro w'
                    go_simp
                    with_reducible rfl
                  rotate_left
                  · simp only [Act.put, List.setIfInBounds_toArray, List.set_cons_zero, List.set_cons_succ, i64_w, i32_w]
                    rfl
                  refine pure_ (i := 11) (N := some 70) (v := ?_) (a' := ?_) #[true, true, true, true, true, true, true, true, false, true, true, true, false, false, false] rfl rfl (by kernel_rfl) (fun _ _ _ h => h) (Or.inl ⟨by rfl, ?_⟩) ?_ ?_
                  rotate_left
                  · intro w'
                    go_simp
                    with_reducible rfl
                  rotate_left
                  · simp only [Act.put, List.setIfInBounds_toArray, List.set_cons_zero, List.set_cons_succ, i64_w, i32_w]
                    rfl
                  refine take_ (i := 8) (N := some 67) (v := ?_) (a' := ?_) #[true, true, true, true, true, true, true, true, true, true, true, true, false, false, false] rfl rfl (by kernel_rfl) (fun _ _ _ h => h) (Or.inl ⟨by rfl, ?_⟩) hHeld ?_ ?_
                  rotate_left
                  · rintro w' ⟨s0, s1, s2, s3, s4, s5, s6, s7, s8, s9, s10, s11, s12, s13, s14, s15, s16, s17, s18, s19⟩
                    go_simp
                    with_reducible rfl
                  rotate_left
                  · simp only [Act.put, List.setIfInBounds_toArray, List.set_cons_zero, List.set_cons_succ, i64_w, i32_w]
                    rfl
                  refine take_ (i := 12) (N := some 71) (v := ?_) (a' := ?_) #[true, true, true, true, true, true, true, true, true, true, true, true, true, false, false] rfl rfl (by kernel_rfl) (fun _ _ _ h => h) (Or.inl ⟨by rfl, ?_⟩) hHeld ?_ ?_
                  rotate_left
                  · rintro w' ⟨s0, s1, s2, s3, s4, s5, s6, s7, s8, s9, s10, s11, s12, s13, s14, s15, s16, s17, s18, s19⟩
                    go_simp
                    with_reducible rfl
                  rotate_left
                  · simp only [Act.put, List.setIfInBounds_toArray, List.set_cons_zero, List.set_cons_succ, i64_w, i32_w]
                    rfl
                  refine pure_ (i := 13) (N := some 72) (v := ?_) (a' := ?_) #[true, true, true, true, true, true, true, true, true, true, true, true, true, true, false] rfl rfl (by kernel_rfl) (fun _ _ _ h => h) (Or.inl ⟨by rfl, ?_⟩) ?_ ?_
                  rotate_left
                  · intro w'
                    go_simp
                    with_reducible rfl
                  rotate_left
                  · simp only [Act.put, List.setIfInBounds_toArray, List.set_cons_zero, List.set_cons_succ, i64_w, i32_w]
                    rfl
                  refine pure_ (i := 14) (N := some 73) (v := ?_) (a' := ?_) #[true, true, true, true, true, true, true, true, true, true, true, true, true, true, true] rfl rfl (by kernel_rfl) (fun _ _ _ h => h) (Or.inl ⟨by rfl, ?_⟩) ?_ ?_
                  rotate_left
                  · intro w'
                    go_simp
                    with_reducible rfl
                  rotate_left
                  · simp only [Act.put, List.setIfInBounds_toArray, List.set_cons_zero, List.set_cons_succ, i64_w, i32_w]
                    rfl
                  refine done_ (by kernel_rfl) ?_
                  obtain ⟨t, et⟩ : ∃ t, neH x y = t := ⟨_, rfl⟩
                  have e17 : (((!(x.f0.f0.f0 == y.f0.f0.f0) || !(x.f0.f0.f1 == y.f0.f0.f1)) || (!(x.f0.f1.toList == y.f0.f1.toList) || (!(x.f0.f2 == y.f0.f2) || (!(x.f0.f3.toList == y.f0.f3.toList) || ((!(x.f0.f4.f0.toList == y.f0.f4.f0.toList) || !(x.f0.f4.f1.toList == y.f0.f4.f1.toList)) || (!(x.f0.f5.f0.toList == y.f0.f5.f0.toList) || !(x.f0.f5.f1.toList == y.f0.f5.f1.toList))))))) || !(x.f1 == y.f1)) = t := et
                  rw [e17]
                  have HET := Aside0.mk et
                  have HS9 := Aside0.mk (HS7.out.on HBw9.out)
                  have hdm := drop_get (show i2 < M.length by rw [HNM.out]; exact hil)
                  have hdl := drop_get (show k < L.length by rw [HNL.out]; exact hkl)
                  rw [HEY.out] at hdm
                  rw [HEX.out] at hdl
                  have hsu := HSU.out
                  rw [hdm, hdl] at hsu
                  cases t with
                  | true =>
                    have HSV := Aside0.mk (show (M.drop i2).Sublist (L.drop (k + 1)) by rw [hdm]; exact sub_step hsu (fun e => by rw [neH_iff.2 e] at et; cases et))
                    clear hdm hdl hsu et e17 HS7 HBw9
                    go_wp2_with fail
                    go_roundw
                    case rel => exact ⟨k + 1, by omega, by simp, HSV, HS9⟩
                    case measure => simp [intOf]; omega
                  | false =>
                    have hxy : x = y := neH_iff.1 et
                    have HSV := Aside0.mk (show (M.drop (i2 + 1)).Sublist (L.drop k) by
                      rw [hdl]
                      refine ((List.sublist_cons_self y (M.drop (i2 + 1))).trans ?_)
                      exact hsu)
                    have hkne : ((k : Int) == (nl : Int)) = false := by simp; omega
                    clear hdm hdl hsu et e17 HS7 HBw9 hxy
                    go_wp2_with fail
                    go_roundw
                    case rel => exact ⟨k, i2 + 1, by omega, by omega, rfl, by simp, HSV, HS9⟩
                    case measure => simp [intOf]; omega
              · have p1 : decide ((i2 : Int) < (nm : Int)) = false := decide_eq_false (by omega)
                have p2 : decide (i2 < nm) = false := decide_eq_false (by omega)
                go_wp2_with fail
                go_loopw [16] (fun s16 wr => ∃ q : Nat, 1 ≤ q ∧ q ≤ 17 ∧ s16 = .int .i64 (q : Int) ∧ Aside0 (St w (fun _ => False) wr [Res.agree w Fo, PBook gp B, RBook gr B, Res.row k42 42 (.slice A5 nl c5) L, Res.row k42 42 (.slice A6 nm c6) M])) (fun s16 _ => (17 - (intOf s16).toNat))
                case atStart => exact ⟨1, by omega, by omega, rfl, HS6⟩
                case round =>
                  obtain ⟨q, hq1, hq, rfl, HS8⟩ := hrel
                  clear HS6
                  by_cases hql : q < 17
                  · have p3 : decide ((q : Int) ≤ 16) = true := decide_eq_true (by omega)
                    have HF1 := Aside0.mk (freshP_at HS8.out 1 rfl HG.out (q : Int) hi_)
                    have hfm := fresh_mono B (q : Int) HLH.out
                    obtain ⟨t, et⟩ : ∃ t, freshB B (q : Int) hi_ = t := ⟨_, rfl⟩
                    rw [et] at HF1 hfm
                    clear et
                    go_wp2_with fail
                    refine HF1.out.mono ?_
                    rintro e w9 ⟨rfl, h9⟩
                    cases t with
                    | false =>
                      have HST9 := Aside0.mk h9
                      clear h9 hfm HF1
                      go_wp2_with fail
                      go_roundw
                      case rel => exact ⟨q + 1, by omega, by omega, by simp, HST9⟩
                      case measure => simp [intOf]; omega
                    | true =>
                      have HF2 := Aside0.mk (freshP_at h9 1 rfl HG.out (q : Int) lo)
                      rw [hfm rfl] at HF2
                      clear h9 hfm HF1
                      go_wp2_with fail
                      refine HF2.out.mono ?_
                      rintro e w10 ⟨rfl, h10⟩
                      have HST10 := Aside0.mk h10
                      clear h10 HF2
                      go_wp2_with fail
                      go_roundw
                      case rel => exact ⟨q + 1, by omega, by omega, by simp, HST10⟩
                      case measure => simp [intOf]; omega
                  · have p3 : decide ((q : Int) ≤ 16) = false := decide_eq_false (by omega)
                    go_wp2_with fail
                    refine (lives_at HS8.out).mono ?_
                    rintro e w9 ⟨rfl, h9⟩
                    have HST9 := Aside0.mk h9
                    clear h9
                    go_wp2_with fail
                    go_ret
                    exact ⟨rfl, HST9.out.below⟩
          · have b1 : decide ((i : Int) < (l1.length : Int)) = false := decide_eq_false (by omega)
            clear hgo
            have HP := Aside0.mk (heldP_at HSR.out 1 rfl HG.out lo)
            have HL1 := Aside0.mk (heldL_length HG.out lo)
            have HL2 := Aside0.mk (heldL_length HG.out hi_)
            have hsub := held_sub B HLH.out
            obtain ⟨L, eL⟩ : ∃ L, heldL B lo = L := ⟨_, rfl⟩
            obtain ⟨M, eM⟩ : ∃ M, heldL B hi_ = M := ⟨_, rfl⟩
            rw [eL] at HP HL1 hsub
            rw [eM] at HL2 hsub
            have HSUB := Aside0.mk hsub
            clear hsub
            go_wp2_with fail
            refine HP.out.mono ?_
            rintro e w4 ⟨A5, c5, rfl, hc5, hC5, h4⟩
            have HST4 := Aside0.mk (show St w (fun _ => False) w4 [Res.agree w Fo, PBook gp B, RBook gr B, Res.row k42 42 (.slice A5 L.length c5) L] from h4)
            have HR := Aside0.mk (heldP_at HST4.out 1 rfl HG.out hi_)
            rw [eM] at HR
            clear h4 hC5 HP eL
            go_wp2_with fail
            refine HR.out.mono ?_
            rintro e w5 ⟨A6, c6, rfl, hc6, hC6, h5⟩
            have HST5 := Aside0.mk (show St w (fun _ => False) w5 [Res.agree w Fo, PBook gp B, RBook gr B, Res.row k42 42 (.slice A5 L.length c5) L, Res.row k42 42 (.slice A6 M.length c6) M] from h5)
            obtain ⟨nl, enl⟩ : ∃ nl, L.length = nl := ⟨_, rfl⟩
            obtain ⟨nm, enm⟩ : ∃ nm, M.length = nm := ⟨_, rfl⟩
            have HNL := Aside0.mk enl
            have HNM := Aside0.mk enm
            have hnl : nl ≤ 384 := by rw [← enl]; exact HL1.out
            have hnm : nm ≤ 384 := by rw [← enm]; exact HL2.out
            rw [enl] at HST5 ⊢
            rw [enm] at HST5 ⊢
            clear h5 hC6 HR HST4 eM enl enm hc5 hc6
            go_wp2_with fail
            go_loopw [14, 15] (fun s14 s15 wr => ∃ (k i : Nat), k ≤ nl ∧ i ≤ nm ∧ s14 = .int .i64 (k : Int) ∧ s15 = .int .i64 (i : Int) ∧ Aside0 ((M.drop i).Sublist (L.drop k)) ∧ Aside0 (St w (fun _ => False) wr [Res.agree w Fo, PBook gp B, RBook gr B, Res.row k42 42 (.slice A5 nl c5) L, Res.row k42 42 (.slice A6 nm c6) M])) (fun _ s15 _ => (nm - (intOf s15).toNat))
            case atStart => exact ⟨0, 0, by omega, by omega, rfl, rfl, ⟨by rw [List.drop_zero, List.drop_zero]; exact HSUB.out⟩, HST5⟩
            case round =>
              obtain ⟨k, i2, hk, hi2, rfl, rfl, HSU, HS6⟩ := hrel
              clear HST5 HSUB
              by_cases hil : i2 < nm
              · have p1 : decide ((i2 : Int) < (nm : Int)) = true := decide_eq_true (by omega)
                have p2 : decide (i2 < nm) = true := decide_eq_true hil
                have HIL := Aside0.mk hil
                go_wp2_with fail
                go_loopw [14] (fun s14 wr => ∃ (k : Nat), k ≤ nl ∧ s14 = .int .i64 (k : Int) ∧ Aside0 ((M.drop i2).Sublist (L.drop k)) ∧ Aside0 (St w (fun _ => False) wr [Res.agree w Fo, PBook gp B, RBook gr B, Res.row k42 42 (.slice A5 nl c5) L, Res.row k42 42 (.slice A6 nm c6) M])) (fun s14 _ => (nl - (intOf s14).toNat))
                case atStart => exact ⟨k, by omega, rfl, HSU, HS6⟩
                case round =>
                  obtain ⟨k, hk, rfl, HSU, HS7⟩ := hrel
                  clear HS6
                  have hil := HIL.out
                  have hkl : k < nl := by
                    refine Classical.byContradiction fun hn => ?_
                    have h1 := HSU.out.length_le
                    rw [List.length_drop, List.length_drop, HNL.out, HNM.out] at h1
                    omega
                  have p3 : decide ((k : Int) < (nl : Int)) = true := decide_eq_true (by omega)
                  have p4 : decide (k < nl) = true := decide_eq_true hkl
                  obtain ⟨w8, e8⟩ : ∃ w8, w8 = wr := ⟨_, rfl⟩
                  obtain ⟨ad5, eA5, _⟩ := at_held (by have := row_C HS7.out 3 rfl; rwa [HNL.out] at this) k hkl
                  obtain ⟨ad6, eA6, _⟩ := at_held (by have := row_C HS7.out 4 rfl; rwa [HNM.out] at this) i2 hil
                  subst eA5
                  subst eA6
                  obtain ⟨x, ex⟩ : ∃ x, L.getD k default = x := ⟨_, rfl⟩
                  obtain ⟨y, ey⟩ : ∃ y, M.getD i2 default = y := ⟨_, rfl⟩
                  have HEX := Aside0.mk ex
                  have HEY := Aside0.mk ey
                  clear ex ey
                  go_wp2_with fail
                  rw [← e8] at HS7 ⊢
                  clear e8
                  obtain ⟨w9, e_w9⟩ : ∃ w_, w_ = World.drew w8 := ⟨_, rfl⟩
                  have HBw9 := Aside0.mk (show Below (World.heap w8).size w8 w9 by rw [e_w9]; exact below_drew (Below.refl _ _))
                  refine start_ (n := 15) (S := fun w' => w'.cell? (ad5.add (k * 10)) = some (.int .i64 x.f0.f0.f0) ∧ w'.cell? ⟨(ad5.add (k * 10)).block, (ad5.add (k * 10)).off + 1, none⟩ = some (.int .i64 x.f0.f0.f1) ∧ w'.cell? ⟨(ad5.add (k * 10)).block, (ad5.add (k * 10)).off + 2, none⟩ = some (.string x.f0.f1) ∧ w'.cell? ⟨(ad5.add (k * 10)).block, (ad5.add (k * 10)).off + 3, none⟩ = some (.int .i64 x.f0.f2) ∧ w'.cell? ⟨(ad5.add (k * 10)).block, (ad5.add (k * 10)).off + 4, none⟩ = some (.string x.f0.f3) ∧ w'.cell? ⟨(ad5.add (k * 10)).block, (ad5.add (k * 10)).off + 5, none⟩ = some (.string x.f0.f4.f0) ∧ w'.cell? ⟨(ad5.add (k * 10)).block, (ad5.add (k * 10)).off + 6, none⟩ = some (.string x.f0.f4.f1) ∧ w'.cell? ⟨(ad5.add (k * 10)).block, (ad5.add (k * 10)).off + 7, none⟩ = some (.string x.f0.f5.f0) ∧ w'.cell? ⟨(ad5.add (k * 10)).block, (ad5.add (k * 10)).off + 8, none⟩ = some (.string x.f0.f5.f1) ∧ w'.cell? ⟨(ad5.add (k * 10)).block, (ad5.add (k * 10)).off + 9, none⟩ = some (.int .i64 x.f1) ∧ w'.cell? (ad6.add (i2 * 10)) = some (.int .i64 y.f0.f0.f0) ∧ w'.cell? ⟨(ad6.add (i2 * 10)).block, (ad6.add (i2 * 10)).off + 1, none⟩ = some (.int .i64 y.f0.f0.f1) ∧ w'.cell? ⟨(ad6.add (i2 * 10)).block, (ad6.add (i2 * 10)).off + 2, none⟩ = some (.string y.f0.f1) ∧ w'.cell? ⟨(ad6.add (i2 * 10)).block, (ad6.add (i2 * 10)).off + 3, none⟩ = some (.int .i64 y.f0.f2) ∧ w'.cell? ⟨(ad6.add (i2 * 10)).block, (ad6.add (i2 * 10)).off + 4, none⟩ = some (.string y.f0.f3) ∧ w'.cell? ⟨(ad6.add (i2 * 10)).block, (ad6.add (i2 * 10)).off + 5, none⟩ = some (.string y.f0.f4.f0) ∧ w'.cell? ⟨(ad6.add (i2 * 10)).block, (ad6.add (i2 * 10)).off + 6, none⟩ = some (.string y.f0.f4.f1) ∧ w'.cell? ⟨(ad6.add (i2 * 10)).block, (ad6.add (i2 * 10)).off + 7, none⟩ = some (.string y.f0.f5.f0) ∧ w'.cell? ⟨(ad6.add (i2 * 10)).block, (ad6.add (i2 * 10)).off + 8, none⟩ = some (.string y.f0.f5.f1) ∧ w'.cell? ⟨(ad6.add (i2 * 10)).block, (ad6.add (i2 * 10)).off + 9, none⟩ = some (.int .i64 y.f1)) (ds := []) #[false, false, false, false, false, false, false, false, false, false, false, false, false, false, false] (by kernel_rfl) rfl rfl ⟨(by rw [← e_w9]; exact (row_at10 (HS7.out.on HBw9.out) 3 rfl k (by rw [HNL.out]; exact hkl) HEX.out).1), (by rw [← e_w9]; exact (row_at10 (HS7.out.on HBw9.out) 3 rfl k (by rw [HNL.out]; exact hkl) HEX.out).2.1), (by rw [← e_w9]; exact (row_at10 (HS7.out.on HBw9.out) 3 rfl k (by rw [HNL.out]; exact hkl) HEX.out).2.2.1), (by rw [← e_w9]; exact (row_at10 (HS7.out.on HBw9.out) 3 rfl k (by rw [HNL.out]; exact hkl) HEX.out).2.2.2.1), (by rw [← e_w9]; exact (row_at10 (HS7.out.on HBw9.out) 3 rfl k (by rw [HNL.out]; exact hkl) HEX.out).2.2.2.2.1), (by rw [← e_w9]; exact (row_at10 (HS7.out.on HBw9.out) 3 rfl k (by rw [HNL.out]; exact hkl) HEX.out).2.2.2.2.2.1), (by rw [← e_w9]; exact (row_at10 (HS7.out.on HBw9.out) 3 rfl k (by rw [HNL.out]; exact hkl) HEX.out).2.2.2.2.2.2.1), (by rw [← e_w9]; exact (row_at10 (HS7.out.on HBw9.out) 3 rfl k (by rw [HNL.out]; exact hkl) HEX.out).2.2.2.2.2.2.2.1), (by rw [← e_w9]; exact (row_at10 (HS7.out.on HBw9.out) 3 rfl k (by rw [HNL.out]; exact hkl) HEX.out).2.2.2.2.2.2.2.2.1), (by rw [← e_w9]; exact (row_at10 (HS7.out.on HBw9.out) 3 rfl k (by rw [HNL.out]; exact hkl) HEX.out).2.2.2.2.2.2.2.2.2), (by rw [← e_w9]; exact (row_at10 (HS7.out.on HBw9.out) 4 rfl i2 (by rw [HNM.out]; exact hil) HEY.out).1), (by rw [← e_w9]; exact (row_at10 (HS7.out.on HBw9.out) 4 rfl i2 (by rw [HNM.out]; exact hil) HEY.out).2.1), (by rw [← e_w9]; exact (row_at10 (HS7.out.on HBw9.out) 4 rfl i2 (by rw [HNM.out]; exact hil) HEY.out).2.2.1), (by rw [← e_w9]; exact (row_at10 (HS7.out.on HBw9.out) 4 rfl i2 (by rw [HNM.out]; exact hil) HEY.out).2.2.2.1), (by rw [← e_w9]; exact (row_at10 (HS7.out.on HBw9.out) 4 rfl i2 (by rw [HNM.out]; exact hil) HEY.out).2.2.2.2.1), (by rw [← e_w9]; exact (row_at10 (HS7.out.on HBw9.out) 4 rfl i2 (by rw [HNM.out]; exact hil) HEY.out).2.2.2.2.2.1), (by rw [← e_w9]; exact (row_at10 (HS7.out.on HBw9.out) 4 rfl i2 (by rw [HNM.out]; exact hil) HEY.out).2.2.2.2.2.2.1), (by rw [← e_w9]; exact (row_at10 (HS7.out.on HBw9.out) 4 rfl i2 (by rw [HNM.out]; exact hil) HEY.out).2.2.2.2.2.2.2.1), (by rw [← e_w9]; exact (row_at10 (HS7.out.on HBw9.out) 4 rfl i2 (by rw [HNM.out]; exact hil) HEY.out).2.2.2.2.2.2.2.2.1), (by rw [← e_w9]; exact (row_at10 (HS7.out.on HBw9.out) 4 rfl i2 (by rw [HNM.out]; exact hil) HEY.out).2.2.2.2.2.2.2.2.2)⟩ (fun hHeld => ?_)
                  rw [← e_w9] at hHeld ⊢
                  clear e_w9
                  refine pure_ (i := 0) (N := some 59) (v := ?_) (a' := ?_) #[true, false, false, false, false, false, false, false, false, false, false, false, false, false, false] rfl rfl (by kernel_rfl) (fun _ _ _ h => h) (Or.inl ⟨by rfl, ?_⟩) ?_ ?_
                  rotate_left
                  · intro w'
                    go_simp
                    with_reducible rfl
                  rotate_left
                  · simp only [Act.put, List.setIfInBounds_toArray, List.set_cons_zero, List.set_cons_succ, i64_w, i32_w]
                    rfl
                  refine pure_ (i := 1) (N := some 60) (v := ?_) (a' := ?_) #[true, true, false, false, false, false, false, false, false, false, false, false, false, false, false] rfl rfl (by kernel_rfl) (fun _ _ _ h => h) (Or.inl ⟨by rfl, ?_⟩) ?_ ?_
                  rotate_left
                  · intro w'
                    go_simp
                    with_reducible rfl
                  rotate_left
                  · simp only [Act.put, List.setIfInBounds_toArray, List.set_cons_zero, List.set_cons_succ, i64_w, i32_w]
                    rfl
                  refine pure_ (i := 2) (N := some 61) (v := ?_) (a' := ?_) #[true, true, true, false, false, false, false, false, false, false, false, false, false, false, false] rfl rfl (by kernel_rfl) (fun _ _ _ h => h) (Or.inl ⟨by rfl, ?_⟩) ?_ ?_
                  rotate_left
                  · intro w'
                    go_simp
                    with_reducible rfl
                  rotate_left
                  · simp only [Act.put, List.setIfInBounds_toArray, List.set_cons_zero, List.set_cons_succ, i64_w, i32_w]
                    rfl
                  refine pure_ (i := 3) (N := some 62) (v := ?_) (a' := ?_) #[true, true, true, true, false, false, false, false, false, false, false, false, false, false, false] rfl rfl (by kernel_rfl) (fun _ _ _ h => h) (Or.inl ⟨by rfl, ?_⟩) ?_ ?_
                  rotate_left
                  · intro w'
                    go_simp
                    with_reducible rfl
                  rotate_left
                  · simp only [Act.put, List.setIfInBounds_toArray, List.set_cons_zero, List.set_cons_succ, i64_w, i32_w]
                    rfl
                  refine pure_ (i := 4) (N := some 63) (v := ?_) (a' := ?_) #[true, true, true, true, true, false, false, false, false, false, false, false, false, false, false] rfl rfl (by kernel_rfl) (fun _ _ _ h => h) (Or.inl ⟨by rfl, ?_⟩) ?_ ?_
                  rotate_left
                  · intro w'
                    go_simp
                    with_reducible rfl
                  rotate_left
                  · simp only [Act.put, List.setIfInBounds_toArray, List.set_cons_zero, List.set_cons_succ, i64_w, i32_w]
                    rfl
                  refine pure_ (i := 5) (N := some 64) (v := ?_) (a' := ?_) #[true, true, true, true, true, true, false, false, false, false, false, false, false, false, false] rfl rfl (by kernel_rfl) (fun _ _ _ h => h) (Or.inl ⟨by rfl, ?_⟩) ?_ ?_
                  rotate_left
                  · intro w'
                    go_simp
                    with_reducible rfl
                  rotate_left
                  · simp only [Act.put, List.setIfInBounds_toArray, List.set_cons_zero, List.set_cons_succ, i64_w, i32_w]
                    rfl
                  refine pure_ (i := 6) (N := some 65) (v := ?_) (a' := ?_) #[true, true, true, true, true, true, true, false, false, false, false, false, false, false, false] rfl rfl (by kernel_rfl) (fun _ _ _ h => h) (Or.inl ⟨by rfl, ?_⟩) ?_ ?_
                  rotate_left
                  · intro w'
                    go_simp
                    with_reducible rfl
                  rotate_left
                  · simp only [Act.put, List.setIfInBounds_toArray, List.set_cons_zero, List.set_cons_succ, i64_w, i32_w]
                    rfl
                  refine pure_ (i := 7) (N := some 66) (v := ?_) (a' := ?_) #[true, true, true, true, true, true, true, true, false, false, false, false, false, false, false] rfl rfl (by kernel_rfl) (fun _ _ _ h => h) (Or.inl ⟨by rfl, ?_⟩) ?_ ?_
                  rotate_left
                  · intro w'
                    go_simp
                    with_reducible rfl
                  rotate_left
                  · simp only [Act.put, List.setIfInBounds_toArray, List.set_cons_zero, List.set_cons_succ, i64_w, i32_w]
                    rfl
                  refine pure_ (i := 9) (N := some 68) (v := ?_) (a' := ?_) #[true, true, true, true, true, true, true, true, false, true, false, false, false, false, false] rfl rfl (by kernel_rfl) (fun _ _ _ h => h) (Or.inl ⟨by rfl, ?_⟩) ?_ ?_
                  rotate_left
                  · intro w'
                    go_simp
                    with_reducible rfl
                  rotate_left
                  · simp only [Act.put, List.setIfInBounds_toArray, List.set_cons_zero, List.set_cons_succ, i64_w, i32_w]
                    rfl
                  refine pure_ (i := 10) (N := some 69) (v := ?_) (a' := ?_) #[true, true, true, true, true, true, true, true, false, true, true, false, false, false, false] rfl rfl (by kernel_rfl) (fun _ _ _ h => h) (Or.inl ⟨by rfl, ?_⟩) ?_ ?_
                  rotate_left
                  · intro w'
                    go_simp
                    with_reducible rfl
                  rotate_left
                  · simp only [Act.put, List.setIfInBounds_toArray, List.set_cons_zero, List.set_cons_succ, i64_w, i32_w]
                    rfl
                  refine pure_ (i := 11) (N := some 70) (v := ?_) (a' := ?_) #[true, true, true, true, true, true, true, true, false, true, true, true, false, false, false] rfl rfl (by kernel_rfl) (fun _ _ _ h => h) (Or.inl ⟨by rfl, ?_⟩) ?_ ?_
                  rotate_left
                  · intro w'
                    go_simp
                    with_reducible rfl
                  rotate_left
                  · simp only [Act.put, List.setIfInBounds_toArray, List.set_cons_zero, List.set_cons_succ, i64_w, i32_w]
                    rfl
                  refine take_ (i := 8) (N := some 67) (v := ?_) (a' := ?_) #[true, true, true, true, true, true, true, true, true, true, true, true, false, false, false] rfl rfl (by kernel_rfl) (fun _ _ _ h => h) (Or.inl ⟨by rfl, ?_⟩) hHeld ?_ ?_
                  rotate_left
                  · rintro w' ⟨s0, s1, s2, s3, s4, s5, s6, s7, s8, s9, s10, s11, s12, s13, s14, s15, s16, s17, s18, s19⟩
                    go_simp
                    with_reducible rfl
                  rotate_left
                  · simp only [Act.put, List.setIfInBounds_toArray, List.set_cons_zero, List.set_cons_succ, i64_w, i32_w]
                    rfl
                  refine take_ (i := 12) (N := some 71) (v := ?_) (a' := ?_) #[true, true, true, true, true, true, true, true, true, true, true, true, true, false, false] rfl rfl (by kernel_rfl) (fun _ _ _ h => h) (Or.inl ⟨by rfl, ?_⟩) hHeld ?_ ?_
                  rotate_left
                  · rintro w' ⟨s0, s1, s2, s3, s4, s5, s6, s7, s8, s9, s10, s11, s12, s13, s14, s15, s16, s17, s18, s19⟩
                    go_simp
                    with_reducible rfl
                  rotate_left
                  · simp only [Act.put, List.setIfInBounds_toArray, List.set_cons_zero, List.set_cons_succ, i64_w, i32_w]
                    rfl
                  refine pure_ (i := 13) (N := some 72) (v := ?_) (a' := ?_) #[true, true, true, true, true, true, true, true, true, true, true, true, true, true, false] rfl rfl (by kernel_rfl) (fun _ _ _ h => h) (Or.inl ⟨by rfl, ?_⟩) ?_ ?_
                  rotate_left
                  · intro w'
                    go_simp
                    with_reducible rfl
                  rotate_left
                  · simp only [Act.put, List.setIfInBounds_toArray, List.set_cons_zero, List.set_cons_succ, i64_w, i32_w]
                    rfl
                  refine pure_ (i := 14) (N := some 73) (v := ?_) (a' := ?_) #[true, true, true, true, true, true, true, true, true, true, true, true, true, true, true] rfl rfl (by kernel_rfl) (fun _ _ _ h => h) (Or.inl ⟨by rfl, ?_⟩) ?_ ?_
                  rotate_left
                  · intro w'
                    go_simp
                    with_reducible rfl
                  rotate_left
                  · simp only [Act.put, List.setIfInBounds_toArray, List.set_cons_zero, List.set_cons_succ, i64_w, i32_w]
                    rfl
                  refine done_ (by kernel_rfl) ?_
                  obtain ⟨t, et⟩ : ∃ t, neH x y = t := ⟨_, rfl⟩
                  have e17 : (((!(x.f0.f0.f0 == y.f0.f0.f0) || !(x.f0.f0.f1 == y.f0.f0.f1)) || (!(x.f0.f1.toList == y.f0.f1.toList) || (!(x.f0.f2 == y.f0.f2) || (!(x.f0.f3.toList == y.f0.f3.toList) || ((!(x.f0.f4.f0.toList == y.f0.f4.f0.toList) || !(x.f0.f4.f1.toList == y.f0.f4.f1.toList)) || (!(x.f0.f5.f0.toList == y.f0.f5.f0.toList) || !(x.f0.f5.f1.toList == y.f0.f5.f1.toList))))))) || !(x.f1 == y.f1)) = t := et
                  rw [e17]
                  have HET := Aside0.mk et
                  have HS9 := Aside0.mk (HS7.out.on HBw9.out)
                  have hdm := drop_get (show i2 < M.length by rw [HNM.out]; exact hil)
                  have hdl := drop_get (show k < L.length by rw [HNL.out]; exact hkl)
                  rw [HEY.out] at hdm
                  rw [HEX.out] at hdl
                  have hsu := HSU.out
                  rw [hdm, hdl] at hsu
                  cases t with
                  | true =>
                    have HSV := Aside0.mk (show (M.drop i2).Sublist (L.drop (k + 1)) by rw [hdm]; exact sub_step hsu (fun e => by rw [neH_iff.2 e] at et; cases et))
                    clear hdm hdl hsu et e17 HS7 HBw9
                    go_wp2_with fail
                    go_roundw
                    case rel => exact ⟨k + 1, by omega, by simp, HSV, HS9⟩
                    case measure => simp [intOf]; omega
                  | false =>
                    have hxy : x = y := neH_iff.1 et
                    have HSV := Aside0.mk (show (M.drop (i2 + 1)).Sublist (L.drop k) by
                      rw [hdl]
                      refine ((List.sublist_cons_self y (M.drop (i2 + 1))).trans ?_)
                      exact hsu)
                    have hkne : ((k : Int) == (nl : Int)) = false := by simp; omega
                    clear hdm hdl hsu et e17 HS7 HBw9 hxy
                    go_wp2_with fail
                    go_roundw
                    case rel => exact ⟨k, i2 + 1, by omega, by omega, rfl, by simp, HSV, HS9⟩
                    case measure => simp [intOf]; omega
              · have p1 : decide ((i2 : Int) < (nm : Int)) = false := decide_eq_false (by omega)
                have p2 : decide (i2 < nm) = false := decide_eq_false (by omega)
                go_wp2_with fail
                go_loopw [16] (fun s16 wr => ∃ q : Nat, 1 ≤ q ∧ q ≤ 17 ∧ s16 = .int .i64 (q : Int) ∧ Aside0 (St w (fun _ => False) wr [Res.agree w Fo, PBook gp B, RBook gr B, Res.row k42 42 (.slice A5 nl c5) L, Res.row k42 42 (.slice A6 nm c6) M])) (fun s16 _ => (17 - (intOf s16).toNat))
                case atStart => exact ⟨1, by omega, by omega, rfl, HS6⟩
                case round =>
                  obtain ⟨q, hq1, hq, rfl, HS8⟩ := hrel
                  clear HS6
                  by_cases hql : q < 17
                  · have p3 : decide ((q : Int) ≤ 16) = true := decide_eq_true (by omega)
                    have HF1 := Aside0.mk (freshP_at HS8.out 1 rfl HG.out (q : Int) hi_)
                    have hfm := fresh_mono B (q : Int) HLH.out
                    obtain ⟨t, et⟩ : ∃ t, freshB B (q : Int) hi_ = t := ⟨_, rfl⟩
                    rw [et] at HF1 hfm
                    clear et
                    go_wp2_with fail
                    refine HF1.out.mono ?_
                    rintro e w9 ⟨rfl, h9⟩
                    cases t with
                    | false =>
                      have HST9 := Aside0.mk h9
                      clear h9 hfm HF1
                      go_wp2_with fail
                      go_roundw
                      case rel => exact ⟨q + 1, by omega, by omega, by simp, HST9⟩
                      case measure => simp [intOf]; omega
                    | true =>
                      have HF2 := Aside0.mk (freshP_at h9 1 rfl HG.out (q : Int) lo)
                      rw [hfm rfl] at HF2
                      clear h9 hfm HF1
                      go_wp2_with fail
                      refine HF2.out.mono ?_
                      rintro e w10 ⟨rfl, h10⟩
                      have HST10 := Aside0.mk h10
                      clear h10 HF2
                      go_wp2_with fail
                      go_roundw
                      case rel => exact ⟨q + 1, by omega, by omega, by simp, HST10⟩
                      case measure => simp [intOf]; omega
                  · have p3 : decide ((q : Int) ≤ 16) = false := decide_eq_false (by omega)
                    go_wp2_with fail
                    refine (lives_at HS8.out).mono ?_
                    rintro e w9 ⟨rfl, h9⟩
                    have HST9 := Aside0.mk h9
                    clear h9
                    go_wp2_with fail
                    go_ret
                    exact ⟨rfl, HST9.out.below⟩
  · have HN := Aside0.mk (newP_no HST.out a0 ho)
    clear ho
    go_enter Tryd.func4, Tryd.ntmps4
    go_wp2_with fail
    refine HN.out.mono ?_
    rintro e w1 ⟨rfl, h1⟩
    have HST1 := Aside0.mk h1
    clear h1
    go_wp2_with fail
    refine (lives_at HST1.out).mono ?_
    rintro e w7 ⟨rfl, h7⟩
    have HST7 := Aside0.mk h7
    clear h7
    go_wp2_with fail
    go_ret
    exact ⟨rfl, HST7.out.below⟩
end Go.Proofs.YtpdcmdofojckdaaDoor.P
