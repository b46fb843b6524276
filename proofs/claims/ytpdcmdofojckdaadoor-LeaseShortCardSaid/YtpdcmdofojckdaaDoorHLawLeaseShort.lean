/- A law: nothing is held longer than the lease behind its asking, and what is held of a domain is a part of what it answered last. -/
import Derived.Test.YtpdcmdofojckdaaDoorHLaws13
set_option linter.unusedVariables false
set_option linter.unusedSimpArgs false
namespace Go.Proofs.YtpdcmdofojckdaaDoor.P
open Go.RowKit Go.Sort Go.Proofs.YtpdcmdofojckdaaDoor.Pure Go.Proofs.YtpdcmdofojckdaaDoorW.PrintWords Go.Proofs.YtpdcmdofojckdaaDoorW.PrintLast Go.Proofs.YtpdcmdofojckdaaDoorW.PrintMore
attribute [local go_sem high] eqA40
/-- An array of 17 numbers. -/
def LastA (b : Nat) (f : Nat → Int) : Res where
  P := fun ok W => ok b ∧ ∃ cs : Array Value, W.heap[b]? = some (.cells cs 26 (0, 0)) ∧ cs.size = 17 ∧ ∀ j : Nat, j < 17 → cs[j]? = some (Value.int .i64 (f j))
  mono := fun hok h => ⟨hok _ h.1, h.2⟩
  step := fun ⟨h1, cs, h2, h3⟩ hm => ⟨h1, cs, (hm _ h1 (blk_lt h2)).trans h2, h3⟩
  bound := fun ⟨h1, cs, h2, h3⟩ => ⟨⟨h1, blk_lt h2⟩, cs, h2, h3⟩
section
variable {w0 W : World} {S : Nat → Prop} {Rs : List Res} {b : Nat} {f : Nat → Int}
theorem last_new (h : St w0 S W Rs) : St w0 S (W.alloc (.cells #[.int .i64 0, .int .i64 0, .int .i64 0, .int .i64 0, .int .i64 0, .int .i64 0, .int .i64 0, .int .i64 0, .int .i64 0, .int .i64 0, .int .i64 0, .int .i64 0, .int .i64 0, .int .i64 0, .int .i64 0, .int .i64 0, .int .i64 0] 26)) (Rs ++ [LastA W.heap.size (fun _ => 0)]) :=
  h.add (below_alloc (Below.refl _ _) _) ⟨Nat.le_refl _, _, blk_new W _, rfl, fun j hj => by
    match j, hj with
    | 0, _ => rfl
    | 1, _ => rfl
    | 2, _ => rfl
    | 3, _ => rfl
    | 4, _ => rfl
    | 5, _ => rfl
    | 6, _ => rfl
    | 7, _ => rfl
    | 8, _ => rfl
    | 9, _ => rfl
    | 10, _ => rfl
    | 11, _ => rfl
    | 12, _ => rfl
    | 13, _ => rfl
    | 14, _ => rfl
    | 15, _ => rfl
    | 16, _ => rfl
    | q + 17, hj => omega⟩
theorem last_get (h : St w0 S W Rs) (i : Nat) (hi : Rs[i]? = some (LastA b f)) (j : Nat) (hj : j < 17) : W.cell? ⟨b, j, none⟩ = some (.int .i64 (f j)) ∧ W.frozen? ⟨b, j, none⟩ = false := by
  obtain ⟨ok, _, cs, h2, _, h3⟩ := h.get i hi
  exact ⟨(blk_cell h2 j).trans (h3 j hj), blk_frozen h2 j⟩
theorem last_put (h : St w0 S W Rs) (i : Nat) (hi : Rs[i]? = some (LastA b f)) (h0 : i ≠ 0) (j : Nat) (v : Int) : St w0 S (W.setCell ⟨b, j, none⟩ (.int .i64 v)) (Rs.set i (LastA b (fun x => if x = j then v else f x))) := by
  obtain ⟨ok, ⟨hb, cs, h2, h3, h4⟩, hw⟩ := h.write i hi h0
  refine hw ((Keeps.refl W ok).set (p := ⟨b, j, none⟩) (.inl hb) _) ⟨.inl hb, _, blk_set h2 j _, by simp [h3], fun q hq => ?_⟩
  rw [Array.getElem?_setIfInBounds]
  by_cases e : j = q
  · subst e
    rw [if_pos rfl, if_pos (by omega)]
    simp
  · rw [if_neg e, h4 q hq]
    simp [Ne.symm e]
end
theorem less4 {w0 W : World} {S : Nat → Prop} {R0 R1 R2 R3 : Res} {X : List Res} (h : St w0 S W (R0 :: R1 :: R2 :: R3 :: X)) : St w0 S W [R0, R1, R2, R3] := h.less fun i R' hi => by
  match i, hi with
  | 0, hi => cases hi; exact ⟨R0, rfl, fun _ hp => hp⟩
  | 1, hi => cases hi; exact ⟨R1, rfl, fun _ hp => hp⟩
  | 2, hi => cases hi; exact ⟨R2, rfl, fun _ hp => hp⟩
  | 3, hi => cases hi; exact ⟨R3, rfl, fun _ hp => hp⟩
theorem countsC_mem {l : List CS} {x : CS} (h : x ∈ countsC l) : x ∈ l := by
  have h1 := (mem_ddO (sortC l) none x (selS_sorted' ltC_swo default l.length l (Nat.le_refl _)) (fun a ha => by cases ha)).1 h
  exact (selS_perm ltC_swo default l.length l (Nat.le_refl _)).mem_iff.1 (firstC_mem h1.1).1
/-- What the law keeps: of each domain the deed by which it is held. -/
def Kept13 (l : List DD) (i : Nat) (B : Bk) (f : Nat → Int) : Prop := ∀ d : Nat, B.held (d : Int) ≠ [] → ∃ j : Nat, j < i ∧ f d = ((j + 1 : Nat) : Int) ∧ 0 ≤ (l.getD j z29).f2 ∧ (l.getD j z29).f2 ≤ 1099511627776 ∧ ∀ h ∈ B.held (d : Int), h.f0 ∈ ((l.getD j z29).f3).take 40 ∧ h.f1 ≤ (l.getD j z29).f2 + 56
theorem kept_same {l : List DD} {i : Nat} {B B2 : Bk} {f : Nat → Int} (h : Kept13 l i B f) (hh : B2.held = B.held) : Kept13 l (i + 1) B2 f := fun d hd => by
  rw [hh] at hd ⊢
  obtain ⟨j, h1, h2⟩ := h d hd
  exact ⟨j, by omega, h2⟩
theorem learnB_held_ne {B : Bk} {d : Int} {l : List CS} {a : Int} (h : learnE B d l a ≠ 0) : (learnB B d l a).held = B.held := by rw [learnB_ne h]
theorem kept_learn {l : List DD} {i : Nat} {B : Bk} {f : Nat → Int} (h : Kept13 l i B f) {x : DD} (hx : l.getD i z29 = x) {dn : Nat} (hd : x.f1 = (dn : Int)) (he : learnE B x.f1 (x.f3.take 40) x.f2 = 0) : Kept13 l (i + 1) (learnB B x.f1 (x.f3.take 40) x.f2) (fun q => if q = dn then ((i + 1 : Nat) : Int) else f q) := fun d hh => by
  have hm := mayA_iff.1 (learn0 he).1
  rw [learnB_ok he] at hh ⊢
  by_cases e : d = dn
  · subst e
    refine ⟨i, by omega, by simp, by rw [hx]; exact hm.2.2.1, by rw [hx]; exact hm.2.2.2, fun y hy => ?_⟩
    have hy' : y ∈ (if (d : Int) = x.f1 then givesC x.f1 x.f2 (countsC (x.f3.take 40)) else (hearB B x.f1 x.f2).held (d : Int)) := hy
    rw [if_pos hd.symm] at hy'
    obtain ⟨h1, _, h3⟩ := givesC_mem hy'
    rw [hx]
    refine ⟨countsC_mem h1, ?_⟩
    rw [h3]
    unfold addT
    rw [tickT_self hm.2.2.1 hm.2.2.2]
    unfold tickT
    repeat' split
    all_goals omega
  · have hne : ¬ ((d : Int) = x.f1) := by rw [hd]; omega
    have hh' : (if (d : Int) = x.f1 then givesC x.f1 x.f2 (countsC (x.f3.take 40)) else (hearB B x.f1 x.f2).held (d : Int)) ≠ [] := hh
    rw [if_neg hne, hearB_held] at hh'
    obtain ⟨j, h1, h2, h3, h4, h5⟩ := h d hh'
    refine ⟨j, by omega, by simp only [if_neg e]; exact h2, h3, h4, fun y hy => ?_⟩
    have hy' : y ∈ (if (d : Int) = x.f1 then givesC x.f1 x.f2 (countsC (x.f3.take 40)) else (hearB B x.f1 x.f2).held (d : Int)) := hy
    rw [if_neg hne, hearB_held] at hy'
    exact h5 y hy'
theorem over_false {a u : Int} (h : overT a u = false) (h0 : 0 ≤ u) (h1 : u ≤ 1099511627776) : a < u := by
  unfold overT at h
  simp only [Bool.or_eq_false_iff, decide_eq_false_iff_not] at h
  rw [tickT_self h0 h1] at h
  have h2 := h.1
  have h3 := h.2
  unfold tickT at h2 h3
  split at h2
  · omega
  · split at h2
    · exact absurd (by rw [if_neg (by omega), if_pos (by omega)]) h3
    · omega
/-- What is known of one that is held. -/
theorem held_known {B : Bk} (hG : Good13 B) {now : Int} {h : SH} (hh : h ∈ heldL B now) : ∃ d : Nat, 1 ≤ d ∧ d ≤ 16 ∧ (d : Int) ≠ B.own ∧ h.f0.f0.f0 = (d : Int) ∧ h ∈ B.held (d : Int) ∧ now < h.f1 := by
  rw [heldL_all, List.mem_filter] at hh
  obtain ⟨d, h1, h2, h3⟩ := allFrom_mem 16 0 hh.1
  have h4 := hG.dom _ h h3
  have h5 := hG.away (d : Int) (fun e => by rw [e] at h3; cases h3)
  refine ⟨d, by omega, by omega, h5.2.2, h4.1, h3, over_false (by simpa using hh.2) h4.2.1 h4.2.2⟩
/-- What the program's comparison of two credentials comes to. -/
def eqC (x y : CS) : Bool := ((x.f0.f0 == y.f0.f0 && (x.f0.f1 == y.f0.f1)) && (x.f1.toList == y.f1.toList && (x.f2 == y.f2 && (x.f3.toList == y.f3.toList && ((x.f4.f0.toList == y.f4.f0.toList && (x.f4.f1.toList == y.f4.f1.toList)) && ((x.f5.f0.toList == y.f5.f0.toList && (x.f5.f1.toList == y.f5.f1.toList))))))))
theorem eqC_iff {x y : CS} : eqC x y = true ↔ x = y := by
  obtain ⟨⟨a, b⟩, c, d, e, ⟨f, g⟩, ⟨h, i⟩⟩ := x
  obtain ⟨⟨a', b'⟩, c', d', e', ⟨f', g'⟩, ⟨h', i'⟩⟩ := y
  unfold eqC
  simp only [Bool.and_eq_true, beq_iff_eq, toList_iff]
  constructor
  · rintro ⟨⟨rfl, rfl⟩, rfl, rfl, rfl, ⟨rfl, rfl⟩, ⟨rfl, rfl⟩⟩
    rfl
  · intro h
    injection h with h3 h4 h5 h6 h7 h8
    injection h3 with h9 h10
    injection h7 with h11 h12
    injection h8 with h13 h14
    exact ⟨⟨h9, h10⟩, h4, h5, h6, ⟨h11, h12⟩, ⟨h13, h14⟩⟩
theorem any_take {l : List CS} {y : CS} {k : Nat} (h : k < l.length) : (l.take (k + 1)).any (fun x => eqC x y) = ((l.take k).any (fun x => eqC x y) || eqC (l.getD k default) y) := by
  rw [List.take_succ_eq_append_getElem h, List.any_append, List.getD_eq_getElem?_getD, List.getElem?_eq_getElem h]
  simp
theorem F_cred {W W' : World} {Fo : Nat → Prop} {A : Option Addr} {l : List CS} (h : FC W Fo A l) (hW : Agree W Fo W') (k : Nat) (hk : k < l.length) {x : CS} (hx : l.getD k default = x) : ∃ ad, A = some ad ∧ At9 W' (ad.add (k * 9)) x := by
  obtain ⟨ad, e, h1⟩ := at_cred (h W' hW) k hk
  rw [hx] at h1
  exact ⟨ad, e, h1⟩
set_option maxHeartbeats 32000000 in
set_option maxRecDepth 100000 in
theorem liverylaw13_LeaseShort.walk (a0 : Int) (A1 : Option Addr) (c1 : Nat) (l1 : List S29) (a2 : Int) (w : World) (w0 : (Lit.int .i64 a0).wf = true) (w1 : (l1.length ≤ maxLen ∧ l1.length * 48 ≤ 140737488351232 ∧ ∀ y0 ∈ l1, q29 y0)) (hr1 : Kd.C k29 w A1 l1.length l1) (hc1 : l1.length ≤ c1) (w2 : (Lit.int .i64 a2).wf = true) :
    Calls Tryd.prog 3 #[.int .i64 a0, .slice A1 l1.length c1, .int .i64 a2] w fun e w' => e = .returned (.bool true) ∧ Below w.heap.size w w' := by
  obtain ⟨Fo, hF, hst⟩ := law_st hr1
  have HD := Aside0.mk hF
  have HST := Aside0.mk hst
  have hml := w1.1
  clear hF hst w1 w2 w0 hr1
  have hu := Tryd.underlying29
  have hu1 := Tryd.underlying40
  have hu2 := Tryd.underlying36
  have hu3 := Tryd.underlying42
  by_cases ho : 1 ≤ a0 ∧ a0 ≤ 16
  · have HO := Aside0.mk ho
    clear ho
    go_enter Tryd.func3, Tryd.ntmps3
    go_wp2_with fail
    refine (newP_at HST.out a0 HO.out).mono ?_
    rintro e w1 ⟨gp, rfl, h1⟩
    have HST1 := Aside0.mk (show St w (fun _ => False) w1 [Res.agree w Fo, PBook gp (bk0 a0)] from h1)
    clear h1
    go_wp2_with fail
    obtain ⟨bl, ebl⟩ : ∃ bl, bl = w1.heap.size := ⟨_, rfl⟩
    have h2 := last_new HST1.out
    rw [← ebl] at h2 ⊢
    have HST2 := Aside0.mk (show St w (fun _ => False) (w1.alloc (.cells #[.int .i64 0, .int .i64 0, .int .i64 0, .int .i64 0, .int .i64 0, .int .i64 0, .int .i64 0, .int .i64 0, .int .i64 0, .int .i64 0, .int .i64 0, .int .i64 0, .int .i64 0, .int .i64 0, .int .i64 0, .int .i64 0, .int .i64 0] 26)) [Res.agree w Fo, PBook gp (bk0 a0), LastA bl (fun _ => 0)] from h2)
    clear h2 ebl HST1
    go_loopw [9] (fun s9 wr => ∃ (i : Nat) (B : Bk) (f : Nat → Int), i ≤ l1.length ∧ i ≤ 20 ∧ s9 = .int .i64 (i : Int) ∧ Aside0 (Good13 B ∧ B.own = a0 ∧ Kept13 l1 i B f) ∧ Aside0 (St w (fun _ => False) wr [Res.agree w Fo, PBook gp B, LastA bl f])) (fun s9 _ => (21 - (intOf s9).toNat))
    case atStart => exact ⟨0, bk0 a0, fun _ => 0, by omega, by omega, rfl, ⟨⟨good0 HO.out, rfl, fun d hd => absurd rfl hd⟩⟩, HST2⟩
    case round =>
      obtain ⟨i, B, f, hi, hi20, rfl, HG, HSR⟩ := hrel
      clear HST HST2
      by_cases hgo : i < l1.length ∧ i < 20
      · obtain ⟨hlt, h20⟩ := hgo
        have b1 : decide ((i : Int) < (l1.length : Int)) = true := decide_eq_true (by omega)
        have b2 : decide ((i : Int) < 20) = true := decide_eq_true (by omega)
        have b3 : decide (i < l1.length) = true := decide_eq_true hlt
        obtain ⟨ad, A4, c4, x, eA, hmem, hx0, hx1, hx2, hx3, l4, g4⟩ := deed_at HD.out i hlt
        subst eA
        obtain ⟨k, d, s, l, e0, e1, e2, e3⟩ : ∃ k d s l, x.f0 = k ∧ x.f1 = d ∧ x.f2 = s ∧ x.f3 = l := ⟨_, _, _, _, rfl, rfl, rfl, rfl⟩
        rw [e0] at hx0
        rw [e1] at hx1
        rw [e2] at hx2
        rw [e3] at hx3 l4 g4
        replace hx0 := pw_cell_below HSR.out.below hx0
        replace hx1 := pw_cell_below HSR.out.below hx1
        replace hx2 := pw_cell_below HSR.out.below hx2
        replace hx3 := pw_cell_below HSR.out.below hx3
        have HCL := Aside0.mk (show ∀ W', Agree w Fo W' → k40.C W' A4 (l.take 40).length (l.take 40) from fun W' h => C_cut (g4 W' h))
        obtain ⟨lc, elc⟩ : ∃ lc, l.take 40 = lc := ⟨_, rfl⟩
        have hlc : lc.length = min 40 l.length := by rw [← elc, List.length_take]
        rw [elc] at HCL
        have HMM := Aside0.mk hmem.symm
        have HXD := Aside0.mk (show x.f1 = d ∧ x.f2 = s ∧ x.f3.take 40 = lc from ⟨e1, e2, by rw [e3]; exact elc⟩)
        clear e0 e1 e2 e3 hmem g4 elc
        by_cases h40 : 40 < l.length
        · have h1 : decide ((40 : Int) < (l.length : Int)) = true := decide_eq_true (by omega)
          have hlcc : (40 : Int) ≤ (c4 : Int) := by omega
          have hln : lc.length = 40 := by omega
          have HLN := Aside0.mk hln
          rw [hln] at HCL
          have HLT := Aside0.mk (show 40 ≤ c4 ∧ 40 ≤ 40 by omega)
          clear h40 hlc hln
          have hstA := blk_add HSR.out (.cells #[.int .i64 k, .int .i64 d, .int .i64 s, .slice A4 40 c4] 29)
          have HSA := Aside0.mk (show St w (fun _ => False) (wr.alloc (.cells #[.int .i64 k, .int .i64 d, .int .i64 s, .slice A4 40 c4] 29)) [Res.agree w Fo, PBook gp B, LastA bl f, Res.blk wr.heap.size (.cells #[.int .i64 k, .int .i64 d, .int .i64 s, .slice A4 40 c4] 29 (0, 0))] from hstA)
          clear hstA
          by_cases hk1 : k = 1
          · have hkb : (k == 1) = true := by simp [hk1]
            clear hk1
            go_wp2_with fail
            refine (hearP_at HSA.out 1 rfl (by decide) d s).mono ?_
            rintro e w5 ⟨rfl, h5⟩
            have HST5 := Aside0.mk (less3 h5)
            have HG2 := Aside0.mk (show Good13 (hearB B d s) ∧ (hearB B d s).own = a0 ∧ Kept13 l1 (i + 1) (hearB B d s) f from ⟨HG.out.1.hear d s, by rw [hearB_own]; exact HG.out.2.1, kept_same HG.out.2.2 (hearB_held B d s)⟩)
            clear h5 hx0 hx1 hx2 hx3 HSR HSA HG
            go_wp2_with fail
            go_roundw
            case rel => exact ⟨i + 1, _, f, by omega, by omega, by simp, HG2, HST5⟩
            case measure => simp [intOf]; omega
          · have hkb : (k == 1) = false := by simp [hk1]
            clear hk1
            have HLR := Aside0.mk (learnP_at HSA.out 1 rfl (by decide) HG.out.1 d (c := c4) s HLN.out (HCL.out _ (agree_of HSA.out)) HLT.out)
            have hgd := (HG.out.1.learn d lc s)
            obtain ⟨e0, ee0⟩ : ∃ e0, learnE B d lc s = e0 := ⟨_, rfl⟩
            rw [ee0] at HLR
            by_cases hz : e0 = 0
            · have hkl := kept_learn HG.out.2.2 HMM.out (dn := d.toNat) (by
                rw [HXD.out.1]
                have := mayA_iff.1 (learn0 (by rw [ee0, hz] : learnE B d lc s = 0)).1
                omega) (by rw [HXD.out.1, HXD.out.2.1, HXD.out.2.2]; rw [ee0, hz])
              rw [HXD.out.1, HXD.out.2.1, HXD.out.2.2] at hkl
              have hdr := (mayA_iff.1 (learn0 (by rw [ee0, hz] : learnE B d lc s = 0)).1).2.1
              subst hz
              obtain ⟨dn, rfl⟩ : ∃ dn : Nat, d = (dn : Int) := ⟨d.toNat, by omega⟩
              rw [Int.toNat_natCast] at hkl
              have HKL := Aside0.mk hkl
              have HGD := Aside0.mk hgd
              have hdn1 : 1 ≤ dn := by omega
              have hdn2 : dn ≤ 16 := by omega
              clear hkl hgd ee0 hdr
              have HOW := Aside0.mk (show (learnB B (dn : Int) lc s).own = a0 by
                unfold learnB
                split
                · show (hearB B (dn : Int) s).own = a0
                  rw [hearB_own]; exact HG.out.2.1
                · exact HG.out.2.1)
              go_wp2_with fail
              refine HLR.out.mono ?_
              rintro e w5 ⟨rfl, h5⟩
              have HST5 := Aside0.mk (less3 h5)
              have hzd := cell_blk (blk_see h5 3 rfl) 1 rfl
              obtain ⟨hy, hyz⟩ := last_get HST5.out 2 rfl dn (by omega)
              have q1 : decide ((0 : Int) ≤ (dn : Int)) = true := decide_eq_true (by omega)
              have q2 : decide ((dn : Int) < 17) = true := decide_eq_true (by omega)
              have q3 : decide (dn < 17) = true := decide_eq_true (by omega)
              have HST6 := Aside0.mk (last_put HST5.out 2 rfl (by decide) dn ((i + 1 : Nat) : Int))
              clear h5 hx0 hx1 hx2 hx3 HSR HSA HG HLR HST5
              go_wp2_with fail
              go_roundw
              case rel => exact ⟨i + 1, _, _, by omega, by omega, by simp, ⟨⟨HGD.out, HOW.out, HKL.out⟩⟩, HST6⟩
              case measure => simp [intOf]; omega
            · have hzb : (e0 == 0) = false := by simp [hz]
              have HG2 := Aside0.mk (show Good13 B ∧ B.own = a0 ∧ Kept13 l1 (i + 1) B f from ⟨HG.out.1, HG.out.2.1, kept_same HG.out.2.2 rfl⟩)
              have hlb := learnB_ne (B := B) (d := d) (l := lc) (asked := s) (by rw [ee0]; exact hz)
              rw [hlb] at HLR
              clear hgd hlb ee0 hz
              go_wp2_with fail
              refine HLR.out.mono ?_
              rintro e w5 ⟨rfl, h5⟩
              have HST5 := Aside0.mk (less3 h5)
              clear h5 hx0 hx1 hx2 hx3 HSR HSA HG HLR
              go_wp2_with fail
              go_roundw
              case rel => exact ⟨i + 1, B, f, by omega, by omega, by simp, HG2, HST5⟩
              case measure => simp [intOf]; omega
        · have h1 : decide ((40 : Int) < (l.length : Int)) = false := decide_eq_false (by omega)
          obtain ⟨n, en⟩ : ∃ n, l.length = n := ⟨_, rfl⟩
          have hln : lc.length = n := by omega
          have HLN := Aside0.mk hln
          rw [hln] at HCL
          rw [en] at hx3 l4 h1
          have HLT := Aside0.mk (show n ≤ c4 ∧ n ≤ 40 by omega)
          clear h40 hlc hln en
          have hstA := blk_add HSR.out (.cells #[.int .i64 k, .int .i64 d, .int .i64 s, .slice A4 n c4] 29)
          have HSA := Aside0.mk (show St w (fun _ => False) (wr.alloc (.cells #[.int .i64 k, .int .i64 d, .int .i64 s, .slice A4 n c4] 29)) [Res.agree w Fo, PBook gp B, LastA bl f, Res.blk wr.heap.size (.cells #[.int .i64 k, .int .i64 d, .int .i64 s, .slice A4 n c4] 29 (0, 0))] from hstA)
          clear hstA
          by_cases hk1 : k = 1
          · have hkb : (k == 1) = true := by simp [hk1]
            clear hk1
            go_wp2_with fail
            refine (hearP_at HSA.out 1 rfl (by decide) d s).mono ?_
            rintro e w5 ⟨rfl, h5⟩
            have HST5 := Aside0.mk (less3 h5)
            have HG2 := Aside0.mk (show Good13 (hearB B d s) ∧ (hearB B d s).own = a0 ∧ Kept13 l1 (i + 1) (hearB B d s) f from ⟨HG.out.1.hear d s, by rw [hearB_own]; exact HG.out.2.1, kept_same HG.out.2.2 (hearB_held B d s)⟩)
            clear h5 hx0 hx1 hx2 hx3 HSR HSA HG
            go_wp2_with fail
            go_roundw
            case rel => exact ⟨i + 1, _, f, by omega, by omega, by simp, HG2, HST5⟩
            case measure => simp [intOf]; omega
          · have hkb : (k == 1) = false := by simp [hk1]
            clear hk1
            have HLR := Aside0.mk (learnP_at HSA.out 1 rfl (by decide) HG.out.1 d (c := c4) s HLN.out (HCL.out _ (agree_of HSA.out)) HLT.out)
            have hgd := (HG.out.1.learn d lc s)
            obtain ⟨e0, ee0⟩ : ∃ e0, learnE B d lc s = e0 := ⟨_, rfl⟩
            rw [ee0] at HLR
            by_cases hz : e0 = 0
            · have hkl := kept_learn HG.out.2.2 HMM.out (dn := d.toNat) (by
                rw [HXD.out.1]
                have := mayA_iff.1 (learn0 (by rw [ee0, hz] : learnE B d lc s = 0)).1
                omega) (by rw [HXD.out.1, HXD.out.2.1, HXD.out.2.2]; rw [ee0, hz])
              rw [HXD.out.1, HXD.out.2.1, HXD.out.2.2] at hkl
              have hdr := (mayA_iff.1 (learn0 (by rw [ee0, hz] : learnE B d lc s = 0)).1).2.1
              subst hz
              obtain ⟨dn, rfl⟩ : ∃ dn : Nat, d = (dn : Int) := ⟨d.toNat, by omega⟩
              rw [Int.toNat_natCast] at hkl
              have HKL := Aside0.mk hkl
              have HGD := Aside0.mk hgd
              have hdn1 : 1 ≤ dn := by omega
              have hdn2 : dn ≤ 16 := by omega
              clear hkl hgd ee0 hdr
              have HOW := Aside0.mk (show (learnB B (dn : Int) lc s).own = a0 by
                unfold learnB
                split
                · show (hearB B (dn : Int) s).own = a0
                  rw [hearB_own]; exact HG.out.2.1
                · exact HG.out.2.1)
              go_wp2_with fail
              refine HLR.out.mono ?_
              rintro e w5 ⟨rfl, h5⟩
              have HST5 := Aside0.mk (less3 h5)
              have hzd := cell_blk (blk_see h5 3 rfl) 1 rfl
              obtain ⟨hy, hyz⟩ := last_get HST5.out 2 rfl dn (by omega)
              have q1 : decide ((0 : Int) ≤ (dn : Int)) = true := decide_eq_true (by omega)
              have q2 : decide ((dn : Int) < 17) = true := decide_eq_true (by omega)
              have q3 : decide (dn < 17) = true := decide_eq_true (by omega)
              have HST6 := Aside0.mk (last_put HST5.out 2 rfl (by decide) dn ((i + 1 : Nat) : Int))
              clear h5 hx0 hx1 hx2 hx3 HSR HSA HG HLR HST5
              go_wp2_with fail
              go_roundw
              case rel => exact ⟨i + 1, _, _, by omega, by omega, by simp, ⟨⟨HGD.out, HOW.out, HKL.out⟩⟩, HST6⟩
              case measure => simp [intOf]; omega
            · have hzb : (e0 == 0) = false := by simp [hz]
              have HG2 := Aside0.mk (show Good13 B ∧ B.own = a0 ∧ Kept13 l1 (i + 1) B f from ⟨HG.out.1, HG.out.2.1, kept_same HG.out.2.2 rfl⟩)
              have hlb := learnB_ne (B := B) (d := d) (l := lc) (asked := s) (by rw [ee0]; exact hz)
              rw [hlb] at HLR
              clear hgd hlb ee0 hz
              go_wp2_with fail
              refine HLR.out.mono ?_
              rintro e w5 ⟨rfl, h5⟩
              have HST5 := Aside0.mk (less3 h5)
              clear h5 hx0 hx1 hx2 hx3 HSR HSA HG HLR
              go_wp2_with fail
              go_roundw
              case rel => exact ⟨i + 1, B, f, by omega, by omega, by simp, HG2, HST5⟩
              case measure => simp [intOf]; omega
      · by_cases hlt : i < l1.length
        · have e20 : i = 20 := by omega
          subst e20
          have b1 : decide ((20 : Int) < (l1.length : Int)) = true := decide_eq_true (by omega)
          clear hgo
          have HP := Aside0.mk (heldP_at HSR.out 1 rfl HG.out.1 a2)
          have HL1 := Aside0.mk (heldL_length HG.out.1 a2)
          have HKN := Aside0.mk (fun (h : SH) (hh : h ∈ heldL B a2) => held_known HG.out.1 hh)
          have HIL := Aside0.mk hi
          obtain ⟨L, eL⟩ : ∃ L, heldL B a2 = L := ⟨_, rfl⟩
          rw [eL] at HP HL1 HKN
          clear eL
          go_wp2_with fail
          refine HP.out.mono ?_
          rintro e w4 ⟨A5, c5, rfl, hc5, hC5, h4⟩
          obtain ⟨nl, enl⟩ : ∃ nl, L.length = nl := ⟨_, rfl⟩
          have HNL := Aside0.mk enl
          have hnl : nl ≤ 384 := by rw [← enl]; exact HL1.out
          have HST4 := Aside0.mk (show St w (fun _ => False) w4 [Res.agree w Fo, PBook gp B, LastA bl f, Res.row k42 42 (.slice A5 nl c5) L] by rw [← enl]; exact h4)
          rw [enl] at hc5 ⊢
          clear h4 hC5 HP enl HSR
          go_wp2_with fail
          go_loopw [12] (fun s12 wr => ∃ i2 : Nat, i2 ≤ nl ∧ s12 = .int .i64 (i2 : Int) ∧ Aside0 (St w (fun _ => False) wr [Res.agree w Fo, PBook gp B, LastA bl f, Res.row k42 42 (.slice A5 nl c5) L])) (fun s12 _ => (nl - (intOf s12).toNat))
          case atStart => exact ⟨0, by omega, rfl, HST4⟩
          case round =>
            obtain ⟨i2, hi2, rfl, HS5⟩ := hrel
            clear HST4
            by_cases hil : i2 < nl
            · have p1 : decide ((i2 : Int) < (nl : Int)) = true := decide_eq_true (by omega)
              have p2 : decide (i2 < nl) = true := decide_eq_true hil
              have HI2 := Aside0.mk hil
              obtain ⟨ad5, eA5, _⟩ := at_held (by have := row_C HS5.out 3 rfl; rwa [HNL.out] at this) i2 hil
              subst eA5
              obtain ⟨h, eh⟩ : ∃ h, L.getD i2 default = h := ⟨_, rfl⟩
              have HEH := Aside0.mk eh
              have hmem : h ∈ L := by
                rw [← eh, List.getD_eq_getElem?_getD, List.getElem?_eq_getElem (by rw [HNL.out]; exact hil)]
                exact List.getElem_mem _
              have hy0 := (row_at10 HS5.out 3 rfl i2 (by rw [HNL.out]; exact hil) eh).1
              obtain ⟨dn, hdn1, hdn2, hdno, hdnh, hdnm, hnow⟩ := HKN.out h hmem
              obtain ⟨j, hji, hfj, ha0, ha1, hall⟩ := HG.out.2.2 dn (fun e => by rw [e] at hdnm; cases hdnm)
              have hjl : j < l1.length := by have := HIL.out; omega
              obtain ⟨ad1, A4, c4, x, eA, hmx, hx0, hx1, hx2, hx3, l4, g4⟩ := deed_at HD.out j hjl
              rw [← hmx] at ha0 ha1 hall
              subst eA
              have hlast := last_get HS5.out 2 rfl dn (by omega)
              rw [hfj] at hlast
              obtain ⟨hl0, hl1⟩ := hlast
              obtain ⟨k, d, s, l, e0, e1, e2, e3⟩ : ∃ k d s l, x.f0 = k ∧ x.f1 = d ∧ x.f2 = s ∧ x.f3 = l := ⟨_, _, _, _, rfl, rfl, rfl, rfl⟩
              rw [e0] at hx0
              rw [e1] at hx1
              rw [e2] at hx2 ha0 ha1 hall
              rw [e3] at hx3 l4 g4 hall
              obtain ⟨hin, hun⟩ := hall h hdnm
              replace hx0 := pw_cell_below HS5.out.below hx0
              replace hx1 := pw_cell_below HS5.out.below hx1
              replace hx2 := pw_cell_below HS5.out.below hx2
              replace hx3 := pw_cell_below HS5.out.below hx3
              rw [hdnh] at hy0
              have HGF := Aside0.mk g4
              have HIN := Aside0.mk hin
              have HUN := Aside0.mk (And.intro hun (And.intro hnow (And.intro ha0 ha1)))
              have t1 : decide ((dn : Int) < 1) = false := decide_eq_false (by omega)
              have t2 : decide ((16 : Int) < (dn : Int)) = false := decide_eq_false (by omega)
              have t3 : ((dn : Int) == a0) = false := by rw [HG.out.2.1] at hdno; simpa using hdno
              have t4 : (((j + 1 : Nat) : Int) == 0) = false := by simp; omega
              have t4' : (((j : Int) + 1) == 0) = false := by simp; omega
              have t5 : decide ((j : Int) < (l1.length : Int)) = true := decide_eq_true (by omega)
              have t6 : decide (j < l1.length) = true := decide_eq_true hjl
              obtain ⟨n4, en4⟩ : ∃ n4, l.length = n4 := ⟨_, rfl⟩
              rw [en4] at hx3 l4
              have HN4 := Aside0.mk en4
              clear e0 e1 e2 e3 hmx g4 hin hun hnow hdno hdnh hdnm hall hmem eh hfj en4 ha0 ha1
              go_wp2_with fail
              obtain ⟨bx, ebx⟩ : ∃ bx, bx = wr.heap.size := ⟨_, rfl⟩
              have hst6 := blk_add HS5.out (.cells #[.int .i64 k, .int .i64 d, .int .i64 s, .slice A4 n4 c4] 29)
              rw [← ebx] at hst6 ⊢
              have HST6 := Aside0.mk (show St w (fun _ => False) (wr.alloc (.cells #[.int .i64 k, .int .i64 d, .int .i64 s, .slice A4 n4 c4] 29)) [Res.agree w Fo, PBook gp B, LastA bl f, Res.row k42 42 (.slice (some ad5) nl c5) L, Res.blk bx (.cells #[.int .i64 k, .int .i64 d, .int .i64 s, .slice A4 n4 c4] 29 (0, 0))] from hst6)
              clear hst6 ebx hy0 hl0 hl1 hx0 hx1 hx2 hx3 HS5 t1 t2 t3 t4 t4' t5 t6
              go_loopw [15, 16] (fun s15 s16 wr => ∃ k2 : Nat, k2 ≤ n4 ∧ k2 ≤ 40 ∧ s15 = .bool ((l.take k2).any fun x => eqC x h.f0) ∧ s16 = .int .i64 (k2 : Int) ∧ Aside0 (St w (fun _ => False) wr [Res.agree w Fo, PBook gp B, LastA bl f, Res.row k42 42 (.slice (some ad5) nl c5) L, Res.blk bx (.cells #[.int .i64 k, .int .i64 d, .int .i64 s, .slice A4 n4 c4] 29 (0, 0))])) (fun _ s16 _ => (41 - (intOf s16).toNat))
              case atStart => exact ⟨0, by omega, by omega, rfl, rfl, HST6⟩
              case round =>
                obtain ⟨k2, hk2, hk40, rfl, rfl, HS7⟩ := hrel
                clear HST6
                obtain ⟨w8, e8⟩ : ∃ w8, w8 = wr := ⟨_, rfl⟩
                have hb3 := cell_blk (blk_see HS7.out 4 rfl) 3 rfl
                by_cases hgo2 : k2 < n4 ∧ k2 < 40
                · obtain ⟨hk, hk4⟩ := hgo2
                  have u1 : decide ((k2 : Int) < (n4 : Int)) = true := decide_eq_true (by omega)
                  have u2 : decide ((k2 : Int) < 40) = true := decide_eq_true (by omega)
                  have u3 : decide (k2 < n4) = true := decide_eq_true hk
                  have hany := any_take (l := l) (y := h.f0) (k := k2) (by rw [HN4.out]; exact hk)
                  obtain ⟨x, ex⟩ : ∃ x, l.getD k2 default = x := ⟨_, rfl⟩
                  obtain ⟨ad4, eA4, hat⟩ := F_cred HGF.out (agree_of HS7.out) k2 (by rw [HN4.out]; exact hk) ex
                  rw [← e8] at hat
                  have HAT := Aside0.mk hat
                  rw [ex] at hany
                  obtain ⟨t0, et0⟩ : ∃ t0, ((l.take k2).any fun x => eqC x h.f0) = t0 := ⟨_, rfl⟩
                  rw [et0] at hany ⊢
                  have HANY := Aside0.mk hany
                  clear hany ex hat et0
                  subst eA4
                  cases t0 with
                  | true =>
                    go_wp2_with fail
                    rw [← e8] at HS7 ⊢
                    clear e8
                    obtain ⟨w9, e_w9⟩ : ∃ w_, w_ = World.drew w8 := ⟨_, rfl⟩
                    have HBw9 := Aside0.mk (show Below (World.heap w8).size w8 w9 by rw [e_w9]; exact below_drew (Below.refl _ _))
                    refine start_ (n := 15) (S := fun w' => True) (ds := []) #[false, false, false, false, false, false, false, false, false, false, false, false, false, false, false] (by kernel_rfl) rfl rfl trivial (fun hHeld => ?_)
                    rw [← e_w9]
                    clear e_w9
                    refine pure_ (i := 0) (N := some 118) (v := ?_) (a' := ?_) #[true, false, false, false, false, false, false, false, false, false, false, false, false, false, false] rfl rfl (by kernel_rfl) (fun _ _ _ h => h) (Or.inl ⟨by rfl, ?_⟩) ?_ ?_
                    rotate_left
                    · intro w'
                      go_simp
                      with_reducible rfl
                    rotate_left
                    · simp only [Act.put, List.setIfInBounds_toArray, List.set_cons_zero, List.set_cons_succ, i64_w, i32_w]
                      rfl
                    refine pure_ (i := 1) (N := some 119) (v := ?_) (a' := ?_) #[true, true, false, false, false, false, false, false, false, false, false, false, false, false, false] rfl rfl (by kernel_rfl) (fun _ _ _ h => h) (Or.inl ⟨by rfl, ?_⟩) ?_ ?_
                    rotate_left
                    · intro w'
                      go_simp
                      with_reducible rfl
                    rotate_left
                    · simp only [Act.put, List.setIfInBounds_toArray, List.set_cons_zero, List.set_cons_succ, i64_w, i32_w]
                      rfl
                    refine pure_ (i := 2) (N := some 120) (v := undef) (a' := ?_) #[true, true, true, false, false, false, false, false, false, false, false, false, false, false, false] rfl rfl (by kernel_rfl) (fun _ _ _ h => h) (Or.inr ⟨by rfl, rfl⟩) ?_ ?_
                    rotate_left
                    · simp only [Act.put, List.setIfInBounds_toArray, List.set_cons_zero, List.set_cons_succ, i64_w, i32_w]
                      rfl
                    refine pure_ (i := 3) (N := some 121) (v := undef) (a' := ?_) #[true, true, true, true, false, false, false, false, false, false, false, false, false, false, false] rfl rfl (by kernel_rfl) (fun _ _ _ h => h) (Or.inr ⟨by rfl, rfl⟩) ?_ ?_
                    rotate_left
                    · simp only [Act.put, List.setIfInBounds_toArray, List.set_cons_zero, List.set_cons_succ, i64_w, i32_w]
                      rfl
                    refine pure_ (i := 4) (N := some 122) (v := undef) (a' := ?_) #[true, true, true, true, true, false, false, false, false, false, false, false, false, false, false] rfl rfl (by kernel_rfl) (fun _ _ _ h => h) (Or.inr ⟨by rfl, rfl⟩) ?_ ?_
                    rotate_left
                    · simp only [Act.put, List.setIfInBounds_toArray, List.set_cons_zero, List.set_cons_succ, i64_w, i32_w]
                      rfl
                    refine pure_ (i := 5) (N := some 123) (v := undef) (a' := ?_) #[true, true, true, true, true, true, false, false, false, false, false, false, false, false, false] rfl rfl (by kernel_rfl) (fun _ _ _ h => h) (Or.inr ⟨by rfl, rfl⟩) ?_ ?_
                    rotate_left
                    · simp only [Act.put, List.setIfInBounds_toArray, List.set_cons_zero, List.set_cons_succ, i64_w, i32_w]
                      rfl
                    refine pure_ (i := 6) (N := some 124) (v := undef) (a' := ?_) #[true, true, true, true, true, true, true, false, false, false, false, false, false, false, false] rfl rfl (by kernel_rfl) (fun _ _ _ h => h) (Or.inr ⟨by rfl, rfl⟩) ?_ ?_
                    rotate_left
                    · simp only [Act.put, List.setIfInBounds_toArray, List.set_cons_zero, List.set_cons_succ, i64_w, i32_w]
                      rfl
                    refine pure_ (i := 7) (N := some 125) (v := undef) (a' := ?_) #[true, true, true, true, true, true, true, true, false, false, false, false, false, false, false] rfl rfl (by kernel_rfl) (fun _ _ _ h => h) (Or.inr ⟨by rfl, rfl⟩) ?_ ?_
                    rotate_left
                    · simp only [Act.put, List.setIfInBounds_toArray, List.set_cons_zero, List.set_cons_succ, i64_w, i32_w]
                      rfl
                    refine pure_ (i := 8) (N := some 126) (v := undef) (a' := ?_) #[true, true, true, true, true, true, true, true, true, false, false, false, false, false, false] rfl rfl (by kernel_rfl) (fun _ _ _ h => h) (Or.inr ⟨by rfl, rfl⟩) ?_ ?_
                    rotate_left
                    · simp only [Act.put, List.setIfInBounds_toArray, List.set_cons_zero, List.set_cons_succ, i64_w, i32_w]
                      rfl
                    refine pure_ (i := 9) (N := some 127) (v := undef) (a' := ?_) #[true, true, true, true, true, true, true, true, true, true, false, false, false, false, false] rfl rfl (by kernel_rfl) (fun _ _ _ h => h) (Or.inr ⟨by rfl, rfl⟩) ?_ ?_
                    rotate_left
                    · simp only [Act.put, List.setIfInBounds_toArray, List.set_cons_zero, List.set_cons_succ, i64_w, i32_w]
                      rfl
                    refine pure_ (i := 10) (N := some 128) (v := undef) (a' := ?_) #[true, true, true, true, true, true, true, true, true, true, true, false, false, false, false] rfl rfl (by kernel_rfl) (fun _ _ _ h => h) (Or.inr ⟨by rfl, rfl⟩) ?_ ?_
                    rotate_left
                    · simp only [Act.put, List.setIfInBounds_toArray, List.set_cons_zero, List.set_cons_succ, i64_w, i32_w]
                      rfl
                    refine pure_ (i := 11) (N := some 129) (v := undef) (a' := ?_) #[true, true, true, true, true, true, true, true, true, true, true, true, false, false, false] rfl rfl (by kernel_rfl) (fun _ _ _ h => h) (Or.inr ⟨by rfl, rfl⟩) ?_ ?_
                    rotate_left
                    · simp only [Act.put, List.setIfInBounds_toArray, List.set_cons_zero, List.set_cons_succ, i64_w, i32_w]
                      rfl
                    refine pure_ (i := 12) (N := some 130) (v := undef) (a' := ?_) #[true, true, true, true, true, true, true, true, true, true, true, true, true, false, false] rfl rfl (by kernel_rfl) (fun _ _ _ h => h) (Or.inr ⟨by rfl, rfl⟩) ?_ ?_
                    rotate_left
                    · simp only [Act.put, List.setIfInBounds_toArray, List.set_cons_zero, List.set_cons_succ, i64_w, i32_w]
                      rfl
                    refine pure_ (i := 13) (N := some 131) (v := ?_) (a' := ?_) #[true, true, true, true, true, true, true, true, true, true, true, true, true, true, false] rfl rfl (by kernel_rfl) (fun _ _ _ h => h) (Or.inl ⟨by rfl, ?_⟩) ?_ ?_
                    rotate_left
                    · intro w'
                      go_simp
                      with_reducible rfl
                    rotate_left
                    · simp only [Act.put, List.setIfInBounds_toArray, List.set_cons_zero, List.set_cons_succ, i64_w, i32_w]
                      rfl
                    refine pure_ (i := 14) (N := some 15) (v := ?_) (a' := ?_) #[true, true, true, true, true, true, true, true, true, true, true, true, true, true, true] rfl rfl (by kernel_rfl) (fun _ _ _ h => h) (Or.inl ⟨by rfl, ?_⟩) ?_ ?_
                    rotate_left
                    · intro w'
                      go_simp
                      with_reducible rfl
                    rotate_left
                    · simp only [Act.put, List.setIfInBounds_toArray, List.set_cons_zero, List.set_cons_succ, i64_w, i32_w]
                      rfl
                    refine done_ (by kernel_rfl) ?_
                    have HS9 := Aside0.mk (HS7.out.on HBw9.out)
                    clear HBw9 HS7 hb3
                    go_wp2_with fail
                    go_roundw
                    case rel => exact ⟨k2 + 1, by omega, by omega, by rw [HANY.out]; rfl, by simp, HS9⟩
                    case measure => simp [intOf]; omega
                  | false =>
                    go_wp2_with fail
                    rw [← e8] at HS7 ⊢
                    clear e8
                    obtain ⟨w9, e_w9⟩ : ∃ w_, w_ = World.drew w8 := ⟨_, rfl⟩
                    have HBw9 := Aside0.mk (show Below (World.heap w8).size w8 w9 by rw [e_w9]; exact below_drew (Below.refl _ _))
                    refine start_ (n := 15) (S := fun w' => w'.cell? ⟨bx, 3, none⟩ = some (.slice (some ad4) n4 c4) ∧ w'.cell? (ad4.add (k2 * 9)) = some (.int .i64 x.f0.f0) ∧ w'.cell? ⟨(ad4.add (k2 * 9)).block, (ad4.add (k2 * 9)).off + 1, none⟩ = some (.int .i64 x.f0.f1) ∧ w'.cell? ⟨(ad4.add (k2 * 9)).block, (ad4.add (k2 * 9)).off + 2, none⟩ = some (.string x.f1) ∧ w'.cell? ⟨(ad4.add (k2 * 9)).block, (ad4.add (k2 * 9)).off + 3, none⟩ = some (.int .i64 x.f2) ∧ w'.cell? ⟨(ad4.add (k2 * 9)).block, (ad4.add (k2 * 9)).off + 4, none⟩ = some (.string x.f3) ∧ w'.cell? ⟨(ad4.add (k2 * 9)).block, (ad4.add (k2 * 9)).off + 5, none⟩ = some (.string x.f4.f0) ∧ w'.cell? ⟨(ad4.add (k2 * 9)).block, (ad4.add (k2 * 9)).off + 6, none⟩ = some (.string x.f4.f1) ∧ w'.cell? ⟨(ad4.add (k2 * 9)).block, (ad4.add (k2 * 9)).off + 7, none⟩ = some (.string x.f5.f0) ∧ w'.cell? ⟨(ad4.add (k2 * 9)).block, (ad4.add (k2 * 9)).off + 8, none⟩ = some (.string x.f5.f1) ∧ w'.cell? (ad5.add (i2 * 10)) = some (.int .i64 h.f0.f0.f0) ∧ w'.cell? ⟨(ad5.add (i2 * 10)).block, (ad5.add (i2 * 10)).off + 1, none⟩ = some (.int .i64 h.f0.f0.f1) ∧ w'.cell? ⟨(ad5.add (i2 * 10)).block, (ad5.add (i2 * 10)).off + 2, none⟩ = some (.string h.f0.f1) ∧ w'.cell? ⟨(ad5.add (i2 * 10)).block, (ad5.add (i2 * 10)).off + 3, none⟩ = some (.int .i64 h.f0.f2) ∧ w'.cell? ⟨(ad5.add (i2 * 10)).block, (ad5.add (i2 * 10)).off + 4, none⟩ = some (.string h.f0.f3) ∧ w'.cell? ⟨(ad5.add (i2 * 10)).block, (ad5.add (i2 * 10)).off + 5, none⟩ = some (.string h.f0.f4.f0) ∧ w'.cell? ⟨(ad5.add (i2 * 10)).block, (ad5.add (i2 * 10)).off + 6, none⟩ = some (.string h.f0.f4.f1) ∧ w'.cell? ⟨(ad5.add (i2 * 10)).block, (ad5.add (i2 * 10)).off + 7, none⟩ = some (.string h.f0.f5.f0) ∧ w'.cell? ⟨(ad5.add (i2 * 10)).block, (ad5.add (i2 * 10)).off + 8, none⟩ = some (.string h.f0.f5.f1)) (ds := []) #[false, false, false, false, false, false, false, false, false, false, false, false, false, false, false] (by kernel_rfl) rfl rfl ⟨(by rw [← e_w9]; exact (cell_blk (blk_see (HS7.out.on HBw9.out) 4 rfl) 3 rfl)), (by rw [← e_w9]; exact (pw_cell_below HBw9.out HAT.out.1)), (by rw [← e_w9]; exact (pw_cell_below HBw9.out HAT.out.2.1)), (by rw [← e_w9]; exact (pw_cell_below HBw9.out HAT.out.2.2.1)), (by rw [← e_w9]; exact (pw_cell_below HBw9.out HAT.out.2.2.2.1)), (by rw [← e_w9]; exact (pw_cell_below HBw9.out HAT.out.2.2.2.2.1)), (by rw [← e_w9]; exact (pw_cell_below HBw9.out HAT.out.2.2.2.2.2.1)), (by rw [← e_w9]; exact (pw_cell_below HBw9.out HAT.out.2.2.2.2.2.2.1)), (by rw [← e_w9]; exact (pw_cell_below HBw9.out HAT.out.2.2.2.2.2.2.2.1)), (by rw [← e_w9]; exact (pw_cell_below HBw9.out HAT.out.2.2.2.2.2.2.2.2)), (by rw [← e_w9]; exact (row_at10 (HS7.out.on HBw9.out) 3 rfl i2 (by rw [HNL.out]; exact HI2.out) HEH.out).1), (by rw [← e_w9]; exact (row_at10 (HS7.out.on HBw9.out) 3 rfl i2 (by rw [HNL.out]; exact HI2.out) HEH.out).2.1), (by rw [← e_w9]; exact (row_at10 (HS7.out.on HBw9.out) 3 rfl i2 (by rw [HNL.out]; exact HI2.out) HEH.out).2.2.1), (by rw [← e_w9]; exact (row_at10 (HS7.out.on HBw9.out) 3 rfl i2 (by rw [HNL.out]; exact HI2.out) HEH.out).2.2.2.1), (by rw [← e_w9]; exact (row_at10 (HS7.out.on HBw9.out) 3 rfl i2 (by rw [HNL.out]; exact HI2.out) HEH.out).2.2.2.2.1), (by rw [← e_w9]; exact (row_at10 (HS7.out.on HBw9.out) 3 rfl i2 (by rw [HNL.out]; exact HI2.out) HEH.out).2.2.2.2.2.1), (by rw [← e_w9]; exact (row_at10 (HS7.out.on HBw9.out) 3 rfl i2 (by rw [HNL.out]; exact HI2.out) HEH.out).2.2.2.2.2.2.1), (by rw [← e_w9]; exact (row_at10 (HS7.out.on HBw9.out) 3 rfl i2 (by rw [HNL.out]; exact HI2.out) HEH.out).2.2.2.2.2.2.2.1), (by rw [← e_w9]; exact (row_at10 (HS7.out.on HBw9.out) 3 rfl i2 (by rw [HNL.out]; exact HI2.out) HEH.out).2.2.2.2.2.2.2.2.1)⟩ (fun hHeld => ?_)
                    rw [← e_w9] at hHeld ⊢
                    clear e_w9
                    refine pure_ (i := 0) (N := some 118) (v := ?_) (a' := ?_) #[true, false, false, false, false, false, false, false, false, false, false, false, false, false, false] rfl rfl (by kernel_rfl) (fun _ _ _ h => h) (Or.inl ⟨by rfl, ?_⟩) ?_ ?_
                    rotate_left
                    · intro w'
                      go_simp
                      with_reducible rfl
                    rotate_left
                    · simp only [Act.put, List.setIfInBounds_toArray, List.set_cons_zero, List.set_cons_succ, i64_w, i32_w]
                      rfl
                    refine pure_ (i := 1) (N := some 119) (v := ?_) (a' := ?_) #[true, true, false, false, false, false, false, false, false, false, false, false, false, false, false] rfl rfl (by kernel_rfl) (fun _ _ _ h => h) (Or.inl ⟨by rfl, ?_⟩) ?_ ?_
                    rotate_left
                    · intro w'
                      go_simp
                      with_reducible rfl
                    rotate_left
                    · simp only [Act.put, List.setIfInBounds_toArray, List.set_cons_zero, List.set_cons_succ, i64_w, i32_w]
                      rfl
                    refine pure_ (i := 2) (N := some 120) (v := ?_) (a' := ?_) #[true, true, true, false, false, false, false, false, false, false, false, false, false, false, false] rfl rfl (by kernel_rfl) (fun _ _ _ h => h) (Or.inl ⟨by rfl, ?_⟩) ?_ ?_
                    rotate_left
                    · intro w'
                      go_simp
                      with_reducible rfl
                    rotate_left
                    · simp only [Act.put, List.setIfInBounds_toArray, List.set_cons_zero, List.set_cons_succ, i64_w, i32_w]
                      rfl
                    refine pure_ (i := 4) (N := some 122) (v := ?_) (a' := ?_) #[true, true, true, false, true, false, false, false, false, false, false, false, false, false, false] rfl rfl (by kernel_rfl) (fun _ _ _ h => h) (Or.inl ⟨by rfl, ?_⟩) ?_ ?_
                    rotate_left
                    · intro w'
                      go_simp
                      with_reducible rfl
                    rotate_left
                    · simp only [Act.put, List.setIfInBounds_toArray, List.set_cons_zero, List.set_cons_succ, i64_w, i32_w]
                      rfl
                    refine pure_ (i := 7) (N := some 125) (v := ?_) (a' := ?_) #[true, true, true, false, true, false, false, true, false, false, false, false, false, false, false] rfl rfl (by kernel_rfl) (fun _ _ _ h => h) (Or.inl ⟨by rfl, ?_⟩) ?_ ?_
                    rotate_left
                    · intro w'
                      go_simp
                      with_reducible rfl
                    rotate_left
                    · simp only [Act.put, List.setIfInBounds_toArray, List.set_cons_zero, List.set_cons_succ, i64_w, i32_w]
                      rfl
                    refine pure_ (i := 8) (N := some 126) (v := ?_) (a' := ?_) #[true, true, true, false, true, false, false, true, true, false, false, false, false, false, false] rfl rfl (by kernel_rfl) (fun _ _ _ h => h) (Or.inl ⟨by rfl, ?_⟩) ?_ ?_
                    rotate_left
                    · intro w'
                      go_simp
                      with_reducible rfl
                    rotate_left
                    · simp only [Act.put, List.setIfInBounds_toArray, List.set_cons_zero, List.set_cons_succ, i64_w, i32_w]
                      rfl
                    refine pure_ (i := 9) (N := some 127) (v := ?_) (a' := ?_) #[true, true, true, false, true, false, false, true, true, true, false, false, false, false, false] rfl rfl (by kernel_rfl) (fun _ _ _ h => h) (Or.inl ⟨by rfl, ?_⟩) ?_ ?_
                    rotate_left
                    · intro w'
                      go_simp
                      with_reducible rfl
                    rotate_left
                    · simp only [Act.put, List.setIfInBounds_toArray, List.set_cons_zero, List.set_cons_succ, i64_w, i32_w]
                      rfl
                    refine pure_ (i := 10) (N := some 128) (v := ?_) (a' := ?_) #[true, true, true, false, true, false, false, true, true, true, true, false, false, false, false] rfl rfl (by kernel_rfl) (fun _ _ _ h => h) (Or.inl ⟨by rfl, ?_⟩) ?_ ?_
                    rotate_left
                    · intro w'
                      go_simp
                      with_reducible rfl
                    rotate_left
                    · simp only [Act.put, List.setIfInBounds_toArray, List.set_cons_zero, List.set_cons_succ, i64_w, i32_w]
                      rfl
                    refine take_ (i := 3) (N := some 121) (v := ?_) (a' := ?_) #[true, true, true, true, true, false, false, true, true, true, true, false, false, false, false] rfl rfl (by kernel_rfl) (fun _ _ _ h => h) (Or.inl ⟨by rfl, ?_⟩) hHeld ?_ ?_
                    rotate_left
                    · rintro w' ⟨s0, s1, s2, s3, s4, s5, s6, s7, s8, s9, s10, s11, s12, s13, s14, s15, s16, s17, s18⟩
                      go_simp
                      with_reducible rfl
                    rotate_left
                    · simp only [Act.put, List.setIfInBounds_toArray, List.set_cons_zero, List.set_cons_succ, i64_w, i32_w]
                      rfl
                    refine pure_ (i := 5) (N := some 123) (v := ?_) (a' := ?_) #[true, true, true, true, true, true, false, true, true, true, true, false, false, false, false] rfl rfl (by kernel_rfl) (fun _ _ _ h => h) (Or.inl ⟨by rfl, ?_⟩) ?_ ?_
                    rotate_left
                    · intro w'
                      go_simp
                      with_reducible rfl
                    rotate_left
                    · simp only [Act.put, List.setIfInBounds_toArray, List.set_cons_zero, List.set_cons_succ, i64_w, i32_w]
                      rfl
                    refine take_ (i := 6) (N := some 124) (v := ?_) (a' := ?_) #[true, true, true, true, true, true, true, true, true, true, true, false, false, false, false] rfl rfl (by kernel_rfl) (fun _ _ _ h => h) (Or.inl ⟨by rfl, ?_⟩) hHeld ?_ ?_
                    rotate_left
                    · rintro w' ⟨s0, s1, s2, s3, s4, s5, s6, s7, s8, s9, s10, s11, s12, s13, s14, s15, s16, s17, s18⟩
                      go_simp
                      with_reducible rfl
                    rotate_left
                    · simp only [Act.put, List.setIfInBounds_toArray, List.set_cons_zero, List.set_cons_succ, i64_w, i32_w]
                      rfl
                    refine take_ (i := 11) (N := some 129) (v := ?_) (a' := ?_) #[true, true, true, true, true, true, true, true, true, true, true, true, false, false, false] rfl rfl (by kernel_rfl) (fun _ _ _ h => h) (Or.inl ⟨by rfl, ?_⟩) hHeld ?_ ?_
                    rotate_left
                    · rintro w' ⟨s0, s1, s2, s3, s4, s5, s6, s7, s8, s9, s10, s11, s12, s13, s14, s15, s16, s17, s18⟩
                      go_simp
                      with_reducible rfl
                    rotate_left
                    · simp only [Act.put, List.setIfInBounds_toArray, List.set_cons_zero, List.set_cons_succ, i64_w, i32_w]
                      rfl
                    refine pure_ (i := 12) (N := some 130) (v := ?_) (a' := ?_) #[true, true, true, true, true, true, true, true, true, true, true, true, true, false, false] rfl rfl (by kernel_rfl) (fun _ _ _ h => h) (Or.inl ⟨by rfl, ?_⟩) ?_ ?_
                    rotate_left
                    · intro w'
                      go_simp
                      with_reducible rfl
                    rotate_left
                    · simp only [Act.put, List.setIfInBounds_toArray, List.set_cons_zero, List.set_cons_succ, i64_w, i32_w]
                      rfl
                    refine pure_ (i := 13) (N := some 131) (v := ?_) (a' := ?_) #[true, true, true, true, true, true, true, true, true, true, true, true, true, true, false] rfl rfl (by kernel_rfl) (fun _ _ _ h => h) (Or.inl ⟨by rfl, ?_⟩) ?_ ?_
                    rotate_left
                    · intro w'
                      go_simp
                      with_reducible rfl
                    rotate_left
                    · simp only [Act.put, List.setIfInBounds_toArray, List.set_cons_zero, List.set_cons_succ, i64_w, i32_w]
                      rfl
                    refine pure_ (i := 14) (N := some 15) (v := ?_) (a' := ?_) #[true, true, true, true, true, true, true, true, true, true, true, true, true, true, true] rfl rfl (by kernel_rfl) (fun _ _ _ h => h) (Or.inl ⟨by rfl, ?_⟩) ?_ ?_
                    rotate_left
                    · intro w'
                      go_simp
                      with_reducible rfl
                    rotate_left
                    · simp only [Act.put, List.setIfInBounds_toArray, List.set_cons_zero, List.set_cons_succ, i64_w, i32_w]
                      rfl
                    refine done_ (by kernel_rfl) ?_
                    obtain ⟨t, et⟩ : ∃ t, eqC x h.f0 = t := ⟨_, rfl⟩
                    have e27 : ((x.f0.f0 == h.f0.f0.f0 && (x.f0.f1 == h.f0.f0.f1)) && (x.f1.toList == h.f0.f1.toList && (x.f2 == h.f0.f2 && (x.f3.toList == h.f0.f3.toList && ((x.f4.f0.toList == h.f0.f4.f0.toList && (x.f4.f1.toList == h.f0.f4.f1.toList)) && ((x.f5.f0.toList == h.f0.f5.f0.toList && (x.f5.f1.toList == h.f0.f5.f1.toList)))))))) = t := et
                    rw [e27]
                    have HET := Aside0.mk et
                    have HS9 := Aside0.mk (HS7.out.on HBw9.out)
                    clear HBw9 HS7 hb3 e27 et
                    go_wp2_with fail
                    go_roundw
                    case rel => exact ⟨k2 + 1, by omega, by omega, by rw [HANY.out, HET.out]; rfl, by simp, HS9⟩
                    case measure => simp [intOf]; omega
                · have hany : ((l.take k2).any fun x => eqC x h.f0) = true := List.any_eq_true.2 ⟨h.f0, by
                    have h1 := HIN.out
                    have h2 := HN4.out
                    by_cases h3 : k2 = 40
                    · rw [h3]; exact h1
                    · rw [List.take_of_length_le (by omega)] at h1 ⊢
                      exact h1, eqC_iff.2 rfl⟩
                  rw [hany]
                  clear hany
                  obtain ⟨z0, z3, z4, z5⟩ := HUN.out
                  have z1 : decide (wrap64 (s + 56) < h.f1) = false := decide_eq_false (by unfold wrap64; omega)
                  have z2 : decide (h.f1 ≤ a2) = false := decide_eq_false (by omega)
                  by_cases hk : k2 < n4
                  · have hk4 : k2 = 40 := by omega
                    subst hk4
                    have u1 : decide ((40 : Int) < (n4 : Int)) = true := decide_eq_true (by omega)
                    clear hgo2
                    go_wp2_with fail
                    rw [← e8] at HS7 ⊢
                    clear e8
                    obtain ⟨w9, e_w9⟩ : ∃ w_, w_ = World.drew w8 := ⟨_, rfl⟩
                    have HBw9 := Aside0.mk (show Below (World.heap w8).size w8 w9 by rw [e_w9]; exact below_drew (Below.refl _ _))
                    refine start_ (n := 22) (S := fun w' => w'.cell? ⟨(ad5.add (i2 * 10)).block, (ad5.add (i2 * 10)).off + 9, none⟩ = some (.int .i64 h.f1) ∧ w'.cell? ⟨bx, 2, none⟩ = some (.int .i64 s)) (ds := []) #[false, false, false, false, false, false, false, false, false, false, false, false, false, false, false, false, false, false, false, false, false, false] (by kernel_rfl) rfl rfl ⟨(by rw [← e_w9]; exact (row_at10 (HS7.out.on HBw9.out) 3 rfl i2 (by rw [HNL.out]; exact HI2.out) HEH.out).2.2.2.2.2.2.2.2.2), (by rw [← e_w9]; exact (cell_blk (blk_see (HS7.out.on HBw9.out) 4 rfl) 2 rfl))⟩ (fun hHeld => ?_)
                    rw [← e_w9] at hHeld ⊢
                    clear e_w9
                    refine pure_ (i := 0) (N := some 132) (v := ?_) (a' := ?_) #[true, false, false, false, false, false, false, false, false, false, false, false, false, false, false, false, false, false, false, false, false, false] rfl rfl (by kernel_rfl) (fun _ _ _ h => h) (Or.inl ⟨by rfl, ?_⟩) ?_ ?_
                    rotate_left
                    · intro w'
                      go_simp
                      with_reducible rfl
                    rotate_left
                    · simp only [Act.put, List.setIfInBounds_toArray, List.set_cons_zero, List.set_cons_succ, i64_w, i32_w]
                      rfl
                    refine pure_ (i := 1) (N := some 133) (v := ?_) (a' := ?_) #[true, true, false, false, false, false, false, false, false, false, false, false, false, false, false, false, false, false, false, false, false, false] rfl rfl (by kernel_rfl) (fun _ _ _ h => h) (Or.inl ⟨by rfl, ?_⟩) ?_ ?_
                    rotate_left
                    · intro w'
                      go_simp
                      with_reducible rfl
                    rotate_left
                    · simp only [Act.put, List.setIfInBounds_toArray, List.set_cons_zero, List.set_cons_succ, i64_w, i32_w]
                      rfl
                    refine pure_ (i := 2) (N := some 134) (v := ?_) (a' := ?_) #[true, true, true, false, false, false, false, false, false, false, false, false, false, false, false, false, false, false, false, false, false, false] rfl rfl (by kernel_rfl) (fun _ _ _ h => h) (Or.inl ⟨by rfl, ?_⟩) ?_ ?_
                    rotate_left
                    · intro w'
                      go_simp
                      with_reducible rfl
                    rotate_left
                    · simp only [Act.put, List.setIfInBounds_toArray, List.set_cons_zero, List.set_cons_succ, i64_w, i32_w]
                      rfl
                    refine pure_ (i := 3) (N := some 135) (v := ?_) (a' := ?_) #[true, true, true, true, false, false, false, false, false, false, false, false, false, false, false, false, false, false, false, false, false, false] rfl rfl (by kernel_rfl) (fun _ _ _ h => h) (Or.inl ⟨by rfl, ?_⟩) ?_ ?_
                    rotate_left
                    · intro w'
                      go_simp
                      with_reducible rfl
                    rotate_left
                    · simp only [Act.put, List.setIfInBounds_toArray, List.set_cons_zero, List.set_cons_succ, i64_w, i32_w]
                      rfl
                    refine pure_ (i := 4) (N := some 136) (v := ?_) (a' := ?_) #[true, true, true, true, true, false, false, false, false, false, false, false, false, false, false, false, false, false, false, false, false, false] rfl rfl (by kernel_rfl) (fun _ _ _ h => h) (Or.inl ⟨by rfl, ?_⟩) ?_ ?_
                    rotate_left
                    · intro w'
                      go_simp
                      with_reducible rfl
                    rotate_left
                    · simp only [Act.put, List.setIfInBounds_toArray, List.set_cons_zero, List.set_cons_succ, i64_w, i32_w]
                      rfl
                    refine pure_ (i := 5) (N := some 137) (v := ?_) (a' := ?_) #[true, true, true, true, true, true, false, false, false, false, false, false, false, false, false, false, false, false, false, false, false, false] rfl rfl (by kernel_rfl) (fun _ _ _ h => h) (Or.inl ⟨by rfl, ?_⟩) ?_ ?_
                    rotate_left
                    · intro w'
                      go_simp
                      with_reducible rfl
                    rotate_left
                    · simp only [Act.put, List.setIfInBounds_toArray, List.set_cons_zero, List.set_cons_succ, i64_w, i32_w]
                      rfl
                    refine pure_ (i := 6) (N := some 138) (v := ?_) (a' := ?_) #[true, true, true, true, true, true, true, false, false, false, false, false, false, false, false, false, false, false, false, false, false, false] rfl rfl (by kernel_rfl) (fun _ _ _ h => h) (Or.inl ⟨by rfl, ?_⟩) ?_ ?_
                    rotate_left
                    · intro w'
                      go_simp
                      with_reducible rfl
                    rotate_left
                    · simp only [Act.put, List.setIfInBounds_toArray, List.set_cons_zero, List.set_cons_succ, i64_w, i32_w]
                      rfl
                    refine pure_ (i := 8) (N := some 140) (v := ?_) (a' := ?_) #[true, true, true, true, true, true, true, false, true, false, false, false, false, false, false, false, false, false, false, false, false, false] rfl rfl (by kernel_rfl) (fun _ _ _ h => h) (Or.inl ⟨by rfl, ?_⟩) ?_ ?_
                    rotate_left
                    · intro w'
                      go_simp
                      with_reducible rfl
                    rotate_left
                    · simp only [Act.put, List.setIfInBounds_toArray, List.set_cons_zero, List.set_cons_succ, i64_w, i32_w]
                      rfl
                    refine take_ (i := 7) (N := some 139) (v := ?_) (a' := ?_) #[true, true, true, true, true, true, true, true, true, false, false, false, false, false, false, false, false, false, false, false, false, false] rfl rfl (by kernel_rfl) (fun _ _ _ h => h) (Or.inl ⟨by rfl, ?_⟩) hHeld ?_ ?_
                    rotate_left
                    · rintro w' ⟨s0, s1⟩
                      go_simp
                      with_reducible rfl
                    rotate_left
                    · simp only [Act.put, List.setIfInBounds_toArray, List.set_cons_zero, List.set_cons_succ, i64_w, i32_w]
                      rfl
                    refine take_ (i := 9) (N := some 141) (v := ?_) (a' := ?_) #[true, true, true, true, true, true, true, true, true, true, false, false, false, false, false, false, false, false, false, false, false, false] rfl rfl (by kernel_rfl) (fun _ _ _ h => h) (Or.inl ⟨by rfl, ?_⟩) hHeld ?_ ?_
                    rotate_left
                    · rintro w' ⟨s0, s1⟩
                      go_simp
                      with_reducible rfl
                    rotate_left
                    · simp only [Act.put, List.setIfInBounds_toArray, List.set_cons_zero, List.set_cons_succ, i64_w, i32_w]
                      rfl
                    refine pure_ (i := 10) (N := some 142) (v := ?_) (a' := ?_) #[true, true, true, true, true, true, true, true, true, true, true, false, false, false, false, false, false, false, false, false, false, false] rfl rfl (by kernel_rfl) (fun _ _ _ h => h) (Or.inl ⟨by rfl, ?_⟩) ?_ ?_
                    rotate_left
                    · intro w'
                      go_simp
                      with_reducible rfl
                    rotate_left
                    · simp only [Act.put, List.setIfInBounds_toArray, List.set_cons_zero, List.set_cons_succ, i64_w, i32_w]
                      rfl
                    refine pure_ (i := 11) (N := some 143) (v := ?_) (a' := ?_) #[true, true, true, true, true, true, true, true, true, true, true, true, false, false, false, false, false, false, false, false, false, false] rfl rfl (by kernel_rfl) (fun _ _ _ h => h) (Or.inl ⟨by rfl, ?_⟩) ?_ ?_
                    rotate_left
                    · intro w'
                      go_simp
                      with_reducible rfl
                    rotate_left
                    · simp only [Act.put, List.setIfInBounds_toArray, List.set_cons_zero, List.set_cons_succ, i64_w, i32_w]
                      rfl
                    refine pure_ (i := 12) (N := some 144) (v := ?_) (a' := ?_) #[true, true, true, true, true, true, true, true, true, true, true, true, true, false, false, false, false, false, false, false, false, false] rfl rfl (by kernel_rfl) (fun _ _ _ h => h) (Or.inl ⟨by rfl, ?_⟩) ?_ ?_
                    rotate_left
                    · intro w'
                      go_simp
                      with_reducible rfl
                    rotate_left
                    · simp only [Act.put, List.setIfInBounds_toArray, List.set_cons_zero, List.set_cons_succ, i64_w, i32_w]
                      rfl
                    refine pure_ (i := 13) (N := some 145) (v := ?_) (a' := ?_) #[true, true, true, true, true, true, true, true, true, true, true, true, true, true, false, false, false, false, false, false, false, false] rfl rfl (by kernel_rfl) (fun _ _ _ h => h) (Or.inl ⟨by rfl, ?_⟩) ?_ ?_
                    rotate_left
                    · intro w'
                      go_simp
                      with_reducible rfl
                    rotate_left
                    · simp only [Act.put, List.setIfInBounds_toArray, List.set_cons_zero, List.set_cons_succ, i64_w, i32_w]
                      rfl
                    refine pure_ (i := 14) (N := some 146) (v := ?_) (a' := ?_) #[true, true, true, true, true, true, true, true, true, true, true, true, true, true, true, false, false, false, false, false, false, false] rfl rfl (by kernel_rfl) (fun _ _ _ h => h) (Or.inl ⟨by rfl, ?_⟩) ?_ ?_
                    rotate_left
                    · intro w'
                      go_simp
                      with_reducible rfl
                    rotate_left
                    · simp only [Act.put, List.setIfInBounds_toArray, List.set_cons_zero, List.set_cons_succ, i64_w, i32_w]
                      rfl
                    refine pure_ (i := 15) (N := some 147) (v := ?_) (a' := ?_) #[true, true, true, true, true, true, true, true, true, true, true, true, true, true, true, true, false, false, false, false, false, false] rfl rfl (by kernel_rfl) (fun _ _ _ h => h) (Or.inl ⟨by rfl, ?_⟩) ?_ ?_
                    rotate_left
                    · intro w'
                      go_simp
                      with_reducible rfl
                    rotate_left
                    · simp only [Act.put, List.setIfInBounds_toArray, List.set_cons_zero, List.set_cons_succ, i64_w, i32_w]
                      rfl
                    refine pure_ (i := 16) (N := some 148) (v := ?_) (a' := ?_) #[true, true, true, true, true, true, true, true, true, true, true, true, true, true, true, true, true, false, false, false, false, false] rfl rfl (by kernel_rfl) (fun _ _ _ h => h) (Or.inl ⟨by rfl, ?_⟩) ?_ ?_
                    rotate_left
                    · intro w'
                      go_simp
                      with_reducible rfl
                    rotate_left
                    · simp only [Act.put, List.setIfInBounds_toArray, List.set_cons_zero, List.set_cons_succ, i64_w, i32_w]
                      rfl
                    refine pure_ (i := 17) (N := some 149) (v := ?_) (a' := ?_) #[true, true, true, true, true, true, true, true, true, true, true, true, true, true, true, true, true, true, false, false, false, false] rfl rfl (by kernel_rfl) (fun _ _ _ h => h) (Or.inl ⟨by rfl, ?_⟩) ?_ ?_
                    rotate_left
                    · intro w'
                      go_simp
                      with_reducible rfl
                    rotate_left
                    · simp only [Act.put, List.setIfInBounds_toArray, List.set_cons_zero, List.set_cons_succ, i64_w, i32_w]
                      rfl
                    refine pure_ (i := 18) (N := some 150) (v := ?_) (a' := ?_) #[true, true, true, true, true, true, true, true, true, true, true, true, true, true, true, true, true, true, true, false, false, false] rfl rfl (by kernel_rfl) (fun _ _ _ h => h) (Or.inl ⟨by rfl, ?_⟩) ?_ ?_
                    rotate_left
                    · intro w'
                      go_simp
                      with_reducible rfl
                    rotate_left
                    · simp only [Act.put, List.setIfInBounds_toArray, List.set_cons_zero, List.set_cons_succ, i64_w, i32_w]
                      rfl
                    refine take_ (i := 19) (N := some 151) (v := ?_) (a' := ?_) #[true, true, true, true, true, true, true, true, true, true, true, true, true, true, true, true, true, true, true, true, false, false] rfl rfl (by kernel_rfl) (fun _ _ _ h => h) (Or.inl ⟨by rfl, ?_⟩) hHeld ?_ ?_
                    rotate_left
                    · rintro w' ⟨s0, s1⟩
                      go_simp
                      with_reducible rfl
                    rotate_left
                    · simp only [Act.put, List.setIfInBounds_toArray, List.set_cons_zero, List.set_cons_succ, i64_w, i32_w]
                      rfl
                    refine pure_ (i := 20) (N := some 152) (v := ?_) (a' := ?_) #[true, true, true, true, true, true, true, true, true, true, true, true, true, true, true, true, true, true, true, true, true, false] rfl rfl (by kernel_rfl) (fun _ _ _ h => h) (Or.inl ⟨by rfl, ?_⟩) ?_ ?_
                    rotate_left
                    · intro w'
                      go_simp
                      with_reducible rfl
                    rotate_left
                    · simp only [Act.put, List.setIfInBounds_toArray, List.set_cons_zero, List.set_cons_succ, i64_w, i32_w]
                      rfl
                    refine pure_ (i := 21) (N := some 153) (v := ?_) (a' := ?_) #[true, true, true, true, true, true, true, true, true, true, true, true, true, true, true, true, true, true, true, true, true, true] rfl rfl (by kernel_rfl) (fun _ _ _ h => h) (Or.inl ⟨by rfl, ?_⟩) ?_ ?_
                    rotate_left
                    · intro w'
                      go_simp
                      with_reducible rfl
                    rotate_left
                    · simp only [Act.put, List.setIfInBounds_toArray, List.set_cons_zero, List.set_cons_succ, i64_w, i32_w]
                      rfl
                    refine done_ (by kernel_rfl) ?_
                    have HS9 := Aside0.mk (less4 (HS7.out.on HBw9.out))
                    clear HBw9 HS7 hb3
                    go_wp2_with fail
                    go_roundw
                    case rel => exact ⟨i2 + 1, by omega, by simp, HS9⟩
                    case measure => simp [intOf]; omega
                  · have u1 : decide ((k2 : Int) < (n4 : Int)) = false := decide_eq_false (by omega)
                    clear hgo2
                    go_wp2_with fail
                    rw [← e8] at HS7 ⊢
                    clear e8
                    obtain ⟨w9, e_w9⟩ : ∃ w_, w_ = World.drew w8 := ⟨_, rfl⟩
                    have HBw9 := Aside0.mk (show Below (World.heap w8).size w8 w9 by rw [e_w9]; exact below_drew (Below.refl _ _))
                    refine start_ (n := 22) (S := fun w' => w'.cell? ⟨(ad5.add (i2 * 10)).block, (ad5.add (i2 * 10)).off + 9, none⟩ = some (.int .i64 h.f1) ∧ w'.cell? ⟨bx, 2, none⟩ = some (.int .i64 s)) (ds := []) #[false, false, false, false, false, false, false, false, false, false, false, false, false, false, false, false, false, false, false, false, false, false] (by kernel_rfl) rfl rfl ⟨(by rw [← e_w9]; exact (row_at10 (HS7.out.on HBw9.out) 3 rfl i2 (by rw [HNL.out]; exact HI2.out) HEH.out).2.2.2.2.2.2.2.2.2), (by rw [← e_w9]; exact (cell_blk (blk_see (HS7.out.on HBw9.out) 4 rfl) 2 rfl))⟩ (fun hHeld => ?_)
                    rw [← e_w9] at hHeld ⊢
                    clear e_w9
                    refine pure_ (i := 0) (N := some 132) (v := ?_) (a' := ?_) #[true, false, false, false, false, false, false, false, false, false, false, false, false, false, false, false, false, false, false, false, false, false] rfl rfl (by kernel_rfl) (fun _ _ _ h => h) (Or.inl ⟨by rfl, ?_⟩) ?_ ?_
                    rotate_left
                    · intro w'
                      go_simp
                      with_reducible rfl
                    rotate_left
                    · simp only [Act.put, List.setIfInBounds_toArray, List.set_cons_zero, List.set_cons_succ, i64_w, i32_w]
                      rfl
                    refine pure_ (i := 1) (N := some 133) (v := ?_) (a' := ?_) #[true, true, false, false, false, false, false, false, false, false, false, false, false, false, false, false, false, false, false, false, false, false] rfl rfl (by kernel_rfl) (fun _ _ _ h => h) (Or.inl ⟨by rfl, ?_⟩) ?_ ?_
                    rotate_left
                    · intro w'
                      go_simp
                      with_reducible rfl
                    rotate_left
                    · simp only [Act.put, List.setIfInBounds_toArray, List.set_cons_zero, List.set_cons_succ, i64_w, i32_w]
                      rfl
                    refine pure_ (i := 2) (N := some 134) (v := ?_) (a' := ?_) #[true, true, true, false, false, false, false, false, false, false, false, false, false, false, false, false, false, false, false, false, false, false] rfl rfl (by kernel_rfl) (fun _ _ _ h => h) (Or.inl ⟨by rfl, ?_⟩) ?_ ?_
                    rotate_left
                    · intro w'
                      go_simp
                      with_reducible rfl
                    rotate_left
                    · simp only [Act.put, List.setIfInBounds_toArray, List.set_cons_zero, List.set_cons_succ, i64_w, i32_w]
                      rfl
                    refine pure_ (i := 3) (N := some 135) (v := ?_) (a' := ?_) #[true, true, true, true, false, false, false, false, false, false, false, false, false, false, false, false, false, false, false, false, false, false] rfl rfl (by kernel_rfl) (fun _ _ _ h => h) (Or.inl ⟨by rfl, ?_⟩) ?_ ?_
                    rotate_left
                    · intro w'
                      go_simp
                      with_reducible rfl
                    rotate_left
                    · simp only [Act.put, List.setIfInBounds_toArray, List.set_cons_zero, List.set_cons_succ, i64_w, i32_w]
                      rfl
                    refine pure_ (i := 4) (N := some 136) (v := ?_) (a' := ?_) #[true, true, true, true, true, false, false, false, false, false, false, false, false, false, false, false, false, false, false, false, false, false] rfl rfl (by kernel_rfl) (fun _ _ _ h => h) (Or.inl ⟨by rfl, ?_⟩) ?_ ?_
                    rotate_left
                    · intro w'
                      go_simp
                      with_reducible rfl
                    rotate_left
                    · simp only [Act.put, List.setIfInBounds_toArray, List.set_cons_zero, List.set_cons_succ, i64_w, i32_w]
                      rfl
                    refine pure_ (i := 5) (N := some 137) (v := ?_) (a' := ?_) #[true, true, true, true, true, true, false, false, false, false, false, false, false, false, false, false, false, false, false, false, false, false] rfl rfl (by kernel_rfl) (fun _ _ _ h => h) (Or.inl ⟨by rfl, ?_⟩) ?_ ?_
                    rotate_left
                    · intro w'
                      go_simp
                      with_reducible rfl
                    rotate_left
                    · simp only [Act.put, List.setIfInBounds_toArray, List.set_cons_zero, List.set_cons_succ, i64_w, i32_w]
                      rfl
                    refine pure_ (i := 6) (N := some 138) (v := ?_) (a' := ?_) #[true, true, true, true, true, true, true, false, false, false, false, false, false, false, false, false, false, false, false, false, false, false] rfl rfl (by kernel_rfl) (fun _ _ _ h => h) (Or.inl ⟨by rfl, ?_⟩) ?_ ?_
                    rotate_left
                    · intro w'
                      go_simp
                      with_reducible rfl
                    rotate_left
                    · simp only [Act.put, List.setIfInBounds_toArray, List.set_cons_zero, List.set_cons_succ, i64_w, i32_w]
                      rfl
                    refine pure_ (i := 8) (N := some 140) (v := ?_) (a' := ?_) #[true, true, true, true, true, true, true, false, true, false, false, false, false, false, false, false, false, false, false, false, false, false] rfl rfl (by kernel_rfl) (fun _ _ _ h => h) (Or.inl ⟨by rfl, ?_⟩) ?_ ?_
                    rotate_left
                    · intro w'
                      go_simp
                      with_reducible rfl
                    rotate_left
                    · simp only [Act.put, List.setIfInBounds_toArray, List.set_cons_zero, List.set_cons_succ, i64_w, i32_w]
                      rfl
                    refine take_ (i := 7) (N := some 139) (v := ?_) (a' := ?_) #[true, true, true, true, true, true, true, true, true, false, false, false, false, false, false, false, false, false, false, false, false, false] rfl rfl (by kernel_rfl) (fun _ _ _ h => h) (Or.inl ⟨by rfl, ?_⟩) hHeld ?_ ?_
                    rotate_left
                    · rintro w' ⟨s0, s1⟩
                      go_simp
                      with_reducible rfl
                    rotate_left
                    · simp only [Act.put, List.setIfInBounds_toArray, List.set_cons_zero, List.set_cons_succ, i64_w, i32_w]
                      rfl
                    refine take_ (i := 9) (N := some 141) (v := ?_) (a' := ?_) #[true, true, true, true, true, true, true, true, true, true, false, false, false, false, false, false, false, false, false, false, false, false] rfl rfl (by kernel_rfl) (fun _ _ _ h => h) (Or.inl ⟨by rfl, ?_⟩) hHeld ?_ ?_
                    rotate_left
                    · rintro w' ⟨s0, s1⟩
                      go_simp
                      with_reducible rfl
                    rotate_left
                    · simp only [Act.put, List.setIfInBounds_toArray, List.set_cons_zero, List.set_cons_succ, i64_w, i32_w]
                      rfl
                    refine pure_ (i := 10) (N := some 142) (v := ?_) (a' := ?_) #[true, true, true, true, true, true, true, true, true, true, true, false, false, false, false, false, false, false, false, false, false, false] rfl rfl (by kernel_rfl) (fun _ _ _ h => h) (Or.inl ⟨by rfl, ?_⟩) ?_ ?_
                    rotate_left
                    · intro w'
                      go_simp
                      with_reducible rfl
                    rotate_left
                    · simp only [Act.put, List.setIfInBounds_toArray, List.set_cons_zero, List.set_cons_succ, i64_w, i32_w]
                      rfl
                    refine pure_ (i := 11) (N := some 143) (v := ?_) (a' := ?_) #[true, true, true, true, true, true, true, true, true, true, true, true, false, false, false, false, false, false, false, false, false, false] rfl rfl (by kernel_rfl) (fun _ _ _ h => h) (Or.inl ⟨by rfl, ?_⟩) ?_ ?_
                    rotate_left
                    · intro w'
                      go_simp
                      with_reducible rfl
                    rotate_left
                    · simp only [Act.put, List.setIfInBounds_toArray, List.set_cons_zero, List.set_cons_succ, i64_w, i32_w]
                      rfl
                    refine pure_ (i := 12) (N := some 144) (v := ?_) (a' := ?_) #[true, true, true, true, true, true, true, true, true, true, true, true, true, false, false, false, false, false, false, false, false, false] rfl rfl (by kernel_rfl) (fun _ _ _ h => h) (Or.inl ⟨by rfl, ?_⟩) ?_ ?_
                    rotate_left
                    · intro w'
                      go_simp
                      with_reducible rfl
                    rotate_left
                    · simp only [Act.put, List.setIfInBounds_toArray, List.set_cons_zero, List.set_cons_succ, i64_w, i32_w]
                      rfl
                    refine pure_ (i := 13) (N := some 145) (v := ?_) (a' := ?_) #[true, true, true, true, true, true, true, true, true, true, true, true, true, true, false, false, false, false, false, false, false, false] rfl rfl (by kernel_rfl) (fun _ _ _ h => h) (Or.inl ⟨by rfl, ?_⟩) ?_ ?_
                    rotate_left
                    · intro w'
                      go_simp
                      with_reducible rfl
                    rotate_left
                    · simp only [Act.put, List.setIfInBounds_toArray, List.set_cons_zero, List.set_cons_succ, i64_w, i32_w]
                      rfl
                    refine pure_ (i := 14) (N := some 146) (v := ?_) (a' := ?_) #[true, true, true, true, true, true, true, true, true, true, true, true, true, true, true, false, false, false, false, false, false, false] rfl rfl (by kernel_rfl) (fun _ _ _ h => h) (Or.inl ⟨by rfl, ?_⟩) ?_ ?_
                    rotate_left
                    · intro w'
                      go_simp
                      with_reducible rfl
                    rotate_left
                    · simp only [Act.put, List.setIfInBounds_toArray, List.set_cons_zero, List.set_cons_succ, i64_w, i32_w]
                      rfl
                    refine pure_ (i := 15) (N := some 147) (v := ?_) (a' := ?_) #[true, true, true, true, true, true, true, true, true, true, true, true, true, true, true, true, false, false, false, false, false, false] rfl rfl (by kernel_rfl) (fun _ _ _ h => h) (Or.inl ⟨by rfl, ?_⟩) ?_ ?_
                    rotate_left
                    · intro w'
                      go_simp
                      with_reducible rfl
                    rotate_left
                    · simp only [Act.put, List.setIfInBounds_toArray, List.set_cons_zero, List.set_cons_succ, i64_w, i32_w]
                      rfl
                    refine pure_ (i := 16) (N := some 148) (v := ?_) (a' := ?_) #[true, true, true, true, true, true, true, true, true, true, true, true, true, true, true, true, true, false, false, false, false, false] rfl rfl (by kernel_rfl) (fun _ _ _ h => h) (Or.inl ⟨by rfl, ?_⟩) ?_ ?_
                    rotate_left
                    · intro w'
                      go_simp
                      with_reducible rfl
                    rotate_left
                    · simp only [Act.put, List.setIfInBounds_toArray, List.set_cons_zero, List.set_cons_succ, i64_w, i32_w]
                      rfl
                    refine pure_ (i := 17) (N := some 149) (v := ?_) (a' := ?_) #[true, true, true, true, true, true, true, true, true, true, true, true, true, true, true, true, true, true, false, false, false, false] rfl rfl (by kernel_rfl) (fun _ _ _ h => h) (Or.inl ⟨by rfl, ?_⟩) ?_ ?_
                    rotate_left
                    · intro w'
                      go_simp
                      with_reducible rfl
                    rotate_left
                    · simp only [Act.put, List.setIfInBounds_toArray, List.set_cons_zero, List.set_cons_succ, i64_w, i32_w]
                      rfl
                    refine pure_ (i := 18) (N := some 150) (v := ?_) (a' := ?_) #[true, true, true, true, true, true, true, true, true, true, true, true, true, true, true, true, true, true, true, false, false, false] rfl rfl (by kernel_rfl) (fun _ _ _ h => h) (Or.inl ⟨by rfl, ?_⟩) ?_ ?_
                    rotate_left
                    · intro w'
                      go_simp
                      with_reducible rfl
                    rotate_left
                    · simp only [Act.put, List.setIfInBounds_toArray, List.set_cons_zero, List.set_cons_succ, i64_w, i32_w]
                      rfl
                    refine take_ (i := 19) (N := some 151) (v := ?_) (a' := ?_) #[true, true, true, true, true, true, true, true, true, true, true, true, true, true, true, true, true, true, true, true, false, false] rfl rfl (by kernel_rfl) (fun _ _ _ h => h) (Or.inl ⟨by rfl, ?_⟩) hHeld ?_ ?_
                    rotate_left
                    · rintro w' ⟨s0, s1⟩
                      go_simp
                      with_reducible rfl
                    rotate_left
                    · simp only [Act.put, List.setIfInBounds_toArray, List.set_cons_zero, List.set_cons_succ, i64_w, i32_w]
                      rfl
                    refine pure_ (i := 20) (N := some 152) (v := ?_) (a' := ?_) #[true, true, true, true, true, true, true, true, true, true, true, true, true, true, true, true, true, true, true, true, true, false] rfl rfl (by kernel_rfl) (fun _ _ _ h => h) (Or.inl ⟨by rfl, ?_⟩) ?_ ?_
                    rotate_left
                    · intro w'
                      go_simp
                      with_reducible rfl
                    rotate_left
                    · simp only [Act.put, List.setIfInBounds_toArray, List.set_cons_zero, List.set_cons_succ, i64_w, i32_w]
                      rfl
                    refine pure_ (i := 21) (N := some 153) (v := ?_) (a' := ?_) #[true, true, true, true, true, true, true, true, true, true, true, true, true, true, true, true, true, true, true, true, true, true] rfl rfl (by kernel_rfl) (fun _ _ _ h => h) (Or.inl ⟨by rfl, ?_⟩) ?_ ?_
                    rotate_left
                    · intro w'
                      go_simp
                      with_reducible rfl
                    rotate_left
                    · simp only [Act.put, List.setIfInBounds_toArray, List.set_cons_zero, List.set_cons_succ, i64_w, i32_w]
                      rfl
                    refine done_ (by kernel_rfl) ?_
                    have HS9 := Aside0.mk (less4 (HS7.out.on HBw9.out))
                    clear HBw9 HS7 hb3
                    go_wp2_with fail
                    go_roundw
                    case rel => exact ⟨i2 + 1, by omega, by simp, HS9⟩
                    case measure => simp [intOf]; omega
            · have p1 : decide ((i2 : Int) < (nl : Int)) = false := decide_eq_false (by omega)
              have p2 : decide (i2 < nl) = false := decide_eq_false (by omega)
              go_wp2_with fail
              refine (lives_at HS5.out).mono ?_
              rintro e w9 ⟨rfl, h9⟩
              have HST9 := Aside0.mk h9
              clear h9
              go_wp2_with fail
              go_ret
              exact ⟨rfl, HST9.out.below⟩
        · have b1 : decide ((i : Int) < (l1.length : Int)) = false := decide_eq_false (by omega)
          clear hgo
          have HP := Aside0.mk (heldP_at HSR.out 1 rfl HG.out.1 a2)
          have HL1 := Aside0.mk (heldL_length HG.out.1 a2)
          have HKN := Aside0.mk (fun (h : SH) (hh : h ∈ heldL B a2) => held_known HG.out.1 hh)
          have HIL := Aside0.mk hi
          obtain ⟨L, eL⟩ : ∃ L, heldL B a2 = L := ⟨_, rfl⟩
          rw [eL] at HP HL1 HKN
          clear eL
          go_wp2_with fail
          refine HP.out.mono ?_
          rintro e w4 ⟨A5, c5, rfl, hc5, hC5, h4⟩
          obtain ⟨nl, enl⟩ : ∃ nl, L.length = nl := ⟨_, rfl⟩
          have HNL := Aside0.mk enl
          have hnl : nl ≤ 384 := by rw [← enl]; exact HL1.out
          have HST4 := Aside0.mk (show St w (fun _ => False) w4 [Res.agree w Fo, PBook gp B, LastA bl f, Res.row k42 42 (.slice A5 nl c5) L] by rw [← enl]; exact h4)
          rw [enl] at hc5 ⊢
          clear h4 hC5 HP enl HSR
          go_wp2_with fail
          go_loopw [12] (fun s12 wr => ∃ i2 : Nat, i2 ≤ nl ∧ s12 = .int .i64 (i2 : Int) ∧ Aside0 (St w (fun _ => False) wr [Res.agree w Fo, PBook gp B, LastA bl f, Res.row k42 42 (.slice A5 nl c5) L])) (fun s12 _ => (nl - (intOf s12).toNat))
          case atStart => exact ⟨0, by omega, rfl, HST4⟩
          case round =>
            obtain ⟨i2, hi2, rfl, HS5⟩ := hrel
            clear HST4
            by_cases hil : i2 < nl
            · have p1 : decide ((i2 : Int) < (nl : Int)) = true := decide_eq_true (by omega)
              have p2 : decide (i2 < nl) = true := decide_eq_true hil
              have HI2 := Aside0.mk hil
              obtain ⟨ad5, eA5, _⟩ := at_held (by have := row_C HS5.out 3 rfl; rwa [HNL.out] at this) i2 hil
              subst eA5
              obtain ⟨h, eh⟩ : ∃ h, L.getD i2 default = h := ⟨_, rfl⟩
              have HEH := Aside0.mk eh
              have hmem : h ∈ L := by
                rw [← eh, List.getD_eq_getElem?_getD, List.getElem?_eq_getElem (by rw [HNL.out]; exact hil)]
                exact List.getElem_mem _
              have hy0 := (row_at10 HS5.out 3 rfl i2 (by rw [HNL.out]; exact hil) eh).1
              obtain ⟨dn, hdn1, hdn2, hdno, hdnh, hdnm, hnow⟩ := HKN.out h hmem
              obtain ⟨j, hji, hfj, ha0, ha1, hall⟩ := HG.out.2.2 dn (fun e => by rw [e] at hdnm; cases hdnm)
              have hjl : j < l1.length := by have := HIL.out; omega
              obtain ⟨ad1, A4, c4, x, eA, hmx, hx0, hx1, hx2, hx3, l4, g4⟩ := deed_at HD.out j hjl
              rw [← hmx] at ha0 ha1 hall
              subst eA
              have hlast := last_get HS5.out 2 rfl dn (by omega)
              rw [hfj] at hlast
              obtain ⟨hl0, hl1⟩ := hlast
              obtain ⟨k, d, s, l, e0, e1, e2, e3⟩ : ∃ k d s l, x.f0 = k ∧ x.f1 = d ∧ x.f2 = s ∧ x.f3 = l := ⟨_, _, _, _, rfl, rfl, rfl, rfl⟩
              rw [e0] at hx0
              rw [e1] at hx1
              rw [e2] at hx2 ha0 ha1 hall
              rw [e3] at hx3 l4 g4 hall
              obtain ⟨hin, hun⟩ := hall h hdnm
              replace hx0 := pw_cell_below HS5.out.below hx0
              replace hx1 := pw_cell_below HS5.out.below hx1
              replace hx2 := pw_cell_below HS5.out.below hx2
              replace hx3 := pw_cell_below HS5.out.below hx3
              rw [hdnh] at hy0
              have HGF := Aside0.mk g4
              have HIN := Aside0.mk hin
              have HUN := Aside0.mk (And.intro hun (And.intro hnow (And.intro ha0 ha1)))
              have t1 : decide ((dn : Int) < 1) = false := decide_eq_false (by omega)
              have t2 : decide ((16 : Int) < (dn : Int)) = false := decide_eq_false (by omega)
              have t3 : ((dn : Int) == a0) = false := by rw [HG.out.2.1] at hdno; simpa using hdno
              have t4 : (((j + 1 : Nat) : Int) == 0) = false := by simp; omega
              have t4' : (((j : Int) + 1) == 0) = false := by simp; omega
              have t5 : decide ((j : Int) < (l1.length : Int)) = true := decide_eq_true (by omega)
              have t6 : decide (j < l1.length) = true := decide_eq_true hjl
              obtain ⟨n4, en4⟩ : ∃ n4, l.length = n4 := ⟨_, rfl⟩
              rw [en4] at hx3 l4
              have HN4 := Aside0.mk en4
              clear e0 e1 e2 e3 hmx g4 hin hun hnow hdno hdnh hdnm hall hmem eh hfj en4 ha0 ha1
              go_wp2_with fail
              obtain ⟨bx, ebx⟩ : ∃ bx, bx = wr.heap.size := ⟨_, rfl⟩
              have hst6 := blk_add HS5.out (.cells #[.int .i64 k, .int .i64 d, .int .i64 s, .slice A4 n4 c4] 29)
              rw [← ebx] at hst6 ⊢
              have HST6 := Aside0.mk (show St w (fun _ => False) (wr.alloc (.cells #[.int .i64 k, .int .i64 d, .int .i64 s, .slice A4 n4 c4] 29)) [Res.agree w Fo, PBook gp B, LastA bl f, Res.row k42 42 (.slice (some ad5) nl c5) L, Res.blk bx (.cells #[.int .i64 k, .int .i64 d, .int .i64 s, .slice A4 n4 c4] 29 (0, 0))] from hst6)
              clear hst6 ebx hy0 hl0 hl1 hx0 hx1 hx2 hx3 HS5 t1 t2 t3 t4 t4' t5 t6
              go_loopw [15, 16] (fun s15 s16 wr => ∃ k2 : Nat, k2 ≤ n4 ∧ k2 ≤ 40 ∧ s15 = .bool ((l.take k2).any fun x => eqC x h.f0) ∧ s16 = .int .i64 (k2 : Int) ∧ Aside0 (St w (fun _ => False) wr [Res.agree w Fo, PBook gp B, LastA bl f, Res.row k42 42 (.slice (some ad5) nl c5) L, Res.blk bx (.cells #[.int .i64 k, .int .i64 d, .int .i64 s, .slice A4 n4 c4] 29 (0, 0))])) (fun _ s16 _ => (41 - (intOf s16).toNat))
              case atStart => exact ⟨0, by omega, by omega, rfl, rfl, HST6⟩
              case round =>
                obtain ⟨k2, hk2, hk40, rfl, rfl, HS7⟩ := hrel
                clear HST6
                obtain ⟨w8, e8⟩ : ∃ w8, w8 = wr := ⟨_, rfl⟩
                have hb3 := cell_blk (blk_see HS7.out 4 rfl) 3 rfl
                by_cases hgo2 : k2 < n4 ∧ k2 < 40
                · obtain ⟨hk, hk4⟩ := hgo2
                  have u1 : decide ((k2 : Int) < (n4 : Int)) = true := decide_eq_true (by omega)
                  have u2 : decide ((k2 : Int) < 40) = true := decide_eq_true (by omega)
                  have u3 : decide (k2 < n4) = true := decide_eq_true hk
                  have hany := any_take (l := l) (y := h.f0) (k := k2) (by rw [HN4.out]; exact hk)
                  obtain ⟨x, ex⟩ : ∃ x, l.getD k2 default = x := ⟨_, rfl⟩
                  obtain ⟨ad4, eA4, hat⟩ := F_cred HGF.out (agree_of HS7.out) k2 (by rw [HN4.out]; exact hk) ex
                  rw [← e8] at hat
                  have HAT := Aside0.mk hat
                  rw [ex] at hany
                  obtain ⟨t0, et0⟩ : ∃ t0, ((l.take k2).any fun x => eqC x h.f0) = t0 := ⟨_, rfl⟩
                  rw [et0] at hany ⊢
                  have HANY := Aside0.mk hany
                  clear hany ex hat et0
                  subst eA4
                  cases t0 with
                  | true =>
                    go_wp2_with fail
                    rw [← e8] at HS7 ⊢
                    clear e8
                    obtain ⟨w9, e_w9⟩ : ∃ w_, w_ = World.drew w8 := ⟨_, rfl⟩
                    have HBw9 := Aside0.mk (show Below (World.heap w8).size w8 w9 by rw [e_w9]; exact below_drew (Below.refl _ _))
                    refine start_ (n := 15) (S := fun w' => True) (ds := []) #[false, false, false, false, false, false, false, false, false, false, false, false, false, false, false] (by kernel_rfl) rfl rfl trivial (fun hHeld => ?_)
                    rw [← e_w9]
                    clear e_w9
                    refine pure_ (i := 0) (N := some 118) (v := ?_) (a' := ?_) #[true, false, false, false, false, false, false, false, false, false, false, false, false, false, false] rfl rfl (by kernel_rfl) (fun _ _ _ h => h) (Or.inl ⟨by rfl, ?_⟩) ?_ ?_
                    rotate_left
                    · intro w'
                      go_simp
                      with_reducible rfl
                    rotate_left
                    · simp only [Act.put, List.setIfInBounds_toArray, List.set_cons_zero, List.set_cons_succ, i64_w, i32_w]
                      rfl
                    refine pure_ (i := 1) (N := some 119) (v := ?_) (a' := ?_) #[true, true, false, false, false, false, false, false, false, false, false, false, false, false, false] rfl rfl (by kernel_rfl) (fun _ _ _ h => h) (Or.inl ⟨by rfl, ?_⟩) ?_ ?_
                    rotate_left
                    · intro w'
                      go_simp
                      with_reducible rfl
                    rotate_left
                    · simp only [Act.put, List.setIfInBounds_toArray, List.set_cons_zero, List.set_cons_succ, i64_w, i32_w]
                      rfl
                    refine pure_ (i := 2) (N := some 120) (v := undef) (a' := ?_) #[true, true, true, false, false, false, false, false, false, false, false, false, false, false, false] rfl rfl (by kernel_rfl) (fun _ _ _ h => h) (Or.inr ⟨by rfl, rfl⟩) ?_ ?_
                    rotate_left
                    · simp only [Act.put, List.setIfInBounds_toArray, List.set_cons_zero, List.set_cons_succ, i64_w, i32_w]
                      rfl
                    refine pure_ (i := 3) (N := some 121) (v := undef) (a' := ?_) #[true, true, true, true, false, false, false, false, false, false, false, false, false, false, false] rfl rfl (by kernel_rfl) (fun _ _ _ h => h) (Or.inr ⟨by rfl, rfl⟩) ?_ ?_
                    rotate_left
                    · simp only [Act.put, List.setIfInBounds_toArray, List.set_cons_zero, List.set_cons_succ, i64_w, i32_w]
                      rfl
                    refine pure_ (i := 4) (N := some 122) (v := undef) (a' := ?_) #[true, true, true, true, true, false, false, false, false, false, false, false, false, false, false] rfl rfl (by kernel_rfl) (fun _ _ _ h => h) (Or.inr ⟨by rfl, rfl⟩) ?_ ?_
                    rotate_left
                    · simp only [Act.put, List.setIfInBounds_toArray, List.set_cons_zero, List.set_cons_succ, i64_w, i32_w]
                      rfl
                    refine pure_ (i := 5) (N := some 123) (v := undef) (a' := ?_) #[true, true, true, true, true, true, false, false, false, false, false, false, false, false, false] rfl rfl (by kernel_rfl) (fun _ _ _ h => h) (Or.inr ⟨by rfl, rfl⟩) ?_ ?_
                    rotate_left
                    · simp only [Act.put, List.setIfInBounds_toArray, List.set_cons_zero, List.set_cons_succ, i64_w, i32_w]
                      rfl
                    refine pure_ (i := 6) (N := some 124) (v := undef) (a' := ?_) #[true, true, true, true, true, true, true, false, false, false, false, false, false, false, false] rfl rfl (by kernel_rfl) (fun _ _ _ h => h) (Or.inr ⟨by rfl, rfl⟩) ?_ ?_
                    rotate_left
                    · simp only [Act.put, List.setIfInBounds_toArray, List.set_cons_zero, List.set_cons_succ, i64_w, i32_w]
                      rfl
                    refine pure_ (i := 7) (N := some 125) (v := undef) (a' := ?_) #[true, true, true, true, true, true, true, true, false, false, false, false, false, false, false] rfl rfl (by kernel_rfl) (fun _ _ _ h => h) (Or.inr ⟨by rfl, rfl⟩) ?_ ?_
                    rotate_left
                    · simp only [Act.put, List.setIfInBounds_toArray, List.set_cons_zero, List.set_cons_succ, i64_w, i32_w]
                      rfl
                    refine pure_ (i := 8) (N := some 126) (v := undef) (a' := ?_) #[true, true, true, true, true, true, true, true, true, false, false, false, false, false, false] rfl rfl (by kernel_rfl) (fun _ _ _ h => h) (Or.inr ⟨by rfl, rfl⟩) ?_ ?_
                    rotate_left
                    · simp only [Act.put, List.setIfInBounds_toArray, List.set_cons_zero, List.set_cons_succ, i64_w, i32_w]
                      rfl
                    refine pure_ (i := 9) (N := some 127) (v := undef) (a' := ?_) #[true, true, true, true, true, true, true, true, true, true, false, false, false, false, false] rfl rfl (by kernel_rfl) (fun _ _ _ h => h) (Or.inr ⟨by rfl, rfl⟩) ?_ ?_
                    rotate_left
                    · simp only [Act.put, List.setIfInBounds_toArray, List.set_cons_zero, List.set_cons_succ, i64_w, i32_w]
                      rfl
                    refine pure_ (i := 10) (N := some 128) (v := undef) (a' := ?_) #[true, true, true, true, true, true, true, true, true, true, true, false, false, false, false] rfl rfl (by kernel_rfl) (fun _ _ _ h => h) (Or.inr ⟨by rfl, rfl⟩) ?_ ?_
                    rotate_left
                    · simp only [Act.put, List.setIfInBounds_toArray, List.set_cons_zero, List.set_cons_succ, i64_w, i32_w]
                      rfl
                    refine pure_ (i := 11) (N := some 129) (v := undef) (a' := ?_) #[true, true, true, true, true, true, true, true, true, true, true, true, false, false, false] rfl rfl (by kernel_rfl) (fun _ _ _ h => h) (Or.inr ⟨by rfl, rfl⟩) ?_ ?_
                    rotate_left
                    · simp only [Act.put, List.setIfInBounds_toArray, List.set_cons_zero, List.set_cons_succ, i64_w, i32_w]
                      rfl
                    refine pure_ (i := 12) (N := some 130) (v := undef) (a' := ?_) #[true, true, true, true, true, true, true, true, true, true, true, true, true, false, false] rfl rfl (by kernel_rfl) (fun _ _ _ h => h) (Or.inr ⟨by rfl, rfl⟩) ?_ ?_
                    rotate_left
                    · simp only [Act.put, List.setIfInBounds_toArray, List.set_cons_zero, List.set_cons_succ, i64_w, i32_w]
                      rfl
                    refine pure_ (i := 13) (N := some 131) (v := ?_) (a' := ?_) #[true, true, true, true, true, true, true, true, true, true, true, true, true, true, false] rfl rfl (by kernel_rfl) (fun _ _ _ h => h) (Or.inl ⟨by rfl, ?_⟩) ?_ ?_
                    rotate_left
                    · intro w'
                      go_simp
                      with_reducible rfl
                    rotate_left
                    · simp only [Act.put, List.setIfInBounds_toArray, List.set_cons_zero, List.set_cons_succ, i64_w, i32_w]
                      rfl
                    refine pure_ (i := 14) (N := some 15) (v := ?_) (a' := ?_) #[true, true, true, true, true, true, true, true, true, true, true, true, true, true, true] rfl rfl (by kernel_rfl) (fun _ _ _ h => h) (Or.inl ⟨by rfl, ?_⟩) ?_ ?_
                    rotate_left
                    · intro w'
                      go_simp
                      with_reducible rfl
                    rotate_left
                    · simp only [Act.put, List.setIfInBounds_toArray, List.set_cons_zero, List.set_cons_succ, i64_w, i32_w]
                      rfl
                    refine done_ (by kernel_rfl) ?_
                    have HS9 := Aside0.mk (HS7.out.on HBw9.out)
                    clear HBw9 HS7 hb3
                    go_wp2_with fail
                    go_roundw
                    case rel => exact ⟨k2 + 1, by omega, by omega, by rw [HANY.out]; rfl, by simp, HS9⟩
                    case measure => simp [intOf]; omega
                  | false =>
                    go_wp2_with fail
                    rw [← e8] at HS7 ⊢
                    clear e8
                    obtain ⟨w9, e_w9⟩ : ∃ w_, w_ = World.drew w8 := ⟨_, rfl⟩
                    have HBw9 := Aside0.mk (show Below (World.heap w8).size w8 w9 by rw [e_w9]; exact below_drew (Below.refl _ _))
                    refine start_ (n := 15) (S := fun w' => w'.cell? ⟨bx, 3, none⟩ = some (.slice (some ad4) n4 c4) ∧ w'.cell? (ad4.add (k2 * 9)) = some (.int .i64 x.f0.f0) ∧ w'.cell? ⟨(ad4.add (k2 * 9)).block, (ad4.add (k2 * 9)).off + 1, none⟩ = some (.int .i64 x.f0.f1) ∧ w'.cell? ⟨(ad4.add (k2 * 9)).block, (ad4.add (k2 * 9)).off + 2, none⟩ = some (.string x.f1) ∧ w'.cell? ⟨(ad4.add (k2 * 9)).block, (ad4.add (k2 * 9)).off + 3, none⟩ = some (.int .i64 x.f2) ∧ w'.cell? ⟨(ad4.add (k2 * 9)).block, (ad4.add (k2 * 9)).off + 4, none⟩ = some (.string x.f3) ∧ w'.cell? ⟨(ad4.add (k2 * 9)).block, (ad4.add (k2 * 9)).off + 5, none⟩ = some (.string x.f4.f0) ∧ w'.cell? ⟨(ad4.add (k2 * 9)).block, (ad4.add (k2 * 9)).off + 6, none⟩ = some (.string x.f4.f1) ∧ w'.cell? ⟨(ad4.add (k2 * 9)).block, (ad4.add (k2 * 9)).off + 7, none⟩ = some (.string x.f5.f0) ∧ w'.cell? ⟨(ad4.add (k2 * 9)).block, (ad4.add (k2 * 9)).off + 8, none⟩ = some (.string x.f5.f1) ∧ w'.cell? (ad5.add (i2 * 10)) = some (.int .i64 h.f0.f0.f0) ∧ w'.cell? ⟨(ad5.add (i2 * 10)).block, (ad5.add (i2 * 10)).off + 1, none⟩ = some (.int .i64 h.f0.f0.f1) ∧ w'.cell? ⟨(ad5.add (i2 * 10)).block, (ad5.add (i2 * 10)).off + 2, none⟩ = some (.string h.f0.f1) ∧ w'.cell? ⟨(ad5.add (i2 * 10)).block, (ad5.add (i2 * 10)).off + 3, none⟩ = some (.int .i64 h.f0.f2) ∧ w'.cell? ⟨(ad5.add (i2 * 10)).block, (ad5.add (i2 * 10)).off + 4, none⟩ = some (.string h.f0.f3) ∧ w'.cell? ⟨(ad5.add (i2 * 10)).block, (ad5.add (i2 * 10)).off + 5, none⟩ = some (.string h.f0.f4.f0) ∧ w'.cell? ⟨(ad5.add (i2 * 10)).block, (ad5.add (i2 * 10)).off + 6, none⟩ = some (.string h.f0.f4.f1) ∧ w'.cell? ⟨(ad5.add (i2 * 10)).block, (ad5.add (i2 * 10)).off + 7, none⟩ = some (.string h.f0.f5.f0) ∧ w'.cell? ⟨(ad5.add (i2 * 10)).block, (ad5.add (i2 * 10)).off + 8, none⟩ = some (.string h.f0.f5.f1)) (ds := []) #[false, false, false, false, false, false, false, false, false, false, false, false, false, false, false] (by kernel_rfl) rfl rfl ⟨(by rw [← e_w9]; exact (cell_blk (blk_see (HS7.out.on HBw9.out) 4 rfl) 3 rfl)), (by rw [← e_w9]; exact (pw_cell_below HBw9.out HAT.out.1)), (by rw [← e_w9]; exact (pw_cell_below HBw9.out HAT.out.2.1)), (by rw [← e_w9]; exact (pw_cell_below HBw9.out HAT.out.2.2.1)), (by rw [← e_w9]; exact (pw_cell_below HBw9.out HAT.out.2.2.2.1)), (by rw [← e_w9]; exact (pw_cell_below HBw9.out HAT.out.2.2.2.2.1)), (by rw [← e_w9]; exact (pw_cell_below HBw9.out HAT.out.2.2.2.2.2.1)), (by rw [← e_w9]; exact (pw_cell_below HBw9.out HAT.out.2.2.2.2.2.2.1)), (by rw [← e_w9]; exact (pw_cell_below HBw9.out HAT.out.2.2.2.2.2.2.2.1)), (by rw [← e_w9]; exact (pw_cell_below HBw9.out HAT.out.2.2.2.2.2.2.2.2)), (by rw [← e_w9]; exact (row_at10 (HS7.out.on HBw9.out) 3 rfl i2 (by rw [HNL.out]; exact HI2.out) HEH.out).1), (by rw [← e_w9]; exact (row_at10 (HS7.out.on HBw9.out) 3 rfl i2 (by rw [HNL.out]; exact HI2.out) HEH.out).2.1), (by rw [← e_w9]; exact (row_at10 (HS7.out.on HBw9.out) 3 rfl i2 (by rw [HNL.out]; exact HI2.out) HEH.out).2.2.1), (by rw [← e_w9]; exact (row_at10 (HS7.out.on HBw9.out) 3 rfl i2 (by rw [HNL.out]; exact HI2.out) HEH.out).2.2.2.1), (by rw [← e_w9]; exact (row_at10 (HS7.out.on HBw9.out) 3 rfl i2 (by rw [HNL.out]; exact HI2.out) HEH.out).2.2.2.2.1), (by rw [← e_w9]; exact (row_at10 (HS7.out.on HBw9.out) 3 rfl i2 (by rw [HNL.out]; exact HI2.out) HEH.out).2.2.2.2.2.1), (by rw [← e_w9]; exact (row_at10 (HS7.out.on HBw9.out) 3 rfl i2 (by rw [HNL.out]; exact HI2.out) HEH.out).2.2.2.2.2.2.1), (by rw [← e_w9]; exact (row_at10 (HS7.out.on HBw9.out) 3 rfl i2 (by rw [HNL.out]; exact HI2.out) HEH.out).2.2.2.2.2.2.2.1), (by rw [← e_w9]; exact (row_at10 (HS7.out.on HBw9.out) 3 rfl i2 (by rw [HNL.out]; exact HI2.out) HEH.out).2.2.2.2.2.2.2.2.1)⟩ (fun hHeld => ?_)
                    rw [← e_w9] at hHeld ⊢
                    clear e_w9
                    refine pure_ (i := 0) (N := some 118) (v := ?_) (a' := ?_) #[true, false, false, false, false, false, false, false, false, false, false, false, false, false, false] rfl rfl (by kernel_rfl) (fun _ _ _ h => h) (Or.inl ⟨by rfl, ?_⟩) ?_ ?_
                    rotate_left
                    · intro w'
                      go_simp
                      with_reducible rfl
                    rotate_left
                    · simp only [Act.put, List.setIfInBounds_toArray, List.set_cons_zero, List.set_cons_succ, i64_w, i32_w]
                      rfl
                    refine pure_ (i := 1) (N := some 119) (v := ?_) (a' := ?_) #[true, true, false, false, false, false, false, false, false, false, false, false, false, false, false] rfl rfl (by kernel_rfl) (fun _ _ _ h => h) (Or.inl ⟨by rfl, ?_⟩) ?_ ?_
                    rotate_left
                    · intro w'
                      go_simp
                      with_reducible rfl
                    rotate_left
                    · simp only [Act.put, List.setIfInBounds_toArray, List.set_cons_zero, List.set_cons_succ, i64_w, i32_w]
                      rfl
                    refine pure_ (i := 2) (N := some 120) (v := ?_) (a' := ?_) #[true, true, true, false, false, false, false, false, false, false, false, false, false, false, false] rfl rfl (by kernel_rfl) (fun _ _ _ h => h) (Or.inl ⟨by rfl, ?_⟩) ?_ ?_
                    rotate_left
                    · intro w'
                      go_simp
                      with_reducible rfl
                    rotate_left
                    · simp only [Act.put, List.setIfInBounds_toArray, List.set_cons_zero, List.set_cons_succ, i64_w, i32_w]
                      rfl
                    refine pure_ (i := 4) (N := some 122) (v := ?_) (a' := ?_) #[true, true, true, false, true, false, false, false, false, false, false, false, false, false, false] rfl rfl (by kernel_rfl) (fun _ _ _ h => h) (Or.inl ⟨by rfl, ?_⟩) ?_ ?_
                    rotate_left
                    · intro w'
                      go_simp
                      with_reducible rfl
                    rotate_left
                    · simp only [Act.put, List.setIfInBounds_toArray, List.set_cons_zero, List.set_cons_succ, i64_w, i32_w]
                      rfl
                    refine pure_ (i := 7) (N := some 125) (v := ?_) (a' := ?_) #[true, true, true, false, true, false, false, true, false, false, false, false, false, false, false] rfl rfl (by kernel_rfl) (fun _ _ _ h => h) (Or.inl ⟨by rfl, ?_⟩) ?_ ?_
                    rotate_left
                    · intro w'
                      go_simp
                      with_reducible rfl
                    rotate_left
                    · simp only [Act.put, List.setIfInBounds_toArray, List.set_cons_zero, List.set_cons_succ, i64_w, i32_w]
                      rfl
                    refine pure_ (i := 8) (N := some 126) (v := ?_) (a' := ?_) #[true, true, true, false, true, false, false, true, true, false, false, false, false, false, false] rfl rfl (by kernel_rfl) (fun _ _ _ h => h) (Or.inl ⟨by rfl, ?_⟩) ?_ ?_
                    rotate_left
                    · intro w'
                      go_simp
                      with_reducible rfl
                    rotate_left
                    · simp only [Act.put, List.setIfInBounds_toArray, List.set_cons_zero, List.set_cons_succ, i64_w, i32_w]
                      rfl
                    refine pure_ (i := 9) (N := some 127) (v := ?_) (a' := ?_) #[true, true, true, false, true, false, false, true, true, true, false, false, false, false, false] rfl rfl (by kernel_rfl) (fun _ _ _ h => h) (Or.inl ⟨by rfl, ?_⟩) ?_ ?_
                    rotate_left
                    · intro w'
                      go_simp
                      with_reducible rfl
                    rotate_left
                    · simp only [Act.put, List.setIfInBounds_toArray, List.set_cons_zero, List.set_cons_succ, i64_w, i32_w]
                      rfl
                    refine pure_ (i := 10) (N := some 128) (v := ?_) (a' := ?_) #[true, true, true, false, true, false, false, true, true, true, true, false, false, false, false] rfl rfl (by kernel_rfl) (fun _ _ _ h => h) (Or.inl ⟨by rfl, ?_⟩) ?_ ?_
                    rotate_left
                    · intro w'
                      go_simp
                      with_reducible rfl
                    rotate_left
                    · simp only [Act.put, List.setIfInBounds_toArray, List.set_cons_zero, List.set_cons_succ, i64_w, i32_w]
                      rfl
                    refine take_ (i := 3) (N := some 121) (v := ?_) (a' := ?_) #[true, true, true, true, true, false, false, true, true, true, true, false, false, false, false] rfl rfl (by kernel_rfl) (fun _ _ _ h => h) (Or.inl ⟨by rfl, ?_⟩) hHeld ?_ ?_
                    rotate_left
                    · rintro w' ⟨s0, s1, s2, s3, s4, s5, s6, s7, s8, s9, s10, s11, s12, s13, s14, s15, s16, s17, s18⟩
                      go_simp
                      with_reducible rfl
                    rotate_left
                    · simp only [Act.put, List.setIfInBounds_toArray, List.set_cons_zero, List.set_cons_succ, i64_w, i32_w]
                      rfl
                    refine pure_ (i := 5) (N := some 123) (v := ?_) (a' := ?_) #[true, true, true, true, true, true, false, true, true, true, true, false, false, false, false] rfl rfl (by kernel_rfl) (fun _ _ _ h => h) (Or.inl ⟨by rfl, ?_⟩) ?_ ?_
                    rotate_left
                    · intro w'
                      go_simp
                      with_reducible rfl
                    rotate_left
                    · simp only [Act.put, List.setIfInBounds_toArray, List.set_cons_zero, List.set_cons_succ, i64_w, i32_w]
                      rfl
                    refine take_ (i := 6) (N := some 124) (v := ?_) (a' := ?_) #[true, true, true, true, true, true, true, true, true, true, true, false, false, false, false] rfl rfl (by kernel_rfl) (fun _ _ _ h => h) (Or.inl ⟨by rfl, ?_⟩) hHeld ?_ ?_
                    rotate_left
                    · rintro w' ⟨s0, s1, s2, s3, s4, s5, s6, s7, s8, s9, s10, s11, s12, s13, s14, s15, s16, s17, s18⟩
                      go_simp
                      with_reducible rfl
                    rotate_left
                    · simp only [Act.put, List.setIfInBounds_toArray, List.set_cons_zero, List.set_cons_succ, i64_w, i32_w]
                      rfl
                    refine take_ (i := 11) (N := some 129) (v := ?_) (a' := ?_) #[true, true, true, true, true, true, true, true, true, true, true, true, false, false, false] rfl rfl (by kernel_rfl) (fun _ _ _ h => h) (Or.inl ⟨by rfl, ?_⟩) hHeld ?_ ?_
                    rotate_left
                    · rintro w' ⟨s0, s1, s2, s3, s4, s5, s6, s7, s8, s9, s10, s11, s12, s13, s14, s15, s16, s17, s18⟩
                      go_simp
                      with_reducible rfl
                    rotate_left
                    · simp only [Act.put, List.setIfInBounds_toArray, List.set_cons_zero, List.set_cons_succ, i64_w, i32_w]
                      rfl
                    refine pure_ (i := 12) (N := some 130) (v := ?_) (a' := ?_) #[true, true, true, true, true, true, true, true, true, true, true, true, true, false, false] rfl rfl (by kernel_rfl) (fun _ _ _ h => h) (Or.inl ⟨by rfl, ?_⟩) ?_ ?_
                    rotate_left
                    · intro w'
                      go_simp
                      with_reducible rfl
                    rotate_left
                    · simp only [Act.put, List.setIfInBounds_toArray, List.set_cons_zero, List.set_cons_succ, i64_w, i32_w]
                      rfl
                    refine pure_ (i := 13) (N := some 131) (v := ?_) (a' := ?_) #[true, true, true, true, true, true, true, true, true, true, true, true, true, true, false] rfl rfl (by kernel_rfl) (fun _ _ _ h => h) (Or.inl ⟨by rfl, ?_⟩) ?_ ?_
                    rotate_left
                    · intro w'
                      go_simp
                      with_reducible rfl
                    rotate_left
                    · simp only [Act.put, List.setIfInBounds_toArray, List.set_cons_zero, List.set_cons_succ, i64_w, i32_w]
                      rfl
                    refine pure_ (i := 14) (N := some 15) (v := ?_) (a' := ?_) #[true, true, true, true, true, true, true, true, true, true, true, true, true, true, true] rfl rfl (by kernel_rfl) (fun _ _ _ h => h) (Or.inl ⟨by rfl, ?_⟩) ?_ ?_
                    rotate_left
                    · intro w'
                      go_simp
                      with_reducible rfl
                    rotate_left
                    · simp only [Act.put, List.setIfInBounds_toArray, List.set_cons_zero, List.set_cons_succ, i64_w, i32_w]
                      rfl
                    refine done_ (by kernel_rfl) ?_
                    obtain ⟨t, et⟩ : ∃ t, eqC x h.f0 = t := ⟨_, rfl⟩
                    have e27 : ((x.f0.f0 == h.f0.f0.f0 && (x.f0.f1 == h.f0.f0.f1)) && (x.f1.toList == h.f0.f1.toList && (x.f2 == h.f0.f2 && (x.f3.toList == h.f0.f3.toList && ((x.f4.f0.toList == h.f0.f4.f0.toList && (x.f4.f1.toList == h.f0.f4.f1.toList)) && ((x.f5.f0.toList == h.f0.f5.f0.toList && (x.f5.f1.toList == h.f0.f5.f1.toList)))))))) = t := et
                    rw [e27]
                    have HET := Aside0.mk et
                    have HS9 := Aside0.mk (HS7.out.on HBw9.out)
                    clear HBw9 HS7 hb3 e27 et
                    go_wp2_with fail
                    go_roundw
                    case rel => exact ⟨k2 + 1, by omega, by omega, by rw [HANY.out, HET.out]; rfl, by simp, HS9⟩
                    case measure => simp [intOf]; omega
                · have hany : ((l.take k2).any fun x => eqC x h.f0) = true := List.any_eq_true.2 ⟨h.f0, by
                    have h1 := HIN.out
                    have h2 := HN4.out
                    by_cases h3 : k2 = 40
                    · rw [h3]; exact h1
                    · rw [List.take_of_length_le (by omega)] at h1 ⊢
                      exact h1, eqC_iff.2 rfl⟩
                  rw [hany]
                  clear hany
                  obtain ⟨z0, z3, z4, z5⟩ := HUN.out
                  have z1 : decide (wrap64 (s + 56) < h.f1) = false := decide_eq_false (by unfold wrap64; omega)
                  have z2 : decide (h.f1 ≤ a2) = false := decide_eq_false (by omega)
                  by_cases hk : k2 < n4
                  · have hk4 : k2 = 40 := by omega
                    subst hk4
                    have u1 : decide ((40 : Int) < (n4 : Int)) = true := decide_eq_true (by omega)
                    clear hgo2
                    go_wp2_with fail
                    rw [← e8] at HS7 ⊢
                    clear e8
                    obtain ⟨w9, e_w9⟩ : ∃ w_, w_ = World.drew w8 := ⟨_, rfl⟩
                    have HBw9 := Aside0.mk (show Below (World.heap w8).size w8 w9 by rw [e_w9]; exact below_drew (Below.refl _ _))
                    refine start_ (n := 22) (S := fun w' => w'.cell? ⟨(ad5.add (i2 * 10)).block, (ad5.add (i2 * 10)).off + 9, none⟩ = some (.int .i64 h.f1) ∧ w'.cell? ⟨bx, 2, none⟩ = some (.int .i64 s)) (ds := []) #[false, false, false, false, false, false, false, false, false, false, false, false, false, false, false, false, false, false, false, false, false, false] (by kernel_rfl) rfl rfl ⟨(by rw [← e_w9]; exact (row_at10 (HS7.out.on HBw9.out) 3 rfl i2 (by rw [HNL.out]; exact HI2.out) HEH.out).2.2.2.2.2.2.2.2.2), (by rw [← e_w9]; exact (cell_blk (blk_see (HS7.out.on HBw9.out) 4 rfl) 2 rfl))⟩ (fun hHeld => ?_)
                    rw [← e_w9] at hHeld ⊢
                    clear e_w9
                    refine pure_ (i := 0) (N := some 132) (v := ?_) (a' := ?_) #[true, false, false, false, false, false, false, false, false, false, false, false, false, false, false, false, false, false, false, false, false, false] rfl rfl (by kernel_rfl) (fun _ _ _ h => h) (Or.inl ⟨by rfl, ?_⟩) ?_ ?_
                    rotate_left
                    · intro w'
                      go_simp
                      with_reducible rfl
                    rotate_left
                    · simp only [Act.put, List.setIfInBounds_toArray, List.set_cons_zero, List.set_cons_succ, i64_w, i32_w]
                      rfl
                    refine pure_ (i := 1) (N := some 133) (v := ?_) (a' := ?_) #[true, true, false, false, false, false, false, false, false, false, false, false, false, false, false, false, false, false, false, false, false, false] rfl rfl (by kernel_rfl) (fun _ _ _ h => h) (Or.inl ⟨by rfl, ?_⟩) ?_ ?_
                    rotate_left
                    · intro w'
                      go_simp
                      with_reducible rfl
                    rotate_left
                    · simp only [Act.put, List.setIfInBounds_toArray, List.set_cons_zero, List.set_cons_succ, i64_w, i32_w]
                      rfl
                    refine pure_ (i := 2) (N := some 134) (v := ?_) (a' := ?_) #[true, true, true, false, false, false, false, false, false, false, false, false, false, false, false, false, false, false, false, false, false, false] rfl rfl (by kernel_rfl) (fun _ _ _ h => h) (Or.inl ⟨by rfl, ?_⟩) ?_ ?_
                    rotate_left
                    · intro w'
                      go_simp
                      with_reducible rfl
                    rotate_left
                    · simp only [Act.put, List.setIfInBounds_toArray, List.set_cons_zero, List.set_cons_succ, i64_w, i32_w]
                      rfl
                    refine pure_ (i := 3) (N := some 135) (v := ?_) (a' := ?_) #[true, true, true, true, false, false, false, false, false, false, false, false, false, false, false, false, false, false, false, false, false, false] rfl rfl (by kernel_rfl) (fun _ _ _ h => h) (Or.inl ⟨by rfl, ?_⟩) ?_ ?_
                    rotate_left
                    · intro w'
                      go_simp
                      with_reducible rfl
                    rotate_left
                    · simp only [Act.put, List.setIfInBounds_toArray, List.set_cons_zero, List.set_cons_succ, i64_w, i32_w]
                      rfl
                    refine pure_ (i := 4) (N := some 136) (v := ?_) (a' := ?_) #[true, true, true, true, true, false, false, false, false, false, false, false, false, false, false, false, false, false, false, false, false, false] rfl rfl (by kernel_rfl) (fun _ _ _ h => h) (Or.inl ⟨by rfl, ?_⟩) ?_ ?_
                    rotate_left
                    · intro w'
                      go_simp
                      with_reducible rfl
                    rotate_left
                    · simp only [Act.put, List.setIfInBounds_toArray, List.set_cons_zero, List.set_cons_succ, i64_w, i32_w]
                      rfl
                    refine pure_ (i := 5) (N := some 137) (v := ?_) (a' := ?_) #[true, true, true, true, true, true, false, false, false, false, false, false, false, false, false, false, false, false, false, false, false, false] rfl rfl (by kernel_rfl) (fun _ _ _ h => h) (Or.inl ⟨by rfl, ?_⟩) ?_ ?_
                    rotate_left
                    · intro w'
                      go_simp
                      with_reducible rfl
                    rotate_left
                    · simp only [Act.put, List.setIfInBounds_toArray, List.set_cons_zero, List.set_cons_succ, i64_w, i32_w]
                      rfl
                    refine pure_ (i := 6) (N := some 138) (v := ?_) (a' := ?_) #[true, true, true, true, true, true, true, false, false, false, false, false, false, false, false, false, false, false, false, false, false, false] rfl rfl (by kernel_rfl) (fun _ _ _ h => h) (Or.inl ⟨by rfl, ?_⟩) ?_ ?_
                    rotate_left
                    · intro w'
                      go_simp
                      with_reducible rfl
                    rotate_left
                    · simp only [Act.put, List.setIfInBounds_toArray, List.set_cons_zero, List.set_cons_succ, i64_w, i32_w]
                      rfl
                    refine pure_ (i := 8) (N := some 140) (v := ?_) (a' := ?_) #[true, true, true, true, true, true, true, false, true, false, false, false, false, false, false, false, false, false, false, false, false, false] rfl rfl (by kernel_rfl) (fun _ _ _ h => h) (Or.inl ⟨by rfl, ?_⟩) ?_ ?_
                    rotate_left
                    · intro w'
                      go_simp
                      with_reducible rfl
                    rotate_left
                    · simp only [Act.put, List.setIfInBounds_toArray, List.set_cons_zero, List.set_cons_succ, i64_w, i32_w]
                      rfl
                    refine take_ (i := 7) (N := some 139) (v := ?_) (a' := ?_) #[true, true, true, true, true, true, true, true, true, false, false, false, false, false, false, false, false, false, false, false, false, false] rfl rfl (by kernel_rfl) (fun _ _ _ h => h) (Or.inl ⟨by rfl, ?_⟩) hHeld ?_ ?_
                    rotate_left
                    · rintro w' ⟨s0, s1⟩
                      go_simp
                      with_reducible rfl
                    rotate_left
                    · simp only [Act.put, List.setIfInBounds_toArray, List.set_cons_zero, List.set_cons_succ, i64_w, i32_w]
                      rfl
                    refine take_ (i := 9) (N := some 141) (v := ?_) (a' := ?_) #[true, true, true, true, true, true, true, true, true, true, false, false, false, false, false, false, false, false, false, false, false, false] rfl rfl (by kernel_rfl) (fun _ _ _ h => h) (Or.inl ⟨by rfl, ?_⟩) hHeld ?_ ?_
                    rotate_left
                    · rintro w' ⟨s0, s1⟩
                      go_simp
                      with_reducible rfl
                    rotate_left
                    · simp only [Act.put, List.setIfInBounds_toArray, List.set_cons_zero, List.set_cons_succ, i64_w, i32_w]
                      rfl
                    refine pure_ (i := 10) (N := some 142) (v := ?_) (a' := ?_) #[true, true, true, true, true, true, true, true, true, true, true, false, false, false, false, false, false, false, false, false, false, false] rfl rfl (by kernel_rfl) (fun _ _ _ h => h) (Or.inl ⟨by rfl, ?_⟩) ?_ ?_
                    rotate_left
                    · intro w'
                      go_simp
                      with_reducible rfl
                    rotate_left
                    · simp only [Act.put, List.setIfInBounds_toArray, List.set_cons_zero, List.set_cons_succ, i64_w, i32_w]
                      rfl
                    refine pure_ (i := 11) (N := some 143) (v := ?_) (a' := ?_) #[true, true, true, true, true, true, true, true, true, true, true, true, false, false, false, false, false, false, false, false, false, false] rfl rfl (by kernel_rfl) (fun _ _ _ h => h) (Or.inl ⟨by rfl, ?_⟩) ?_ ?_
                    rotate_left
                    · intro w'
                      go_simp
                      with_reducible rfl
                    rotate_left
                    · simp only [Act.put, List.setIfInBounds_toArray, List.set_cons_zero, List.set_cons_succ, i64_w, i32_w]
                      rfl
                    refine pure_ (i := 12) (N := some 144) (v := ?_) (a' := ?_) #[true, true, true, true, true, true, true, true, true, true, true, true, true, false, false, false, false, false, false, false, false, false] rfl rfl (by kernel_rfl) (fun _ _ _ h => h) (Or.inl ⟨by rfl, ?_⟩) ?_ ?_
                    rotate_left
                    · intro w'
                      go_simp
                      with_reducible rfl
                    rotate_left
                    · simp only [Act.put, List.setIfInBounds_toArray, List.set_cons_zero, List.set_cons_succ, i64_w, i32_w]
                      rfl
                    refine pure_ (i := 13) (N := some 145) (v := ?_) (a' := ?_) #[true, true, true, true, true, true, true, true, true, true, true, true, true, true, false, false, false, false, false, false, false, false] rfl rfl (by kernel_rfl) (fun _ _ _ h => h) (Or.inl ⟨by rfl, ?_⟩) ?_ ?_
                    rotate_left
                    · intro w'
                      go_simp
                      with_reducible rfl
                    rotate_left
                    · simp only [Act.put, List.setIfInBounds_toArray, List.set_cons_zero, List.set_cons_succ, i64_w, i32_w]
                      rfl
                    refine pure_ (i := 14) (N := some 146) (v := ?_) (a' := ?_) #[true, true, true, true, true, true, true, true, true, true, true, true, true, true, true, false, false, false, false, false, false, false] rfl rfl (by kernel_rfl) (fun _ _ _ h => h) (Or.inl ⟨by rfl, ?_⟩) ?_ ?_
                    rotate_left
                    · intro w'
                      go_simp
                      with_reducible rfl
                    rotate_left
                    · simp only [Act.put, List.setIfInBounds_toArray, List.set_cons_zero, List.set_cons_succ, i64_w, i32_w]
                      rfl
                    refine pure_ (i := 15) (N := some 147) (v := ?_) (a' := ?_) #[true, true, true, true, true, true, true, true, true, true, true, true, true, true, true, true, false, false, false, false, false, false] rfl rfl (by kernel_rfl) (fun _ _ _ h => h) (Or.inl ⟨by rfl, ?_⟩) ?_ ?_
                    rotate_left
                    · intro w'
                      go_simp
                      with_reducible rfl
                    rotate_left
                    · simp only [Act.put, List.setIfInBounds_toArray, List.set_cons_zero, List.set_cons_succ, i64_w, i32_w]
                      rfl
                    refine pure_ (i := 16) (N := some 148) (v := ?_) (a' := ?_) #[true, true, true, true, true, true, true, true, true, true, true, true, true, true, true, true, true, false, false, false, false, false] rfl rfl (by kernel_rfl) (fun _ _ _ h => h) (Or.inl ⟨by rfl, ?_⟩) ?_ ?_
                    rotate_left
                    · intro w'
                      go_simp
                      with_reducible rfl
                    rotate_left
                    · simp only [Act.put, List.setIfInBounds_toArray, List.set_cons_zero, List.set_cons_succ, i64_w, i32_w]
                      rfl
                    refine pure_ (i := 17) (N := some 149) (v := ?_) (a' := ?_) #[true, true, true, true, true, true, true, true, true, true, true, true, true, true, true, true, true, true, false, false, false, false] rfl rfl (by kernel_rfl) (fun _ _ _ h => h) (Or.inl ⟨by rfl, ?_⟩) ?_ ?_
                    rotate_left
                    · intro w'
                      go_simp
                      with_reducible rfl
                    rotate_left
                    · simp only [Act.put, List.setIfInBounds_toArray, List.set_cons_zero, List.set_cons_succ, i64_w, i32_w]
                      rfl
                    refine pure_ (i := 18) (N := some 150) (v := ?_) (a' := ?_) #[true, true, true, true, true, true, true, true, true, true, true, true, true, true, true, true, true, true, true, false, false, false] rfl rfl (by kernel_rfl) (fun _ _ _ h => h) (Or.inl ⟨by rfl, ?_⟩) ?_ ?_
                    rotate_left
                    · intro w'
                      go_simp
                      with_reducible rfl
                    rotate_left
                    · simp only [Act.put, List.setIfInBounds_toArray, List.set_cons_zero, List.set_cons_succ, i64_w, i32_w]
                      rfl
                    refine take_ (i := 19) (N := some 151) (v := ?_) (a' := ?_) #[true, true, true, true, true, true, true, true, true, true, true, true, true, true, true, true, true, true, true, true, false, false] rfl rfl (by kernel_rfl) (fun _ _ _ h => h) (Or.inl ⟨by rfl, ?_⟩) hHeld ?_ ?_
                    rotate_left
                    · rintro w' ⟨s0, s1⟩
                      go_simp
                      with_reducible rfl
                    rotate_left
                    · simp only [Act.put, List.setIfInBounds_toArray, List.set_cons_zero, List.set_cons_succ, i64_w, i32_w]
                      rfl
                    refine pure_ (i := 20) (N := some 152) (v := ?_) (a' := ?_) #[true, true, true, true, true, true, true, true, true, true, true, true, true, true, true, true, true, true, true, true, true, false] rfl rfl (by kernel_rfl) (fun _ _ _ h => h) (Or.inl ⟨by rfl, ?_⟩) ?_ ?_
                    rotate_left
                    · intro w'
                      go_simp
                      with_reducible rfl
                    rotate_left
                    · simp only [Act.put, List.setIfInBounds_toArray, List.set_cons_zero, List.set_cons_succ, i64_w, i32_w]
                      rfl
                    refine pure_ (i := 21) (N := some 153) (v := ?_) (a' := ?_) #[true, true, true, true, true, true, true, true, true, true, true, true, true, true, true, true, true, true, true, true, true, true] rfl rfl (by kernel_rfl) (fun _ _ _ h => h) (Or.inl ⟨by rfl, ?_⟩) ?_ ?_
                    rotate_left
                    · intro w'
                      go_simp
                      with_reducible rfl
                    rotate_left
                    · simp only [Act.put, List.setIfInBounds_toArray, List.set_cons_zero, List.set_cons_succ, i64_w, i32_w]
                      rfl
                    refine done_ (by kernel_rfl) ?_
                    have HS9 := Aside0.mk (less4 (HS7.out.on HBw9.out))
                    clear HBw9 HS7 hb3
                    go_wp2_with fail
                    go_roundw
                    case rel => exact ⟨i2 + 1, by omega, by simp, HS9⟩
                    case measure => simp [intOf]; omega
                  · have u1 : decide ((k2 : Int) < (n4 : Int)) = false := decide_eq_false (by omega)
                    clear hgo2
                    go_wp2_with fail
                    rw [← e8] at HS7 ⊢
                    clear e8
                    obtain ⟨w9, e_w9⟩ : ∃ w_, w_ = World.drew w8 := ⟨_, rfl⟩
                    have HBw9 := Aside0.mk (show Below (World.heap w8).size w8 w9 by rw [e_w9]; exact below_drew (Below.refl _ _))
                    refine start_ (n := 22) (S := fun w' => w'.cell? ⟨(ad5.add (i2 * 10)).block, (ad5.add (i2 * 10)).off + 9, none⟩ = some (.int .i64 h.f1) ∧ w'.cell? ⟨bx, 2, none⟩ = some (.int .i64 s)) (ds := []) #[false, false, false, false, false, false, false, false, false, false, false, false, false, false, false, false, false, false, false, false, false, false] (by kernel_rfl) rfl rfl ⟨(by rw [← e_w9]; exact (row_at10 (HS7.out.on HBw9.out) 3 rfl i2 (by rw [HNL.out]; exact HI2.out) HEH.out).2.2.2.2.2.2.2.2.2), (by rw [← e_w9]; exact (cell_blk (blk_see (HS7.out.on HBw9.out) 4 rfl) 2 rfl))⟩ (fun hHeld => ?_)
                    rw [← e_w9] at hHeld ⊢
                    clear e_w9
                    refine pure_ (i := 0) (N := some 132) (v := ?_) (a' := ?_) #[true, false, false, false, false, false, false, false, false, false, false, false, false, false, false, false, false, false, false, false, false, false] rfl rfl (by kernel_rfl) (fun _ _ _ h => h) (Or.inl ⟨by rfl, ?_⟩) ?_ ?_
                    rotate_left
                    · intro w'
                      go_simp
                      with_reducible rfl
                    rotate_left
                    · simp only [Act.put, List.setIfInBounds_toArray, List.set_cons_zero, List.set_cons_succ, i64_w, i32_w]
                      rfl
                    refine pure_ (i := 1) (N := some 133) (v := ?_) (a' := ?_) #[true, true, false, false, false, false, false, false, false, false, false, false, false, false, false, false, false, false, false, false, false, false] rfl rfl (by kernel_rfl) (fun _ _ _ h => h) (Or.inl ⟨by rfl, ?_⟩) ?_ ?_
                    rotate_left
                    · intro w'
                      go_simp
                      with_reducible rfl
                    rotate_left
                    · simp only [Act.put, List.setIfInBounds_toArray, List.set_cons_zero, List.set_cons_succ, i64_w, i32_w]
                      rfl
                    refine pure_ (i := 2) (N := some 134) (v := ?_) (a' := ?_) #[true, true, true, false, false, false, false, false, false, false, false, false, false, false, false, false, false, false, false, false, false, false] rfl rfl (by kernel_rfl) (fun _ _ _ h => h) (Or.inl ⟨by rfl, ?_⟩) ?_ ?_
                    rotate_left
                    · intro w'
                      go_simp
                      with_reducible rfl
                    rotate_left
                    · simp only [Act.put, List.setIfInBounds_toArray, List.set_cons_zero, List.set_cons_succ, i64_w, i32_w]
                      rfl
                    refine pure_ (i := 3) (N := some 135) (v := ?_) (a' := ?_) #[true, true, true, true, false, false, false, false, false, false, false, false, false, false, false, false, false, false, false, false, false, false] rfl rfl (by kernel_rfl) (fun _ _ _ h => h) (Or.inl ⟨by rfl, ?_⟩) ?_ ?_
                    rotate_left
                    · intro w'
                      go_simp
                      with_reducible rfl
                    rotate_left
                    · simp only [Act.put, List.setIfInBounds_toArray, List.set_cons_zero, List.set_cons_succ, i64_w, i32_w]
                      rfl
                    refine pure_ (i := 4) (N := some 136) (v := ?_) (a' := ?_) #[true, true, true, true, true, false, false, false, false, false, false, false, false, false, false, false, false, false, false, false, false, false] rfl rfl (by kernel_rfl) (fun _ _ _ h => h) (Or.inl ⟨by rfl, ?_⟩) ?_ ?_
                    rotate_left
                    · intro w'
                      go_simp
                      with_reducible rfl
                    rotate_left
                    · simp only [Act.put, List.setIfInBounds_toArray, List.set_cons_zero, List.set_cons_succ, i64_w, i32_w]
                      rfl
                    refine pure_ (i := 5) (N := some 137) (v := ?_) (a' := ?_) #[true, true, true, true, true, true, false, false, false, false, false, false, false, false, false, false, false, false, false, false, false, false] rfl rfl (by kernel_rfl) (fun _ _ _ h => h) (Or.inl ⟨by rfl, ?_⟩) ?_ ?_
                    rotate_left
                    · intro w'
                      go_simp
                      with_reducible rfl
                    rotate_left
                    · simp only [Act.put, List.setIfInBounds_toArray, List.set_cons_zero, List.set_cons_succ, i64_w, i32_w]
                      rfl
                    refine pure_ (i := 6) (N := some 138) (v := ?_) (a' := ?_) #[true, true, true, true, true, true, true, false, false, false, false, false, false, false, false, false, false, false, false, false, false, false] rfl rfl (by kernel_rfl) (fun _ _ _ h => h) (Or.inl ⟨by rfl, ?_⟩) ?_ ?_
                    rotate_left
                    · intro w'
                      go_simp
                      with_reducible rfl
                    rotate_left
                    · simp only [Act.put, List.setIfInBounds_toArray, List.set_cons_zero, List.set_cons_succ, i64_w, i32_w]
                      rfl
                    refine pure_ (i := 8) (N := some 140) (v := ?_) (a' := ?_) #[true, true, true, true, true, true, true, false, true, false, false, false, false, false, false, false, false, false, false, false, false, false] rfl rfl (by kernel_rfl) (fun _ _ _ h => h) (Or.inl ⟨by rfl, ?_⟩) ?_ ?_
                    rotate_left
                    · intro w'
                      go_simp
                      with_reducible rfl
                    rotate_left
                    · simp only [Act.put, List.setIfInBounds_toArray, List.set_cons_zero, List.set_cons_succ, i64_w, i32_w]
                      rfl
                    refine take_ (i := 7) (N := some 139) (v := ?_) (a' := ?_) #[true, true, true, true, true, true, true, true, true, false, false, false, false, false, false, false, false, false, false, false, false, false] rfl rfl (by kernel_rfl) (fun _ _ _ h => h) (Or.inl ⟨by rfl, ?_⟩) hHeld ?_ ?_
                    rotate_left
                    · rintro w' ⟨s0, s1⟩
                      go_simp
                      with_reducible rfl
                    rotate_left
                    · simp only [Act.put, List.setIfInBounds_toArray, List.set_cons_zero, List.set_cons_succ, i64_w, i32_w]
                      rfl
                    refine take_ (i := 9) (N := some 141) (v := ?_) (a' := ?_) #[true, true, true, true, true, true, true, true, true, true, false, false, false, false, false, false, false, false, false, false, false, false] rfl rfl (by kernel_rfl) (fun _ _ _ h => h) (Or.inl ⟨by rfl, ?_⟩) hHeld ?_ ?_
                    rotate_left
                    · rintro w' ⟨s0, s1⟩
                      go_simp
                      with_reducible rfl
                    rotate_left
                    · simp only [Act.put, List.setIfInBounds_toArray, List.set_cons_zero, List.set_cons_succ, i64_w, i32_w]
                      rfl
                    refine pure_ (i := 10) (N := some 142) (v := ?_) (a' := ?_) #[true, true, true, true, true, true, true, true, true, true, true, false, false, false, false, false, false, false, false, false, false, false] rfl rfl (by kernel_rfl) (fun _ _ _ h => h) (Or.inl ⟨by rfl, ?_⟩) ?_ ?_
                    rotate_left
                    · intro w'
                      go_simp
                      with_reducible rfl
                    rotate_left
                    · simp only [Act.put, List.setIfInBounds_toArray, List.set_cons_zero, List.set_cons_succ, i64_w, i32_w]
                      rfl
                    refine pure_ (i := 11) (N := some 143) (v := ?_) (a' := ?_) #[true, true, true, true, true, true, true, true, true, true, true, true, false, false, false, false, false, false, false, false, false, false] rfl rfl (by kernel_rfl) (fun _ _ _ h => h) (Or.inl ⟨by rfl, ?_⟩) ?_ ?_
                    rotate_left
                    · intro w'
                      go_simp
                      with_reducible rfl
                    rotate_left
                    · simp only [Act.put, List.setIfInBounds_toArray, List.set_cons_zero, List.set_cons_succ, i64_w, i32_w]
                      rfl
                    refine pure_ (i := 12) (N := some 144) (v := ?_) (a' := ?_) #[true, true, true, true, true, true, true, true, true, true, true, true, true, false, false, false, false, false, false, false, false, false] rfl rfl (by kernel_rfl) (fun _ _ _ h => h) (Or.inl ⟨by rfl, ?_⟩) ?_ ?_
                    rotate_left
                    · intro w'
                      go_simp
                      with_reducible rfl
                    rotate_left
                    · simp only [Act.put, List.setIfInBounds_toArray, List.set_cons_zero, List.set_cons_succ, i64_w, i32_w]
                      rfl
                    refine pure_ (i := 13) (N := some 145) (v := ?_) (a' := ?_) #[true, true, true, true, true, true, true, true, true, true, true, true, true, true, false, false, false, false, false, false, false, false] rfl rfl (by kernel_rfl) (fun _ _ _ h => h) (Or.inl ⟨by rfl, ?_⟩) ?_ ?_
                    rotate_left
                    · intro w'
                      go_simp
                      with_reducible rfl
                    rotate_left
                    · simp only [Act.put, List.setIfInBounds_toArray, List.set_cons_zero, List.set_cons_succ, i64_w, i32_w]
                      rfl
                    refine pure_ (i := 14) (N := some 146) (v := ?_) (a' := ?_) #[true, true, true, true, true, true, true, true, true, true, true, true, true, true, true, false, false, false, false, false, false, false] rfl rfl (by kernel_rfl) (fun _ _ _ h => h) (Or.inl ⟨by rfl, ?_⟩) ?_ ?_
                    rotate_left
                    · intro w'
                      go_simp
                      with_reducible rfl
                    rotate_left
                    · simp only [Act.put, List.setIfInBounds_toArray, List.set_cons_zero, List.set_cons_succ, i64_w, i32_w]
                      rfl
                    refine pure_ (i := 15) (N := some 147) (v := ?_) (a' := ?_) #[true, true, true, true, true, true, true, true, true, true, true, true, true, true, true, true, false, false, false, false, false, false] rfl rfl (by kernel_rfl) (fun _ _ _ h => h) (Or.inl ⟨by rfl, ?_⟩) ?_ ?_
                    rotate_left
                    · intro w'
                      go_simp
                      with_reducible rfl
                    rotate_left
                    · simp only [Act.put, List.setIfInBounds_toArray, List.set_cons_zero, List.set_cons_succ, i64_w, i32_w]
                      rfl
                    refine pure_ (i := 16) (N := some 148) (v := ?_) (a' := ?_) #[true, true, true, true, true, true, true, true, true, true, true, true, true, true, true, true, true, false, false, false, false, false] rfl rfl (by kernel_rfl) (fun _ _ _ h => h) (Or.inl ⟨by rfl, ?_⟩) ?_ ?_
                    rotate_left
                    · intro w'
                      go_simp
                      with_reducible rfl
                    rotate_left
                    · simp only [Act.put, List.setIfInBounds_toArray, List.set_cons_zero, List.set_cons_succ, i64_w, i32_w]
                      rfl
                    refine pure_ (i := 17) (N := some 149) (v := ?_) (a' := ?_) #[true, true, true, true, true, true, true, true, true, true, true, true, true, true, true, true, true, true, false, false, false, false] rfl rfl (by kernel_rfl) (fun _ _ _ h => h) (Or.inl ⟨by rfl, ?_⟩) ?_ ?_
                    rotate_left
                    · intro w'
                      go_simp
                      with_reducible rfl
                    rotate_left
                    · simp only [Act.put, List.setIfInBounds_toArray, List.set_cons_zero, List.set_cons_succ, i64_w, i32_w]
                      rfl
                    refine pure_ (i := 18) (N := some 150) (v := ?_) (a' := ?_) #[true, true, true, true, true, true, true, true, true, true, true, true, true, true, true, true, true, true, true, false, false, false] rfl rfl (by kernel_rfl) (fun _ _ _ h => h) (Or.inl ⟨by rfl, ?_⟩) ?_ ?_
                    rotate_left
                    · intro w'
                      go_simp
                      with_reducible rfl
                    rotate_left
                    · simp only [Act.put, List.setIfInBounds_toArray, List.set_cons_zero, List.set_cons_succ, i64_w, i32_w]
                      rfl
                    refine take_ (i := 19) (N := some 151) (v := ?_) (a' := ?_) #[true, true, true, true, true, true, true, true, true, true, true, true, true, true, true, true, true, true, true, true, false, false] rfl rfl (by kernel_rfl) (fun _ _ _ h => h) (Or.inl ⟨by rfl, ?_⟩) hHeld ?_ ?_
                    rotate_left
                    · rintro w' ⟨s0, s1⟩
                      go_simp
                      with_reducible rfl
                    rotate_left
                    · simp only [Act.put, List.setIfInBounds_toArray, List.set_cons_zero, List.set_cons_succ, i64_w, i32_w]
                      rfl
                    refine pure_ (i := 20) (N := some 152) (v := ?_) (a' := ?_) #[true, true, true, true, true, true, true, true, true, true, true, true, true, true, true, true, true, true, true, true, true, false] rfl rfl (by kernel_rfl) (fun _ _ _ h => h) (Or.inl ⟨by rfl, ?_⟩) ?_ ?_
                    rotate_left
                    · intro w'
                      go_simp
                      with_reducible rfl
                    rotate_left
                    · simp only [Act.put, List.setIfInBounds_toArray, List.set_cons_zero, List.set_cons_succ, i64_w, i32_w]
                      rfl
                    refine pure_ (i := 21) (N := some 153) (v := ?_) (a' := ?_) #[true, true, true, true, true, true, true, true, true, true, true, true, true, true, true, true, true, true, true, true, true, true] rfl rfl (by kernel_rfl) (fun _ _ _ h => h) (Or.inl ⟨by rfl, ?_⟩) ?_ ?_
                    rotate_left
                    · intro w'
                      go_simp
                      with_reducible rfl
                    rotate_left
                    · simp only [Act.put, List.setIfInBounds_toArray, List.set_cons_zero, List.set_cons_succ, i64_w, i32_w]
                      rfl
                    refine done_ (by kernel_rfl) ?_
                    have HS9 := Aside0.mk (less4 (HS7.out.on HBw9.out))
                    clear HBw9 HS7 hb3
                    go_wp2_with fail
                    go_roundw
                    case rel => exact ⟨i2 + 1, by omega, by simp, HS9⟩
                    case measure => simp [intOf]; omega
            · have p1 : decide ((i2 : Int) < (nl : Int)) = false := decide_eq_false (by omega)
              have p2 : decide (i2 < nl) = false := decide_eq_false (by omega)
              go_wp2_with fail
              refine (lives_at HS5.out).mono ?_
              rintro e w9 ⟨rfl, h9⟩
              have HST9 := Aside0.mk h9
              clear h9
              go_wp2_with fail
              go_ret
              exact ⟨rfl, HST9.out.below⟩
  · have HN := Aside0.mk (newP_no HST.out a0 ho)
    clear ho
    go_enter Tryd.func3, Tryd.ntmps3
    go_wp2_with fail
    refine HN.out.mono ?_
    rintro e w1 ⟨rfl, h1⟩
    have HST1 := Aside0.mk h1
    clear h1
    go_wp2_with fail
    refine (lives_at HST1.out).mono ?_
    rintro e w7 ⟨rfl, h7⟩
    have HST7 := Aside0.mk h7
    clear h7
    go_wp2_with fail
    go_ret
    exact ⟨rfl, HST7.out.below⟩
end Go.Proofs.YtpdcmdofojckdaaDoor.P
