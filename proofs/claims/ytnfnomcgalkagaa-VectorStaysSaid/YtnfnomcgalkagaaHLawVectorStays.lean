/- What is handed in stays, and what is told is new: for any two lists. -/
import Derived.Test.YtnfnomcgalkagaaHHas
import Derived.Test.YtnfnomcgalkagaaVPure
import Derived.Test.YtnfnomcgalkagaaHVLives
import Derived.Test.YtnfnomcgalkagaaP1
import Derived.OpenShut
import Derived.Outline
namespace Go.Proofs.Ytnfnomcgalkagaa.P
open Go.RowKit Go.Proofs.YtnfnomcgalkagaaW.PrintWords Go.Proofs.YtnfnomcgalkagaaW.PrintLast Go.Proofs.YtnfnomcgalkagaaW.PrintMore
set_option linter.unusedVariables false
set_option linter.unusedSimpArgs false

set_option maxHeartbeats 1000000 in
set_option maxRecDepth 100000 in
theorem liverylaw10_VectorStays.walk (a0 : Option Addr) (len0 cap0 : Nat) (z0 : List Int) (a1 : Option Addr) (len1 cap1 : Nat) (z1 : List Int) (a2 : Int) (w : World) (w0 : (a0 = none ∧ len0 = 0 ∧ cap0 = 0 ∧ z0 = []) ∨ ∃ x, a0 = some x ∧ len0 ≤ cap0 ∧ cap0 ≤ maxLen ∧ z0.length = cap0 ∧ (∀ i, i < z0.length → w.cell? (x.add i) = some (.int .i64 (z0.getD i 0))) ∧ ∀ n ∈ z0, (Lit.int .i64 n).wf = true) (y0 : len0 * 8 ≤ 140737488351232) (w1 : (a1 = none ∧ len1 = 0 ∧ cap1 = 0 ∧ z1 = []) ∨ ∃ x, a1 = some x ∧ len1 ≤ cap1 ∧ cap1 ≤ maxLen ∧ z1.length = cap1 ∧ (∀ i, i < z1.length → w.cell? (x.add i) = some (.int .i64 (z1.getD i 0))) ∧ ∀ n ∈ z1, (Lit.int .i64 n).wf = true) (y1 : len1 * 8 ≤ 140737488351232) (w2 : (Lit.int .i64 a2).wf = true) :
    Calls Try.prog 8 #[.slice a0 len0 cap0, .slice a1 len1 cap1, .int .i64 a2] w fun e w' => e = .returned (.bool true) ∧ Below w.heap.size w w' := by
  obtain ⟨l0, rfl, hr0, hm0, hw0, hc0⟩ := ReadsInt.ofRowC w0
  have L0 := Aside0.mk (Kd.C_of_reads (d := (0 : Int)) (h1 := fun _ => rfl) hr0)
  have L0c := Aside0.mk hc0
  clear hr0 hc0 hm0 w0
  obtain ⟨l1, rfl, hr1, hm1, hw1, hc1⟩ := ReadsInt.ofRowC w1
  have L1 := Aside0.mk (Kd.C_of_reads (d := (0 : Int)) (h1 := fun _ => rfl) hr1)
  have L1c := Aside0.mk hc1
  clear hr1 hc1 hm1 w1
  have bw2 := Aside0.mk (Go.bounds_i64 w2)
  clear w2
  obtain ⟨a, ea⟩ : ∃ v, v = l0.take 20 := ⟨_, rfl⟩
  have ha : a.length ≤ 20 := by rw [ea, List.length_take]; omega
  have fa := Aside0.mk (show liverylaw10_few.f l0 = some a by rw [few_eq, ea])
  obtain ⟨b, eb⟩ : ∃ v, v = l1.take 20 := ⟨_, rfl⟩
  have fb := Aside0.mk (show liverylaw10_few.f l1 = some b by rw [few_eq, eb])
  have h1 : vector_Join.f a b = some (bareOf (joinV a b)) := rfl
  have h2 : vector_Bare.f a = some (bareOf (getV a)) := rfl
  have h3 : vector_With.f a a2 7 = some (bareOf (withV a a2 7)) := rfl
  have h4 : liveryref10_Same.f 41 a a = some true := by rw [ref10_Same 41 a a (by omega) (by omega), decide_eq_true rfl]
  have q1 := bareOf_le (joinV a b)
  have q2 := bareOf_le (getV a)
  have q3 := bareOf_le (withV a a2 7)
  generalize bareOf (joinV a b) = x at h1 q1
  generalize bareOf (getV a) = y at h2 q2
  generalize bareOf (withV a a2 7) = z at h3 q3
  have h1_ := Aside0.mk h1
  have h2_ := Aside0.mk h2
  have h3_ := Aside0.mk h3
  have h4_ := Aside0.mk h4
  have ha_ := Aside0.mk ha
  have q1_ := Aside0.mk q1
  have q2_ := Aside0.mk q2
  have q3_ := Aside0.mk q3
  clear h1 h2 h3 h4 ha ea eb hw0 hw1 y0 y1 q1 q2 q3 bw2
  go_enter Try.func8, Try.ntmps8
  have HB := Aside0.mk (Below.refl w.heap.size w)
  go_wp2_with fail
  refine (few10_C a0 cap0 l0 a w (L0.out) L0c.out fa.out).mono ?_
  rintro e w1 ⟨v1, rfl, hv1, hb1⟩
  have HD : Aside0 (Below w.heap.size w w1) := ⟨below_step (Below.refl _ _) hb1⟩
  clear hb1
  have L0_ := Aside0.mk (Kd.C_below L0.out HD.out)
  clear L0
  have L0 := L0_
  clear L0_
  have L1_ := Aside0.mk (Kd.C_below L1.out HD.out)
  clear L1
  have L1 := L1_
  clear L1_
  have HB_ := Aside0.mk (below_step HB.out HD.out)
  clear HB HD
  have HB := HB_
  clear HB_
  obtain ⟨A1, c1, ev1⟩ := Kd.V_slice hv1
  subst ev1
  have AVc := Aside0.mk (Kd.V_reads' hv1).2.1
  have AV := Aside0.mk (Kd.V_reads' hv1).2.2
  clear hv1
  go_wp2_with fail
  clear L0 L0c
  refine (few10_C a1 cap1 l1 b w1 (L1.out) L1c.out fb.out).mono ?_
  rintro e w2 ⟨v2, rfl, hv2, hb2⟩
  have HD : Aside0 (Below w1.heap.size w1 w2) := ⟨below_step (Below.refl _ _) hb2⟩
  clear hb2
  have L1_ := Aside0.mk (Kd.C_below L1.out HD.out)
  clear L1
  have L1 := L1_
  clear L1_
  have AV_ := Aside0.mk (Kd.C_below AV.out HD.out)
  clear AV
  have AV := AV_
  clear AV_
  have HB_ := Aside0.mk (below_step HB.out HD.out)
  clear HB HD
  have HB := HB_
  clear HB_
  obtain ⟨A2, c2, ev2⟩ := Kd.V_slice hv2
  subst ev2
  have BVc := Aside0.mk (Kd.V_reads' hv2).2.1
  have BV := Aside0.mk (Kd.V_reads' hv2).2.2
  clear hv2
  clear L1 L1c
  have HD0 := Aside0.mk (Below.refl w2.heap.size w2)
  go_wp2_with (at_builtin; refine Kd.R_append_rows (Kd.int .i64) (w0 := w2) w2.heap.size rfl (.tmp 19) (.tmp 20) 22 3 (.int .i64 0) 8 rfl Try.underlying22 hinfo3 rfl (by decide) (by omega) (.slice none 0 0) ([] : List Int) a _ _ _ (fun _ => True) (fun _ => False) rfl rfl ?aO ?aR (fun _ _ h => h) (fun _ h => h.elim) (fun _ _ => trivial) ?aB ?aS ?aL ?_)
  case aO => exact Kd.R_nil _ _ _ _ _
  case aR => exact ((Kd.C_below AV.out HD0.out))
  case aB => exact HD0.out
  case aS => exact HD0.out.size
  case aL => (have := ha_.out; (try simp only [List.length_nil, List.length_append, Nat.zero_add]); omega)
  intro v3 w3 ho3 hb3 hg3 hat3
  have HD0_ := Aside0.mk hb3
  have OWN_ := Aside0.mk ho3
  clear ho3 hb3 hg3 hat3 HD0
  have HD0 := HD0_
  have OWN := OWN_
  clear HD0_ OWN_
  (try rw [List.nil_append] at OWN)
  go_wp2_with fail
  have AV_ := Aside0.mk (Kd.C_below AV.out HD0.out)
  clear AV
  have AV := AV_
  clear AV_
  have BV_ := Aside0.mk (Kd.C_below BV.out HD0.out)
  clear BV
  have BV := BV_
  clear BV_
  have HB_ := Aside0.mk (below_step HB.out HD0.out)
  clear HB HD0
  have HB := HB_
  clear HB_
  obtain ⟨AOWN, cOWN, eOWN⟩ := Kd.R_slice OWN.out
  subst eOWN
  have OWNc := Aside0.mk (Kd.R_reads' OWN.out).2.1
  have OWN_ := Aside0.mk (Kd.R_reads' OWN.out).2.2
  clear OWN
  have OWN := OWN_
  clear OWN_
  have HD0 := Aside0.mk (Below.refl w3.heap.size w3)
  refine (vector_Join.callsP A1 c1 a A2 c2 b x w3 ((Kd.C_below AV.out HD0.out)) AVc.out ((Kd.C_below BV.out HD0.out)) BVc.out h1_.out).mono ?_
  rintro e w4 ⟨v4, rfl, hv4, hb4, hp4⟩
  have HD : Aside0 (Below w3.heap.size w3 w4) := ⟨below_step (Below.refl _ _) hb4⟩
  clear hb4
  obtain ⟨A4, c4, ev4⟩ := Kd.V_slice hv4
  subst ev4
  have HX : Aside0 (Has w4 A4 x.length w3.heap.size) := ⟨V_has (Kd.V_mono (Kd.V_lower hv4 (Nat.le_refl _)) (fun k_ hk_ => Nat.le_trans HD0.out.size hk_)) hp4⟩
  clear hv4 hp4
  have HD0_ := Aside0.mk (below_step HD0.out HD.out)
  clear HD0 HD
  have HD0 := HD0_
  clear HD0_
  go_wp2_with fail
  refine (vector_Bare.callsP A1 c1 a y w4 ((Kd.C_below AV.out HD0.out)) AVc.out h2_.out).mono ?_
  rintro e w5 ⟨v5, rfl, hv5, hb5, hp5⟩
  have HD : Aside0 (Below w4.heap.size w4 w5) := ⟨below_step (Below.refl _ _) hb5⟩
  clear hb5
  have HX_ := Aside0.mk (Has.below HX.out HD.out)
  clear HX
  have HX := HX_
  clear HX_
  obtain ⟨A5, c5, ev5⟩ := Kd.V_slice hv5
  subst ev5
  have HY : Aside0 (Has w5 A5 y.length w3.heap.size) := ⟨V_has (Kd.V_mono (Kd.V_lower hv5 (Nat.le_refl _)) (fun k_ hk_ => Nat.le_trans HD0.out.size hk_)) hp5⟩
  clear hv5 hp5
  have HD0_ := Aside0.mk (below_step HD0.out HD.out)
  clear HD0 HD
  have HD0 := HD0_
  clear HD0_
  go_wp2_with fail
  refine (vector_With.callsP A1 c1 a (a2) (7) z w5 ((Kd.C_below AV.out HD0.out)) AVc.out h3_.out).mono ?_
  rintro e w6 ⟨v6, rfl, hv6, hb6, hp6⟩
  have HD : Aside0 (Below w5.heap.size w5 w6) := ⟨below_step (Below.refl _ _) hb6⟩
  clear hb6
  have HX_ := Aside0.mk (Has.below HX.out HD.out)
  clear HX
  have HX := HX_
  clear HX_
  have HY_ := Aside0.mk (Has.below HY.out HD.out)
  clear HY
  have HY := HY_
  clear HY_
  obtain ⟨A6, c6, ev6⟩ := Kd.V_slice hv6
  subst ev6
  have HZ : Aside0 (Has w6 A6 z.length w3.heap.size) := ⟨V_has (Kd.V_mono (Kd.V_lower hv6 (Nat.le_refl _)) (fun k_ hk_ => Nat.le_trans HD0.out.size hk_)) hp6⟩
  clear hv6 hp6
  have HD0_ := Aside0.mk (below_step HD0.out HD.out)
  clear HD0 HD
  have HD0 := HD0_
  clear HD0_
  go_wp2_with fail
  go_loopw [11] (fun s11 wr => ∃ i : Nat, i ≤ x.length ∧ s11 = .int .i64 (i : Int) ∧ Aside0 (Has wr A4 x.length w3.heap.size) ∧ Aside0 (Has wr A5 y.length w3.heap.size) ∧ Aside0 (Has wr A6 z.length w3.heap.size) ∧ Aside0 (Below w3.heap.size w3 wr)) (fun s11 _ => (x.length : Nat) - (intOf s11).toNat)
  case atStart => exact ⟨0, Nat.zero_le _, rfl, HX, HY, HZ, HD0⟩
  case round =>
    obtain ⟨i, hi, rfl, hx, hy, hz, hd⟩ := hrel
    clear HX HY HZ HD0
    have HX := hx
    have HY := hy
    have HZ := hz
    have HD0 := hd
    clear hx hy hz hd
    by_cases hk : i < x.length
    · obtain ⟨g, cs, t, ea, hb, hg, hs⟩ := HX.out (by omega)
      subst ea
      obtain ⟨cv, hcv⟩ : ∃ cv, wr.cell? ⟨g, i, none⟩ = some cv := ⟨_, (blk_cell hg i).trans (Array.getElem?_eq_getElem (show i < cs.size by omega))⟩
      have hfz := blk_frozen hg i
      have HX' := Aside0.mk (Has.set HX.out g i (.int .i64 77))
      have HY' := Aside0.mk (Has.set HY.out g i (.int .i64 77))
      have HZ' := Aside0.mk (Has.set HZ.out g i (.int .i64 77))
      have HD' := Aside0.mk (Below.setCell (p := ⟨g, i, none⟩) HD0.out hb (.int .i64 77))
      have hik := decide_eq_true (show (i : Int) < (x.length : Int) by omega)
      have hik3 := decide_eq_true (show i < x.length by omega)
      have hik2 := eq_true (show (i : Int) < (x.length : Int) by omega)
      have hi0 := eq_true (show (0 : Int) ≤ (i : Int) by omega)
      have hw : wrap64 ((i : Int) + 1) = ((i + 1 : Nat) : Int) := by rw [w64 (by omega) (by have := q1_.out; omega)]; omega
      clear hb hg hs
      go_wp2_with fail
      exact ⟨⟨i + 1, by omega, by rw [hw], HX', HY', HZ', HD'⟩, by rw [hw]; simp only [intOf, Int.toNat_natCast]; omega⟩
    · have hik := decide_eq_false (show ¬ (i : Int) < (x.length : Int) by omega)
      have hik3 := decide_eq_false (show ¬ i < x.length by omega)
      clear hk hi
      go_wp2_with fail
      go_loopw [12] (fun s12 wr => ∃ i : Nat, i ≤ y.length ∧ s12 = .int .i64 (i : Int) ∧ Aside0 (Has wr A4 x.length w3.heap.size) ∧ Aside0 (Has wr A5 y.length w3.heap.size) ∧ Aside0 (Has wr A6 z.length w3.heap.size) ∧ Aside0 (Below w3.heap.size w3 wr)) (fun s12 _ => (y.length : Nat) - (intOf s12).toNat)
      case atStart => exact ⟨0, Nat.zero_le _, rfl, HX, HY, HZ, HD0⟩
      case round =>
        obtain ⟨i, hi, rfl, hx, hy, hz, hd⟩ := hrel
        clear HX HY HZ HD0
        have HX := hx
        have HY := hy
        have HZ := hz
        have HD0 := hd
        clear hx hy hz hd
        by_cases hk : i < y.length
        · obtain ⟨g, cs, t, ea, hb, hg, hs⟩ := HY.out (by omega)
          subst ea
          obtain ⟨cv, hcv⟩ : ∃ cv, wr.cell? ⟨g, i, none⟩ = some cv := ⟨_, (blk_cell hg i).trans (Array.getElem?_eq_getElem (show i < cs.size by omega))⟩
          have hfz := blk_frozen hg i
          have HX' := Aside0.mk (Has.set HX.out g i (.int .i64 77))
          have HY' := Aside0.mk (Has.set HY.out g i (.int .i64 77))
          have HZ' := Aside0.mk (Has.set HZ.out g i (.int .i64 77))
          have HD' := Aside0.mk (Below.setCell (p := ⟨g, i, none⟩) HD0.out hb (.int .i64 77))
          have hik := decide_eq_true (show (i : Int) < (y.length : Int) by omega)
          have hik3 := decide_eq_true (show i < y.length by omega)
          have hik2 := eq_true (show (i : Int) < (y.length : Int) by omega)
          have hi0 := eq_true (show (0 : Int) ≤ (i : Int) by omega)
          have hw : wrap64 ((i : Int) + 1) = ((i + 1 : Nat) : Int) := by rw [w64 (by omega) (by have := q2_.out; omega)]; omega
          clear hb hg hs
          go_wp2_with fail
          exact ⟨⟨i + 1, by omega, by rw [hw], HX', HY', HZ', HD'⟩, by rw [hw]; simp only [intOf, Int.toNat_natCast]; omega⟩
        · have hik := decide_eq_false (show ¬ (i : Int) < (y.length : Int) by omega)
          have hik3 := decide_eq_false (show ¬ i < y.length by omega)
          clear hk hi
          go_wp2_with fail
          go_loopw [13] (fun s13 wr => ∃ i : Nat, i ≤ z.length ∧ s13 = .int .i64 (i : Int) ∧ Aside0 (Has wr A4 x.length w3.heap.size) ∧ Aside0 (Has wr A5 y.length w3.heap.size) ∧ Aside0 (Has wr A6 z.length w3.heap.size) ∧ Aside0 (Below w3.heap.size w3 wr)) (fun s13 _ => (z.length : Nat) - (intOf s13).toNat)
          case atStart => exact ⟨0, Nat.zero_le _, rfl, HX, HY, HZ, HD0⟩
          case round =>
            obtain ⟨i, hi, rfl, hx, hy, hz, hd⟩ := hrel
            clear HX HY HZ HD0
            have HX := hx
            have HY := hy
            have HZ := hz
            have HD0 := hd
            clear hx hy hz hd
            by_cases hk : i < z.length
            · obtain ⟨g, cs, t, ea, hb, hg, hs⟩ := HZ.out (by omega)
              subst ea
              obtain ⟨cv, hcv⟩ : ∃ cv, wr.cell? ⟨g, i, none⟩ = some cv := ⟨_, (blk_cell hg i).trans (Array.getElem?_eq_getElem (show i < cs.size by omega))⟩
              have hfz := blk_frozen hg i
              have HX' := Aside0.mk (Has.set HX.out g i (.int .i64 77))
              have HY' := Aside0.mk (Has.set HY.out g i (.int .i64 77))
              have HZ' := Aside0.mk (Has.set HZ.out g i (.int .i64 77))
              have HD' := Aside0.mk (Below.setCell (p := ⟨g, i, none⟩) HD0.out hb (.int .i64 77))
              have hik := decide_eq_true (show (i : Int) < (z.length : Int) by omega)
              have hik3 := decide_eq_true (show i < z.length by omega)
              have hik2 := eq_true (show (i : Int) < (z.length : Int) by omega)
              have hi0 := eq_true (show (0 : Int) ≤ (i : Int) by omega)
              have hw : wrap64 ((i : Int) + 1) = ((i + 1 : Nat) : Int) := by rw [w64 (by omega) (by have := q3_.out; omega)]; omega
              clear hb hg hs
              go_wp2_with fail
              exact ⟨⟨i + 1, by omega, by rw [hw], HX', HY', HZ', HD'⟩, by rw [hw]; simp only [intOf, Int.toNat_natCast]; omega⟩
            · have hik := decide_eq_false (show ¬ (i : Int) < (z.length : Int) by omega)
              have hik3 := decide_eq_false (show ¬ i < z.length by omega)
              clear hk hi
              go_wp2_with fail
              have AV_ := Aside0.mk (Kd.C_below AV.out HD0.out)
              clear AV
              have AV := AV_
              clear AV_
              have BV_ := Aside0.mk (Kd.C_below BV.out HD0.out)
              clear BV
              have BV := BV_
              clear BV_
              have OWN_ := Aside0.mk (Kd.C_below OWN.out HD0.out)
              clear OWN
              have OWN := OWN_
              clear OWN_
              have HB_ := Aside0.mk (below_step HB.out HD0.out)
              clear HB HD0 HX HY HZ
              have HB := HB_
              clear HB_
              refine (liveryref10_Same.calls 41 AOWN cOWN a A1 c1 a true wr (OWN.out) OWNc.out (AV.out) AVc.out h4_.out).mono ?_
              rintro e w_ ⟨rfl, ⟨n7, rfl⟩⟩
              obtain ⟨w7, e7⟩ : ∃ W_ : World, W_ = World.drewN wr n7 := ⟨_, rfl⟩
              have HD : Aside0 (Below wr.heap.size wr w7) := ⟨by rw [e7]; exact pw_below_drewN (Below.refl _ _) _⟩
              rw [← e7]
              clear e7
              have AV_ := Aside0.mk (Kd.C_below AV.out HD.out)
              clear AV
              have AV := AV_
              clear AV_
              have BV_ := Aside0.mk (Kd.C_below BV.out HD.out)
              clear BV
              have BV := BV_
              clear BV_
              have OWN_ := Aside0.mk (Kd.C_below OWN.out HD.out)
              clear OWN
              have OWN := OWN_
              clear OWN_
              have HB_ := Aside0.mk (below_step HB.out HD.out)
              clear HB HD
              have HB := HB_
              clear HB_
              go_wp2_with fail
              refine (liverylaw10_lives.calls (true) w7  rfl).mono ?_
              rintro e w8 ⟨rfl, hb8⟩
              have HD : Aside0 (Below w7.heap.size w7 w8) := ⟨below_step (Below.refl _ _) hb8⟩
              clear hb8
              have AV_ := Aside0.mk (Kd.C_below AV.out HD.out)
              clear AV
              have AV := AV_
              clear AV_
              have BV_ := Aside0.mk (Kd.C_below BV.out HD.out)
              clear BV
              have BV := BV_
              clear BV_
              have OWN_ := Aside0.mk (Kd.C_below OWN.out HD.out)
              clear OWN
              have OWN := OWN_
              clear OWN_
              have HB_ := Aside0.mk (below_step HB.out HD.out)
              clear HB HD
              have HB := HB_
              clear HB_
              go_wp2_with fail
              go_ret
              exact ⟨rfl, HB.out⟩
end Go.Proofs.Ytnfnomcgalkagaa.P
