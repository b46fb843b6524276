/- A cursor has bytes of its own, and what is put changes nothing that was there: for any bytes and number. -/
import Derived.Test.YtnfnomcgalkagaaHNewB
import Derived.Test.YtnfnomcgalkagaaWRead
import Derived.Test.YtnfnomcgalkagaaHWLives
import Derived.Test.YtnfnomcgalkagaaHMethods
import Derived.Test.YtnfnomcgalkagaaP15
import Derived.OpenShut
import Derived.Outline
namespace Go.Proofs.Ytnfnomcgalkagaa.P
open Go.RowKit Go.Proofs.YtnfnomcgalkagaaW.PrintWords Go.Proofs.YtnfnomcgalkagaaW.PrintLast Go.Proofs.YtnfnomcgalkagaaW.PrintMore
set_option linter.unusedVariables false
set_option linter.unusedSimpArgs false

set_option maxHeartbeats 1000000 in
set_option maxRecDepth 100000 in
theorem liverylaw03_WireOwns.walk (a0 : Option Addr) (len0 cap0 : Nat) (z0 : List Int) (a1 : Int) (w : World) (w0 : (a0 = none ∧ len0 = 0 ∧ cap0 = 0 ∧ z0 = []) ∨ ∃ x, a0 = some x ∧ len0 ≤ cap0 ∧ cap0 ≤ maxLen ∧ z0.length = cap0 ∧ (∀ i, i < z0.length → w.cell? (x.add i) = some (.int .u8 (z0.getD i 0))) ∧ ∀ n ∈ z0, (Lit.int .u8 n).wf = true) (y0 : len0 * 1 ≤ 140737488351232) (w1 : (Lit.int .i64 a1).wf = true) :
    Calls Try.prog 13 #[.slice a0 len0 cap0, .int .i64 a1] w fun e w' => e = .returned (.bool true) ∧ Below w.heap.size w w' := by
  obtain ⟨l0, rfl, hr0, hm0, hw0, hc0⟩ := ReadsInt.ofRowC w0
  have L0 := Aside0.mk (Kd.C_of_reads (d := (0 : Int)) (h1 := fun _ => rfl) hr0)
  have L0c := Aside0.mk hc0
  clear hr0 hc0 hm0 w0
  have bw1 := Aside0.mk (Go.bounds_i64 w1)
  clear w1
  have h1 := bw1.out.2
  obtain ⟨b, eb⟩ : ∃ v, v = l0.take 60 := ⟨_, rfl⟩
  have hb : b.length ≤ 60 := by rw [eb, List.length_take]; omega
  have fb := Aside0.mk (show liverylaw03_few.f l0 60 = some b by rw [eb]; exact few3_eq l0 60)
  have hok : okB b = true := okB_of fun x hx => Go.bounds_u8 (hw0 x (List.mem_of_mem_take (eb ▸ hx)))
  have n1 := prog_Number b a1 (by omega) h1
  have n2 := prog_Text b (⟨#[97, 98]⟩ : ByteArray) (by simp [ByteArray.size]; omega)
  have t1 : wire_Cursor_Text.f b 0 0 100 = some (textAt b 0 0 100) := by unfold wire_Cursor_Text.f; rw [if_pos hok, if_pos (by omega), if_pos (by omega)]
  have t2 : liveryref03_Cursor_Text.f b 0 0 100 = some (textAt b 0 0 100) := by unfold liveryref03_Cursor_Text.f; rw [if_pos hok, if_pos (by omega), if_pos (by omega)]
  obtain ⟨⟨s, q, f⟩, ef⟩ : ∃ x, x = textAt b 0 0 100 := ⟨_, rfl⟩
  rw [← ef] at t1 t2
  generalize b ++ numB a1 = x1 at n1
  generalize b ++ textB (⟨#[97, 98]⟩ : ByteArray) = x2 at n2
  have n1_ := Aside0.mk n1
  have n2_ := Aside0.mk n2
  have t1_ := Aside0.mk t1
  have t2_ := Aside0.mk t2
  have hb_ := Aside0.mk hb
  clear n1 n2 t1 t2 hb hok ef eb hw0 y0 h1 bw1
  go_enter Try.func13, Try.ntmps13
  have HB := Aside0.mk (Below.refl w.heap.size w)
  go_wp2_with fail
  refine (few3_C a0 cap0 l0 (60) b w (L0.out) L0c.out fb.out).mono ?_
  rintro e w1 ⟨v1, rfl, hv1, hb1⟩
  have HD : Aside0 (Below w.heap.size w w1) := ⟨below_step (Below.refl _ _) hb1⟩
  clear hb1
  have L0_ := Aside0.mk (Kd.C_below L0.out HD.out)
  clear L0
  have L0 := L0_
  clear L0_
  have HB_ := Aside0.mk (below_step HB.out HD.out)
  clear HB HD
  have HB := HB_
  clear HB_
  obtain ⟨A1, c1, ev1⟩ := Kd.V_slice hv1
  subst ev1
  have BVc := Aside0.mk (Kd.V_reads' hv1).2.1
  have BV := Aside0.mk (Kd.V_reads' hv1).2.2
  clear hv1
  clear L0 L0c
  have HB0 := Aside0.mk HB.out
  have HD0 := Aside0.mk (Below.refl w1.heap.size w1)
  go_wp2_with (at_builtin; refine Kd.R_append_rows (Kd.int .u8) (w0 := w1) w1.heap.size rfl (.tmp 13) (.tmp 14) 32 5 (.int .u8 0) 1 rfl Try.underlying32 hinfo5 rfl (by decide) (by omega) (.slice none 0 0) ([] : List Int) b _ _ _ (fun _ => True) (fun _ => False) rfl rfl ?aO ?aR (fun _ _ h => h) (fun _ h => h.elim) (fun _ _ => trivial) ?aB ?aS ?aL ?_)
  case aO => exact Kd.R_nil _ _ _ _ _
  case aR => exact ((Kd.C_below BV.out HD0.out))
  case aB => exact HD0.out
  case aS => exact HD0.out.size
  case aL => (have := hb_.out; (try simp only [List.length_nil, List.length_append, Nat.zero_add]); omega)
  intro v2 w2 ho2 hb2 hg2 hat2
  have HD0_ := Aside0.mk hb2
  have LONG_ := Aside0.mk ho2
  clear ho2 hb2 hg2 hat2 HD0
  have HD0 := HD0_
  have LONG := LONG_
  clear HD0_ LONG_
  (try rw [List.nil_append] at LONG)
  go_wp2_with fail
  go_loopw [5, 6] (fun s5 s6 wr => ∃ i : Nat, i ≤ 20 ∧ s6 = .int .i64 (i : Int) ∧ Aside0 (Kd.R (Kd.int .u8) 5 wr w1.heap.size (fun _ => True) s5 (b ++ List.replicate i 9)) ∧ Aside0 (Below w1.heap.size w1 wr)) (fun _ s6 _ => 20 - (intOf s6).toNat)
  case atStart => exact ⟨0, by omega, rfl, ⟨by simpa using LONG.out⟩, HD0⟩
  case round =>
    obtain ⟨i, hi, rfl, hr, hd⟩ := hrel
    clear LONG HD0
    by_cases hk : i < 20
    · have hik := decide_eq_true (show (i : Int) < 20 by omega)
      have hik2 := decide_eq_true (show i < 20 by omega)
      have hw : wrap64 ((i : Int) + 1) = ((i + 1 : Nat) : Int) := by rw [w64 (by omega) (by omega)]; omega
      go_wp2_with (at_builtin; refine Kd.R_append (Kd.int .u8) (w0 := w1) w1.heap.size rfl (.tmp 20) (.tmp 21) 32 5 (.int .u8 0) 1 rfl Try.underlying32 hinfo5 rfl (by decide) (by omega) u5 (b ++ List.replicate i 9) 9 [.int .u8 9] (fun _ => True) (fun _ => False) rfl rfl ?aP (fun _ hk => hk.elim) (fun _ _ => trivial) ?aO ?aB ?aS ?aL ?_)
      case aP => exact rfl
      case aO => exact hr.out
      case aB => exact hd.out
      case aS => exact hd.out.size
      case aL => (simp only [List.length_append, List.length_replicate]; have := hb_.out; omega)
      intro v2 w2 ho hb2 hg hat
      have HR2 : Aside0 (Kd.R (Kd.int .u8) 5 w2 w1.heap.size (fun _ => True) v2 (b ++ List.replicate (i + 1) 9)) := ⟨by rw [List.replicate_succ']; first | exact ho | (rw [← List.append_assoc]; exact ho)⟩
      have HD2 := Aside0.mk hb2
      clear ho hb2 hg hat hr hd
      go_wp2_with fail
      exact ⟨⟨i + 1, by omega, by first | rw [hw] | rfl, HR2, HD2⟩, by (try rw [hw]); simp only [intOf, Int.toNat_natCast]; omega⟩
    · have e20 : i = 20 := by omega
      subst e20
      clear hi hk
      obtain ⟨AL, cL, eL⟩ := Kd.R_slice hr.out
      subst eL
      obtain ⟨L, eL⟩ : ∃ L, L = b ++ List.replicate 20 (9 : Int) := ⟨_, rfl⟩
      rw [← eL] at hr ⊢
      have hlen : L.length = b.length + 20 := by rw [eL]; simp
      have htake : L.take b.length = b := by rw [eL, List.take_left]
      have hrd : ∀ i : Nat, i < 20 → rd L ((b.length : Int) + (i : Int)) = 9 := fun i hi => by
        have h1 : b.length + i < L.length := by omega
        rw [show ((b.length : Int) + (i : Int)) = ((b.length + i : Nat) : Int) by omega, rd_nat L _ h1]
        simp only [eL]
        rw [List.getElem_append_right (by omega)]
        exact List.getElem_replicate ..
      obtain ⟨k, cs, t, eA, hk0, hkb, hks⟩ := R_has hr.out (by omega)
      subst eA
      clear eL
      have LVc := Aside0.mk (Kd.R_reads' hr.out).2.1
      have LV := Aside0.mk (Kd.R_reads' hr.out).2.2
      have LB : Aside0 ((Kd.int .u8).C wr (some ⟨k, 0, none⟩) b.length b) := ⟨by have h_ := Kd.C_take (m := b.length) LV.out (by omega); rw [htake] at h_; exact h_⟩
      have LBc : Aside0 (b.length ≤ cL) := ⟨by have := LVc.out; omega⟩
      have hcut := hcut_to b.length (some ⟨k, 0, none⟩) L.length cL (by omega) LVc.out
      have hlen_ := Aside0.mk hlen
      have hrd_ := Aside0.mk hrd
      have hk0_ := Aside0.mk hk0
      have hkb_ := Aside0.mk hkb
      have hks_ := Aside0.mk hks
      have BVlt : Aside0 (∀ ad, A1 = some ad → 0 < b.length → ad.block < w1.heap.size) := ⟨fun ad h0 h1 => C_lt BV.out h0 h1⟩
      have HD0 := Aside0.mk hd.out
      clear hr hd hlen htake hrd hk0 hkb hks
      have HBW := Aside0.mk HD0.out
      have BV_ := Aside0.mk (Kd.C_below BV.out HD0.out)
      clear BV
      have BV := BV_
      clear BV_
      have HB_ := Aside0.mk (below_step HB.out HD0.out)
      clear HB HD0
      have HB := HB_
      clear HB_
      have HD0 := Aside0.mk (Below.refl wr.heap.size wr)
      go_wp2_with fail
      refine (wire_Number.calls (some ⟨k, 0, none⟩) cL b (a1) x1 wr ((Kd.C_below LB.out HD0.out)) LBc.out n1_.out).mono ?_
      rintro e w3 ⟨v3, rfl, hv3, hb3⟩
      have HD : Aside0 (Below wr.heap.size wr w3) := ⟨below_step (Below.refl _ _) hb3⟩
      clear hb3
      have HD0_ := Aside0.mk (below_step HD0.out HD.out)
      clear HD0
      have HD0 := HD0_
      clear HD0_
      clear HD
      obtain ⟨A3, c3, ev3⟩ := Kd.R_slice hv3
      subst ev3
      have X1c := Aside0.mk (Kd.R_reads' hv3).2.1
      have X1 := Aside0.mk (Kd.R_reads' hv3).2.2
      clear hv3
      clear X1 X1c
      go_wp2_with fail
      refine (wire_Text.calls (some ⟨k, 0, none⟩) cL b ((⟨#[97, 98]⟩ : ByteArray)) x2 w3 ((Kd.C_below LB.out HD0.out)) LBc.out n2_.out).mono ?_
      rintro e w4 ⟨v4, rfl, hv4, hb4⟩
      have HD : Aside0 (Below w3.heap.size w3 w4) := ⟨below_step (Below.refl _ _) hb4⟩
      clear hb4
      have HD0_ := Aside0.mk (below_step HD0.out HD.out)
      clear HD0
      have HD0 := HD0_
      clear HD0_
      clear HD
      obtain ⟨A4, c4, ev4⟩ := Kd.R_slice hv4
      subst ev4
      have X2c := Aside0.mk (Kd.R_reads' hv4).2.1
      have X2 := Aside0.mk (Kd.R_reads' hv4).2.2
      clear hv4
      clear X2 X2c
      go_wp2_with fail
      obtain ⟨wa, rfl⟩ : ∃ x : World, x = wr := ⟨_, rfl⟩
      go_loopw [7] (fun s7 wq => ∃ i : Nat, i ≤ 20 ∧ s7 = .int .i64 (i : Int) ∧ wq = w4) (fun s7 _ => 20 - (intOf s7).toNat)
      case atStart => exact ⟨0, by omega, rfl, rfl⟩
      case round =>
        obtain ⟨i, hi, rfl, rfl⟩ := hrel
        by_cases hk : i < 20
        · have hik := decide_eq_true (show (i : Int) < 20 by omega)
          have hik2 := decide_eq_true (show i < 20 by omega)
          have hw : wrap64 ((i : Int) + 1) = ((i + 1 : Nat) : Int) := by rw [w64 (by omega) (by omega)]; omega
          have hw2 : wrap64 ((b.length : Int) + (i : Int)) = (b.length : Int) + (i : Int) := w64 (by omega) (by have := hb_.out; omega)
          obtain ⟨ad, ea, hx⟩ := Kd.at_int (Kd.C_below LV.out HD0.out) ((b.length : Int) + (i : Int)) (by omega) (by have := hlen_.out; omega)
          cases ea
          rw [hrd_.out i hk, show ((b.length : Int) + (i : Int)).toNat = b.length + i by omega] at hx
          have hx2 := hx
          rw [add_plain] at hx2
          have g1 := eq_true (show (0 : Int) ≤ (b.length : Int) + (i : Int) by omega)
          have g2 := eq_true (show (b.length : Int) + (i : Int) < (L.length : Int) by have := hlen_.out; omega)
          have g3 := eq_true (show b.length + i < L.length by have := hlen_.out; omega)
          go_wp2_with fail
          exact ⟨⟨i + 1, by omega, by first | rw [hw] | rfl, trivial⟩, by (try rw [hw]); simp only [intOf, Int.toNat_natCast]; omega⟩
        · have e20 : i = 20 := by omega
          subst e20
          clear hi hk
          go_wp2_with fail
          clear hcut
          refine (wire_New.callsB (some ⟨k, 0, none⟩) cL b wr (Kd.C_below LB.out HD0.out) (by have := hb_.out; omega)).mono ?_
          rintro e w6 ⟨g, A6, c6, rfl, hg, hblk, hc6, hC6, hlo6, hhi6, hb6⟩
          have hg_ := Aside0.mk hg
          have hblk_ := Aside0.mk hblk
          have hc6_ := Aside0.mk hc6
          have hC6_ := Aside0.mk hC6
          have hlo6_ := Aside0.mk hlo6
          have hhi6_ := Aside0.mk hhi6
          have HD1 := Aside0.mk (below_step HD0.out hb6)
          clear hg hblk hc6 hC6 hlo6 hhi6 hb6
          go_wp2_with fail
          obtain ⟨W7, eW⟩ : ∃ W7, W7 = w6.alloc (.cells #[.slice A1 b.length c1, .int .i64 0, .int .i64 0] 53) := ⟨_, rfl⟩
          rw [← eW]
          have HD7 : Aside0 (Below wa.heap.size wa W7) := ⟨by rw [eW]; exact below_alloc HD1.out _⟩
          have hkw : k < wa.heap.size := blk_lt hkb_.out
          have h5w : wa.heap.size ≤ wr.heap.size := HD0.out.size
          have h6w : wa.heap.size ≤ w6.heap.size := HD1.out.size
          have e1 : W7.heap[g]? = some (.cells #[.slice A6 b.length c6, .int .i64 0, .int .i64 0] 66 (0, 0)) := by rw [eW]; exact (Below.heap_alloc _ _ _ (blk_lt hblk_.out)).trans hblk_.out
          have e2 : W7.heap[w6.heap.size]? = some (.cells #[.slice A1 b.length c1, .int .i64 0, .int .i64 0] 53 (0, 0)) := by rw [eW]; exact heap_alloc_new w6 _
          have e3 : (Kd.int .u8).C W7 A6 b.length b := by rw [eW]; exact Kd.C_alloc hC6_.out _
          have e4 : (Kd.int .u8).C W7 A1 b.length b := Kd.C_below BV.out HD7.out
          have e5 : ∀ ad, A6 = some ad → 0 < b.length → ad.block ≠ k := fun ad h0 _ => by have := hlo6_.out ad h0; omega
          have e6 : ∀ ad, A1 = some ad → 0 < b.length → ad.block ≠ k := fun ad h0 h1 => by have := BVlt.out ad h0 h1; have := hk0_.out; omega
          have e7 : ∀ ad, A1 = some ad → 0 < b.length → ad.block < w6.heap.size := fun ad h0 h1 => by have := BVlt.out ad h0 h1; have := hk0_.out; omega
          have e8 : g ≠ k := by have := hg_.out; omega
          have e9 : w6.heap.size ≠ k := by omega
          have e10 : w.heap.size ≤ g := by have := hg_.out; have := HB.out.size; omega
          have e11 : w.heap.size ≤ w6.heap.size := by have := HB.out.size; omega
          have e12 : g < w6.heap.size := blk_lt hblk_.out
          have E1 := Aside0.mk e1
          have E2 := Aside0.mk e2
          have E3 := Aside0.mk e3
          have E4 := Aside0.mk e4
          have E5 := Aside0.mk e5
          have E6 := Aside0.mk e6
          have E7 := Aside0.mk e7
          have E8 := Aside0.mk e8
          have E9 := Aside0.mk e9
          have E10 := Aside0.mk e10
          have E11 := Aside0.mk e11
          have E12 := Aside0.mk e12
          have HK0 : Aside0 (∃ cs t, W7.heap[k]? = some (.cells cs t (0, 0)) ∧ L.length ≤ cs.size) := ⟨_, _, (HD7.out.block k hkw).trans hkb_.out, hks_.out⟩
          have HKK := Aside0.mk (KeepBut.refl W7 k none)
          have HW7 : Aside0 (Below w1.heap.size w1 W7) := ⟨below_step HBW.out HD7.out⟩
          clear e1 e2 e3 e4 e5 e6 e7 e8 e9 e10 e11 e12 hkw h5w h6w eW HD1 HD0 HD7 LV LB BV hblk_ hC6_ hlo6_
          obtain ⟨wb, rfl⟩ : ∃ x : World, x = wr := ⟨_, rfl⟩
          go_loopw [10] (fun s10 wq => ∃ i : Nat, i ≤ L.length ∧ s10 = .int .i64 (i : Int) ∧ Aside0 (∃ cs t, wq.heap[k]? = some (.cells cs t (0, 0)) ∧ L.length ≤ cs.size) ∧ Aside0 (KeepBut W7 wq k none) ∧ Aside0 (Below w1.heap.size w1 wq)) (fun s10 _ => L.length - (intOf s10).toNat)
          case atStart => exact ⟨0, Nat.zero_le _, rfl, HK0, HKK, HW7⟩
          case round =>
            obtain ⟨i, hi, rfl, hkc, hkk, hkd⟩ := hrel
            clear HK0 HKK HW7
            by_cases hk : i < L.length
            · obtain ⟨cs2, t2, hg2, hs2⟩ := hkc.out
              have hik := decide_eq_true (show (i : Int) < (L.length : Int) by omega)
              have hik2 := decide_eq_true hk
              have hik3 := eq_true (show (i : Int) < (L.length : Int) by omega)
              have hik4 := eq_true hk
              have hw : wrap64 ((i : Int) + 1) = ((i + 1 : Nat) : Int) := by rw [w64 (by omega) (by have := hlen_.out; have := hb_.out; omega)]; omega
              obtain ⟨cv, hcv⟩ : ∃ cv, wr.cell? ⟨k, i, none⟩ = some cv := ⟨_, (blk_cell hg2 i).trans (Array.getElem?_eq_getElem (show i < cs2.size by omega))⟩
              have hfz := blk_frozen hg2 i
              have X1 : Aside0 (∃ cs t, (wr.setCell ⟨k, i, none⟩ (.int .u8 7)).heap[k]? = some (.cells cs t (0, 0)) ∧ L.length ≤ cs.size) := ⟨_, _, blk_set hg2 i (.int .u8 7), by simpa using hs2⟩
              have X2 := Aside0.mk (KeepBut.set_ hkk.out i (.int .u8 7))
              have X3 := Aside0.mk (Below.setCell (p := ⟨k, i, none⟩) hkd.out hk0_.out (.int .u8 7))
              clear hkc hkk hkd hg2 hs2
              go_wp2_with fail
              exact ⟨⟨i + 1, by omega, by first | rw [hw] | rfl, X1, X2, X3⟩, by (try rw [hw]); simp only [intOf, Int.toNat_natCast]; omega⟩
            · have hik := decide_eq_false (show ¬ (i : Int) < (L.length : Int) by omega)
              have hik2 := decide_eq_false hk
              clear hi hk
              have C := Aside0.mk (CurP.of ((hkk.out.2 g (blk_lt E1.out) E8.out (by simp)).trans E1.out) hc6_.out (C_keepB E3.out hkk.out E5.out) hhi6_.out)
              have X := Aside0.mk (CurR.of ((hkk.out.2 w6.heap.size (blk_lt E2.out) E9.out (by simp)).trans E2.out) BVc.out (C_keepB E4.out hkk.out E6.out) E7.out)
              have HB_ := Aside0.mk (below_step HB0.out hkd.out)
              clear HB HBW hkc hkk hkd E1 E2 E3 E4 E5 E6 E7 E8 E9
              have HB := HB_
              clear HB_
              go_wp2_with fail
              refine (CurP_Text C.out (100) (s) (q) (f) t1_.out).mono ?_
              rintro e w5 ⟨rfl, hp5, hk5, hb5⟩
              have HK := Aside0.mk hk5
              have HD := Aside0.mk hb5
              have HS := Aside0.mk C.out.blk
              have HN := Aside0.mk hp5
              clear hk5 hb5 hp5
              have C_ := Aside0.mk (HN.out)
              clear C
              have C := C_
              clear C_
              have X_ := Aside0.mk (CurR.keep X.out HS.out HK.out (by have := E12.out; omega))
              clear X
              have X := X_
              clear X_
              have HB_ := Aside0.mk (below_keep HB.out HD.out E10.out)
              clear HB HD HK HS HN
              have HB := HB_
              clear HB_
              go_wp2_with fail
              refine (CurR_Text X.out (100) (s) (q) (f) t2_.out).mono ?_
              rintro e w6 ⟨rfl, hp6, hk6, hb6⟩
              have HK := Aside0.mk hk6
              have HD := Aside0.mk hb6
              have HS := Aside0.mk X.out.blk
              have HN := Aside0.mk hp6
              clear hk6 hb6 hp6
              have C_ := Aside0.mk (CurP.keep C.out HS.out HK.out (by have := E12.out; omega))
              clear C
              have C := C_
              clear C_
              have X_ := Aside0.mk (HN.out)
              clear X
              have X := X_
              clear X_
              have HB_ := Aside0.mk (below_keep HB.out HD.out E11.out)
              clear HB HD HK HS HN
              have HB := HB_
              clear HB_
              go_wp2_with fail
              refine (liverylaw03_lives.calls (true) w6  rfl).mono ?_
              rintro e w7 ⟨rfl, hb7⟩
              have HD : Aside0 (Below w6.heap.size w6 w7) := ⟨below_step (Below.refl _ _) hb7⟩
              clear hb7
              have C_ := Aside0.mk (CurP.below C.out HD.out)
              clear C
              have C := C_
              clear C_
              have X_ := Aside0.mk (CurR.below X.out HD.out)
              clear X
              have X := X_
              clear X_
              have HB_ := Aside0.mk (below_step HB.out HD.out)
              clear HB HD
              have HB := HB_
              clear HB_
              go_wp2_with fail
              go_ret
              exact ⟨rfl, HB.out⟩
end Go.Proofs.Ytnfnomcgalkagaa.P
