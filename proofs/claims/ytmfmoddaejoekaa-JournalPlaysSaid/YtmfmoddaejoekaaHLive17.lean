/- Contracts, typed by hand: the document's examples of the journal. -/
import Derived.Test.YtmfmoddaejoekaaHLaw17
import Derived.Test.YtmfmoddaejoekaaROpn
import Derived.Test.YtmfmoddaejoekaaP8
import Derived.Lib.SlBytesConst
set_option linter.unusedVariables false
set_option linter.unusedSimpArgs false
namespace Go.Proofs.Ytmfmoddaejoekaa.P
open Go.RowKit Go.Proofs.YtmfmoddaejoekaaW.PrintWords Go.Proofs.YtmfmoddaejoekaaW.PrintLast Go.Proofs.YtmfmoddaejoekaaW.PrintMore
/-- A literal of one byte. -/
theorem lit1_C {W : World} {g : Nat} {a : Int} {fr : Nat × Nat} (h : W.heap[g]? = some (.cells #[.int .u8 a] 5 fr)) : Kd.C (Kd.int .u8) W (some ⟨g, 0, none⟩) 1 [a] := by
 refine ⟨rfl, by decide, fun _ => ⟨_, rfl, fun j p hj => ?_⟩⟩
 match j, hj with
 | 0, hj =>
  cases hj
  refine ⟨[.int .u8 a], rfl, rfl, fun i x hx => ?_⟩
  rw [add_plain, cell_of_row W g _ _ _ fr h]
  match i, hx with
  | 0, hx => exact hx
theorem rows2_C {W : World} {g0 g1 g2 : Nat} {a b : Int} {fr fr2 : Nat × Nat} (h0 : W.heap[g0]? = some (.cells #[.int .u8 a] 5 fr)) (h1 : W.heap[g1]? = some (.cells #[.int .u8 b] 5 fr2)) (h2 : W.heap[g2]? = some (.cells #[.slice (some ⟨g0, 0, none⟩) 1 1, .slice (some ⟨g1, 0, none⟩) 1 1] 30 (0, 0))) :
  Kd.C (Kd.slice 5 (Kd.int .u8)) W (some ⟨g2, 0, none⟩) 2 [[a], [b]] := by
 refine ⟨rfl, by decide, fun _ => ⟨_, rfl, fun j p hj => ?_⟩⟩
 match j, hj with
 | 0, hj =>
  cases hj
  refine ⟨[.slice (some ⟨g0, 0, none⟩) 1 1], rfl, ⟨_, _, rfl, Nat.le_refl 1, lit1_C h0⟩, fun i x hx => ?_⟩
  rw [add_plain, blk_cell h2]
  match i, hx with
  | 0, hx => exact hx
 | 1, hj =>
  cases hj
  refine ⟨[.slice (some ⟨g1, 0, none⟩) 1 1], rfl, ⟨_, _, rfl, Nat.le_refl 1, lit1_C h1⟩, fun i x hx => ?_⟩
  rw [add_plain, blk_cell h2]
  match i, hx with
  | 0, hx => exact hx
/-- A block that is new, whole. -/
theorem lit_at {w0 W : World} {S : Nat → Prop} {Rs : List Res} (h : St w0 S W Rs) (o : Obj) : St w0 S (W.alloc o) (Rs ++ [Res.blk W.heap.size o]) :=
 h.add (below_alloc (Below.refl _ _) _) ⟨Nat.le_refl _, heap_alloc_new W o⟩
theorem ad_at (ad : Addr) (i : Nat) (h : 0 < i) : ad.add i = ⟨ad.block, ad.off + i, none⟩ := by
 have := add_field ad 0 i h
 rw [show ad.add 0 = ad by simp [Addr.add], Nat.zero_add] at this
 exact this
theorem str99 : strOfNums [99] = { data := #[99] } := rfl
set_option maxHeartbeats 8000000 in
set_option maxRecDepth 100000 in
theorem liverylaw17_lives.calls (W : World) : Calls Try.prog 16 #[] W fun e W' => e = .returned (.bool true) ∧ Below W.heap.size W W' := by
 obtain ⟨T1, J1, ho1, hG1, hb1, hs1, hg1, hL1, hz1, hs11, hs10⟩ := open_new (T := TM.new) rfl rfl rfl rfl
 have HO1 := Aside0.mk ho1
 have HST0 := Aside0.mk (St.mk0 W (fun _ => False) (Q := fun _ => True) (fun _ _ => trivial))
 -- Append
 have hr1 : isRec [97] = true := by decide
 have hn1 : T1.now 0 = frameM (headR 1 0) := by rw [safe_now hG1.us]; exact hs10
 have hn11 : T1.now 1 = [] := by rw [safe_now hG1.us]; exact hs11
 have hfl : (frameM (headR 1 0)).length = 7 := by rw [frameM_len, head10]; rfl
 have hw1 : T1.writeE J1.side (frameM [97]) = 0 := by rw [hs1, TM.writeE_ready (TM.calm_ready hb1 (.inl rfl)), hn1, hfl]; rfl
 have hb2 := TM.calm_write hb1 J1.side (frameM [97])
 obtain ⟨ha1, hG2⟩ := append_good hG1 hr1 hw1 (TM.calm_ready hb2 (.inl rfl))
 have hb3 := TM.calm_sync hb2
 have hT2 : (T1.write J1.side (frameM [97])).sync.now 0 = frameM (headR 1 0) ++ frameM [97] := by
  rw [safe_now hG2.us, synced_safe (TM.calm_ready hb2 (.inl rfl)) (.inl rfl), TM.write_yes hw1, TM.does_now, hn1, hs1, afterU_units_same]
 have hT21 : (T1.write J1.side (frameM [97])).sync.now 1 = [] := by
  rw [safe_now hG2.us, synced_safe (TM.calm_ready hb2 (.inl rfl)) (.inr rfl), TM.write_yes hw1, TM.does_now, hn11, hs1, afterU_units_other _ _ _ (by decide)]
 have HT1 := Aside0.mk (show T1.Ok 20 from by have := Ok_open TM.new_ok; rw [ho1] at this; exact this)
 have HB1 := Aside0.mk (show T1.By from by have := By_open TM.By.new; rw [ho1] at this; exact this)
 have HT2 := Aside0.mk (show (T1.write J1.side (frameM [97])).sync.Ok (20 + 8200) from by have := Ok_append HT1.out J1 (r := [97]) (by decide); rw [ha1] at this; exact this)
 have HB2 := Aside0.mk (show (T1.write J1.side (frameM [97])).sync.By from by have := By_append HB1.out J1 (r := [97]) rfl; rw [ha1] at this; exact this)
 obtain ⟨T2, eT2⟩ : ∃ x, (T1.write J1.side (frameM [97])).sync = x := ⟨_, rfl⟩
 rw [eT2] at ha1 hG2 hb3 hT2 hT21 HT2 HB2
 obtain ⟨J2, eJ2⟩ : ∃ x : JM, { J1 with L := J1.L ++ [[97]], size := J1.size + ((frameM [97]).length : Int) } = x := ⟨_, rfl⟩
 rw [eJ2] at ha1 hG2
 have hs2 : J2.side = 0 := by rw [← eJ2]; exact hs1
 have hg2 : J2.g = 1 := by rw [← eJ2]; exact hg1
 have hL2 : J2.L = [[97]] := by rw [← eJ2]; show J1.L ++ [[97]] = _; rw [hL1]; rfl
 -- Renew
 have hbl : (bodyM (J2.g + 1) [[98], [99]]).length = 18 := by
  have h1 : (headR ((1 : Int) + 1) (([[98], [99]] : List (List Int)).length : Int)).length = 4 := by decide +kernel
  have h2 : (framesM [[98], [99]]).length = 10 := by unfold framesM; simp [frameM_len]
  rw [hg2, bodyM, List.length_append, frameM_len, h1, h2]
 have ht2 : T2.trimE (1 - J2.side) 0 = 0 := by rw [hs2]; exact TM.trimE_ready (TM.calm_ready hb3 (.inr rfl)) (by decide) (by omega)
 have hb4 := TM.calm_trim hb3 (1 - J2.side) 0
 have hn2 : (T2.trim (1 - J2.side) 0).now (1 - J2.side) = [] := by
  rw [TM.trim_yes ht2, TM.does_now, hs2]
  show unit1 (T2.now 1) 1 ⟨1, 0, 0⟩ = []
  rw [hT21]
  rfl
 have hw2 : (T2.trim (1 - J2.side) 0).writeE (1 - J2.side) (bodyM (J2.g + 1) [[98], [99]]) = 0 := by
  rw [TM.writeE_ready (TM.calm_ready hb4 (by rw [hs2]; exact .inr rfl)), hn2, hbl]
  rfl
 have hb5 := TM.calm_write hb4 (1 - J2.side) (bodyM (J2.g + 1) [[98], [99]])
 obtain ⟨hr3, hG3⟩ := renew_good hG2 (l := [[98], [99]]) (by decide) (by rw [hg2]; decide) (by decide) (by rw [hbl]; decide) ht2 hw2 (TM.calm_ready hb5 (.inl rfl))
 have HT3 := Aside0.mk (show (((T2.trim (1 - J2.side) 0).write (1 - J2.side) (bodyM (J2.g + 1) [[98], [99]])).sync).Ok (20 + 8200 + 65540) from by have := Ok_renew HT2.out J2 [[98], [99]]; rw [hr3] at this; exact this)
 have HB3 := Aside0.mk (show (((T2.trim (1 - J2.side) 0).write (1 - J2.side) (bodyM (J2.g + 1) [[98], [99]])).sync).By from by have := By_renew HB2.out J2 (l := [[98], [99]]) (by decide) (by rw [hg2]; decide) (by decide); rw [hr3] at this; exact this)
 have hb6 := TM.calm_sync hb5
 obtain ⟨T3, eT3⟩ : ∃ x, ((T2.trim (1 - J2.side) 0).write (1 - J2.side) (bodyM (J2.g + 1) [[98], [99]])).sync = x := ⟨_, rfl⟩
 rw [eT3] at hr3 hG3 HT3 HB3 hb6
 obtain ⟨J3, eJ3⟩ : ∃ x : JM, ⟨1 - J2.side, J2.g + 1, [[98], [99]], ((bodyM (J2.g + 1) [[98], [99]]).length : Int), false⟩ = x := ⟨_, rfl⟩
 rw [eJ3] at hr3 hG3
 have hg3 : J3.g = 2 := by rw [← eJ3]; show J2.g + 1 = 2; rw [hg2]; rfl
 have hL3 : J3.L = [[98], [99]] := by rw [← eJ3]
 have ho4 := hG3.open_ (TM.calm_ready hb6 (.inl rfl))
 have HA1 := Aside0.mk ha1
 have HR3 := Aside0.mk hr3
 have HO4 := Aside0.mk ho4
 have HJ1 := Aside0.mk (show J1.L.length ≤ 100000 ∧ (0 ≤ J1.size ∧ J1.size ≤ 1000000000) by rw [hL1, hz1]; decide)
 have HJ2 := Aside0.mk (show (J2.side = 0 ∨ J2.side = 1) ∧ 0 ≤ J2.g by rw [hs2, hg2]; decide)
 have HJ3 := Aside0.mk hL3
 have HGG := Aside0.mk hg3
 have HRD := Aside0.mk (show T2.ready 0 = 0 from TM.calm_ready hb3 (.inl rfl))
 have HBY := Aside0.mk hT2
 clear ho1 hG1 hb1 hs1 hg1 hL1 hz1 hs11 hs10 hr1 hn1 hn11 hfl hw1 hb2 ha1 hG2 hb3 hT2 hT21 eT2 eJ2 hs2 hg2 hL2 hbl ht2 hb4 hn2 hw2 hb5 hr3 hG3 hb6 eT3 eJ3 hg3 hL3 ho4
 have kc := fun (w : World) (C : Array Value) (n c : Nat) => Lib.run_convert_bytes_const (P := Try.prog) w 30 5 C n c Try.underlying30 Try.underlying5
 go_enter Try.func16, Try.ntmps16
 go_wp2_with fail
 refine (newT_at HST0.out).mono ?_
 rintro e w1 ⟨g, rfl, h1⟩
 have HST1 := Aside0.mk (show St W (fun _ => False) w1 [Res.view (fun _ => True), PTape g TM.new] from h1)
 clear h1
 go_wp2_with fail
 refine (open_at HST1.out 1 rfl (by decide) TM.new_ok (by decide) TM.By.new).mono ?_
 rw [HO1.out]
 rintro e w2 ⟨gj, rfl, h2⟩
 have HST2 := Aside0.mk (show St W (fun _ => False) w2 [Res.view (fun _ => True), PTJ g gj T1 J1] from h2)
 clear h2
 go_wp2_with fail
 have HST2b := Aside0.mk (lit_at HST2.out (.cells #[.int .u8 97] 5 (1, 2)))
 refine (append_at (r := [97]) HST2b.out 1 rfl (by decide) HT1.out (by decide) (by decide) HJ1.out.1 HJ1.out.2 (fun W' hW => ?_)).mono ?_
 ·obtain ⟨ok, hp⟩ := hW 2 _ (by decide) rfl
  exact lit1_C hp.2
 rw [HA1.out]
 rintro e w3 ⟨rfl, h3⟩
 have HST3 := Aside0.mk (show St W (fun _ => False) w3 [Res.view (fun _ => True), PTJ g gj T2 J2] from drops_at (Xs := [Res.blk w2.heap.size (.cells #[.int .u8 97] 5 (1, 2))]) h3)
 clear h3
 go_wp2_with fail
 refine (readJ_at HST3.out 1 rfl HT2.out 0 HRD.out (.inl rfl)).mono ?_
 rintro e w4 ⟨Ab, cb, rfl, hcb, hCb, hBb, h4⟩
 rw [HBY.out] at h4 ⊢
 have hbl : (frameM (headR 1 0) ++ frameM [97]).length = 12 := by rw [List.length_append, frameM_len, frameM_len, head10]; rfl
 have hb1 : rd (frameM (headR 1 0) ++ frameM [97]) 1 = 3 := by rw [head10]; rfl
 have hb7 : rd (frameM (headR 1 0) ++ frameM [97]) 7 = 0 := by rw [head10]; rfl
 have hb8 : rd (frameM (headR 1 0) ++ frameM [97]) 8 = 1 := by rw [head10]; rfl
 have hb9 : rd (frameM (headR 1 0) ++ frameM [97]) 9 = 97 := by rw [head10]; rfl
 obtain ⟨bb, ebb⟩ : ∃ x, frameM (headR 1 0) ++ frameM [97] = x := ⟨_, rfl⟩
 rw [ebb] at h4 hbl hb1 hb7 hb8 hb9 ⊢
 have HBV := Aside0.mk (And.intro hb1 (And.intro hb7 (And.intro hb8 hb9)))
 have HBL := Aside0.mk hbl
 rw [hbl] at h4 ⊢
 have HST4 := Aside0.mk (show St W (fun _ => False) w4 [Res.view (fun _ => True), PTJ g gj T2 J2, Res.row (Kd.int .u8) 5 (.slice Ab 12 cb) bb] from h4)
 clear h4 hcb hCb hBb ebb hbl hb1 hb7 hb8 hb9 HBY
 have hz1 : (w4.alloc (.cells #[.int .u8 98] 5 (1, 2))).heap.size = w4.heap.size + 1 := by simp
 have kc2 := kc (w4.alloc (.cells #[.int .u8 98] 5 (1, 2))) #[.int .u8 99] 1 1
 rw [hz1] at kc2
 have HHZ := Aside0.mk hz1
 clear hz1
 go_wp2_with fail
 clear kc2
 have HS5 := Aside0.mk (lit_at (lit_at (lit_at HST4.out (.cells #[.int .u8 98] 5 (1, 2))) (.cells #[.int .u8 99] 5 (1, 2))) (.cells #[.slice (some ⟨w4.heap.size, 0, none⟩) 1 1, .slice (some ⟨w4.heap.size + 1, 0, none⟩) 1 1] 30))
 simp only [heap_size_alloc2] at HS5
 refine (renew_at (l := [[98], [99]]) HS5.out 1 rfl (by decide) HT2.out (by decide) HJ2.out.1 HJ2.out.2 (by decide) (fun W' hW => ?_)).mono ?_
 ·obtain ⟨ok3, hp3⟩ := hW 3 _ (by decide) rfl
  obtain ⟨ok4, hp4⟩ := hW 4 _ (by decide) rfl
  obtain ⟨ok5, hp5⟩ := hW 5 _ (by decide) rfl
  exact rows2_C hp3.2 hp4.2 hp5.2
 rw [HR3.out]
 rintro e w5 ⟨rfl, h5⟩
 have HST5 := Aside0.mk (show St W (fun _ => False) w5 [Res.view (fun _ => True), PTJ g gj T3 J3, Res.row (Kd.int .u8) 5 (.slice Ab 12 cb) bb] from drops_at (Xs := [_, _, _]) h5)
 clear h5 HS5
 go_wp2_with fail
 refine (records_at HST5.out 1 rfl (by rw [HJ3.out]; decide) (by rw [HJ3.out]; decide)).mono ?_
 rintro e w6 ⟨Ar, cr, rfl, hcr, _, _, h6⟩
 rw [HJ3.out] at hcr h6 ⊢
 have HST6 := Aside0.mk (show St W (fun _ => False) w6 [Res.view (fun _ => True), PTJ g gj T3 J3, Res.row (Kd.int .u8) 5 (.slice Ab 12 cb) bb, Res.row (Kd.slice 5 (Kd.int .u8)) 30 (.slice Ar 2 cr) [[98], [99]]] from h6)
 have HCR := Aside0.mk hcr
 clear h6 hcr
 go_wp2_with fail
 refine (openN_at HST6.out).mono ?_
 rintro e w7 ⟨rfl, h7⟩
 have HST7 := Aside0.mk (h7.split 1 rfl (by decide))
 clear h7
 go_wp2_with fail
 refine (open_at HST7.out 1 rfl (by decide) HT3.out (by decide) HB3.out).mono ?_
 rw [HO4.out]
 rintro e w8 ⟨gk, rfl, h8⟩
 have HST8 := Aside0.mk (show St W (fun _ => False) w8 [Res.view (fun _ => True), PTJ g gk T3 J3, Res.row (Kd.int .u8) 5 (.slice Ab 12 cb) bb, Res.row (Kd.slice 5 (Kd.int .u8)) 30 (.slice Ar 2 cr) [[98], [99]], PJour gj g J3] from h8)
 clear h8
 go_wp2_with fail
 refine (records_at HST8.out 1 rfl (by rw [HJ3.out]; decide) (by rw [HJ3.out]; decide)).mono ?_
 rintro e w9 ⟨A9, c9, rfl, hc9, hC9, _, h9⟩
 rw [HJ3.out] at hc9 hC9 h9 ⊢
 have HST9 := Aside0.mk (show St W (fun _ => False) w9 [Res.view (fun _ => True), PTJ g gk T3 J3, Res.row (Kd.int .u8) 5 (.slice Ab 12 cb) bb, Res.row (Kd.slice 5 (Kd.int .u8)) 30 (.slice Ar 2 cr) [[98], [99]], PJour gj g J3] from drops_at (Xs := [_]) h9)
 have HC9 := Aside0.mk (And.intro hc9 hC9)
 have hR := (HST9.out.get 3 rfl)
 obtain ⟨okr, hRr⟩ := hR
 have HCRR := Aside0.mk (Kd.R_reads' (show (Kd.slice 5 (Kd.int .u8)).R 30 w9 0 okr (.slice Ar 2 cr) [[98], [99]] from hRr)).2.2
 obtain ⟨okb, hRb⟩ := HST9.out.get 2 rfl
 have HCB := Aside0.mk (Kd.R_reads' (show (Kd.int .u8).R 5 w9 0 okb (.slice Ab 12 cb) bb from hRb)).2.2
 obtain ⟨k, hk⟩ := same17 [[98], [99]] [[98], [99]] (by decide) (by decide)
 rw [decide_eq_true rfl] at hk
 have HK := Aside0.mk hk
 clear h9 hc9 hC9 hRr hRb hk
 go_wp2_with fail
 refine (liveryref17_Same.calls k A9 c9 [[98], [99]] Ar cr [[98], [99]] true w9 HC9.out.2 HC9.out.1 HCRR.out HCR.out HK.out).mono ?_
 rintro e w10 ⟨rfl, hd⟩
 have HB10 := Aside0.mk hd.below
 have HST10 := Aside0.mk (HST9.out.on hd.below)
 have hCb := Kd.C_below HCB.out hd.below
 have hCr := Kd.C_below HCRR.out hd.below
 rw [HBL.out] at hCb
 obtain ⟨ad, eA, y1⟩ := Kd.at_int hCb 1 (by decide) (by decide)
 obtain ⟨ad7, eA7, y7⟩ := Kd.at_int hCb 7 (by decide) (by decide)
 obtain ⟨ad8, eA8, y8⟩ := Kd.at_int hCb 8 (by decide) (by decide)
 obtain ⟨ad9, eA9, y9⟩ := Kd.at_int hCb 9 (by decide) (by decide)
 subst eA
 cases eA7
 cases eA8
 cases eA9
 rw [HBV.out.1, show Int.toNat 1 = 1 from rfl, ad_at ad 1 (by decide)] at y1
 rw [HBV.out.2.1, show Int.toNat 7 = 7 from rfl, ad_at ad 7 (by decide)] at y7
 rw [HBV.out.2.2.1, show Int.toNat 8 = 8 from rfl, ad_at ad 8 (by decide)] at y8
 rw [HBV.out.2.2.2, show Int.toNat 9 = 9 from rfl, ad_at ad 9 (by decide)] at y9
 obtain ⟨ar, Ae, ce, eR, z1, zl, zC⟩ := at_L2 hCr 1 (by decide) (by decide)
 subst eR
 have er : rd_L2 [[98], [99]] 1 = [99] := rfl
 rw [er] at z1 zl zC
 rw [show Int.toNat 1 = 1 from rfl, ad_at ar 1 (by decide)] at z1
 have hconv : ∀ n, (convert 30 9 (.slice Ae 1 ce)).run Try.prog (w10.drewN n) = .ok (.string (strOfNums [99])) (w10.drewN n) := fun n => Kd.C_string Try.underlying30 Try.underlying5 Try.underlying9 (Kd.C_drewN zC n)
 have hconv0 := hconv 0
 rw [str99] at hconv hconv0
 have hconv1 : (convert 30 9 (.slice Ae 1 ce)).run Try.prog w10 = .ok (.string { data := #[99] }) w10 := hconv0
 clear hd hCb hCr zC zl hconv hconv0
 go_wp2_with fail
 refine (genP_at HST10.out 4 rfl).mono ?_
 rintro e w11 ⟨rfl, h11⟩
 have HB11 := Aside0.mk h11.below
 rw [HGG.out]
 clear h11
 go_wp2_with fail
 go_ret
 exact ⟨rfl, HB11.out⟩
end Go.Proofs.Ytmfmoddaejoekaa.P
