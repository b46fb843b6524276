/- Contracts, typed by hand: the program's set: Merge. -/
import Derived.Test.YtadkafhhkidecaaHSetM
set_option linter.unusedVariables false
set_option linter.unusedSimpArgs false
namespace Go.Proofs.Ytadkafhhkidecaa.P
open Go.RowKit Go.Proofs.YtadkafhhkidecaaW.PrintWords Go.Proofs.YtadkafhhkidecaaW.PrintLast Go.Proofs.YtadkafhhkidecaaW.PrintMore
set_option maxHeartbeats 4000000 in
theorem revset_Merge.calls (g : Nat) (L : List (List Int)) (hL : Good L) (A1 : Option Addr) (c1 : Nat) (known : List Int) (A2 : Option Addr) (c2 : Nat) (more : List (List Int)) (W : World) (ok : Nat → Prop) (hP : (PSet g L).P ok W)
    (hK : ∀ W', Keeps W W' ok → Kd.C (Kd.int .i64) W' A1 known.length known) (hc1 : known.length ≤ c1) (hM : ∀ W', Keeps W W' ok → Kd.C (Kd.slice 3 (Kd.int .i64)) W' A2 more.length more) (hc2 : more.length ≤ c2)
    (hm : more.length ≤ 1000000) (hm2 : ∀ r ∈ more, r.length ≤ 1000000) :
    Calls Try.prog 20 #[.pointer (some ⟨g, 0, none⟩), .slice A1 known.length c1, .slice A2 more.length c2] W fun e W' => e = .returned (.int .i64 (mergeN known more L)) ∧ Turned ok W W' (PSet g (mergeL known more L)) := by
  have HP := Aside0.mk (Turned.refl hP)
  have HL := Aside0.mk hL
  have HK := Aside0.mk hK
  have HM := Aside0.mk hM
  have HM2 := Aside0.mk hm2
  clear hP hL hK hM hm2
  go_enter Try.func20, Try.ntmps20
  go_wp2_with fail
  go_loopw [7, 12] (fun s7 s12 wr => ∃ i : Nat, i ≤ more.length ∧ s12 = .int .i64 (i : Int) ∧ s7 = .int .i64 (mergeTo known more L (upTo16 i)).2 ∧ Aside0 (Turned ok W wr (PSet g (mergeTo known more L (upTo16 i)).1))) (fun _ s12 _ => (more.length - (intOf s12).toNat))
  case atStart => exact ⟨0, by omega, rfl, rfl, HP⟩
  case round =>
    obtain ⟨i, hi, rfl, rfl, HT⟩ := hrel
    by_cases hlt : i < more.length
    · obtain ⟨ad, B, cb, rfl, hx, hcb, hCb⟩ := at_slice (HM.out wr HT.out.1) i hlt
      have hbd := mergeTo_bound HL.out known more (upTo16 i)
      have hu : upTo16 i ≤ 16 := Nat.min_le_right _ _
      by_cases h16 : i < 16
      · have h16b : decide ((i : Int) < 16) = true := decide_eq_true (by omega)
        have h16c : decide (i < 16) = true := decide_eq_true h16
        have hu1 : upTo16 i = i := Nat.min_eq_left (by omega)
        have hu2 : upTo16 (i + 1) = i + 1 := Nat.min_eq_left (by omega)
        have HU := Aside0.mk (And.intro hu1 hu2)
        by_cases he : more.getD i [] = []
        · rw [he] at hx
          have HS := Aside0.mk (mergeTo_skip known more L i he)
          clear hu1 hu2 he hcb hCb
          go_wp2_with fail
          go_roundw
          case rel => exact ⟨i + 1, by omega, by simp, by rw [HU.out.1, HU.out.2, HS.out], by rw [HU.out.2, HS.out, ← HU.out.1]; exact HT⟩
          case measure => simp [intOf]; omega
        · have HS := Aside0.mk (mergeTo_step known more L i)
          have hrl := HM2.out (more.getD i []) (by rw [List.getD_eq_getElem?_getD, List.getElem?_eq_getElem hlt]; exact List.getElem_mem hlt)
          obtain ⟨r, er⟩ : ∃ r, more.getD i [] = r := ⟨_, rfl⟩
          rw [er] at hx hcb hCb he hrl HS
          have hpos : 0 < r.length := List.length_pos_iff.2 he
          have h0b : decide ((0 : Int) < (r.length : Int)) = true := decide_eq_true (by omega)
          have h0c : decide (0 < r.length) = true := decide_eq_true hpos
          have HE := Aside0.mk he
          have HCB := Aside0.mk (And.intro hCb (And.intro hcb hrl))
          have HGD := Aside0.mk (HL.out.merge known more i)
          rw [hu1] at HT hbd ⊢
          obtain ⟨n0, en⟩ : ∃ n0, (mergeTo known more L i).2 = n0 := ⟨_, rfl⟩
          obtain ⟨L0, eL⟩ : ∃ L0, (mergeTo known more L i).1 = L0 := ⟨_, rfl⟩
          rw [en, eL] at HS
          rw [en] at hbd ⊢
          rw [eL] at HT HGD
          clear hu1 hu2 he hcb hCb er hrl hu en eL hpos
          go_wp2_with fail
          refine (vector_Get.calls A1 c1 known ((i : Int) + 1) _ wr (HK.out wr HT.out.1) hc1 (vector_Get_eq known _)).mono ?_
          rintro e w1 ⟨rfl, hB1⟩
          have HT1 := Aside0.mk (HT.out.on hB1)
          have HCB1 := Aside0.mk (Kd.C_below HCB.out.1 hB1)
          clear hB1 HT
          have hgr := getV_range known ((i : Int) + 1)
          obtain ⟨kv, ek⟩ : ∃ kv, getV known ((i : Int) + 1) = kv := ⟨_, rfl⟩
          rw [ek] at HS hgr ⊢
          have HGR := Aside0.mk hgr
          clear ek hgr
          go_wp2_with fail
          have hcall := revset_merge.calls g L0 HGD.out (i + 1) kv B cb r w1 _ HT1.out.2 (by omega) (by omega) HGR.out.1 HGR.out.2 HE.out HCB1.out HCB.out.2.1 HCB.out.2.2
          rw [show ((i + 1 : Nat) : Int) = (i : Int) + 1 by simp] at hcall
          refine hcall.mono ?_
          clear hcall
          rintro e w2 ⟨rfl, hk2, hP2⟩
          have er2 : rowS L0 ((i + 1 : Nat) : Int) = L0.getD i [] := by rw [rowS]; congr 1
          rw [er2, show i + 1 - 1 = i by omega] at hP2
          rw [er2]
          have HT2 := Aside0.mk (HT1.out.then_ hk2 hP2)
          have hrb := mergeRow_len (HGD.out.row i) kv r
          obtain ⟨x, ex⟩ : ∃ x, (mergeRow (L0.getD i []) kv r).length = x := ⟨_, rfl⟩
          obtain ⟨y, ey⟩ : ∃ y, (L0.getD i []).length = y := ⟨_, rfl⟩
          rw [ex, ey] at HS ⊢
          rw [ex, ey] at hrb
          have h9 : 0 ≤ (x : Int) - (y : Int) := by omega
          have h10 : (x : Int) - (y : Int) ≤ 32 := by omega
          clear hk2 hP2 HT1 HCB1 er2 ex ey hrb HGR
          go_wp2_with fail
          go_roundw
          case rel => exact ⟨i + 1, by omega, by simp, by rw [HU.out.2, HS.out], by rw [HU.out.2, HS.out]; exact HT2⟩
          case measure => simp [intOf]; omega
      · have h16b : decide ((i : Int) < 16) = false := decide_eq_false (by omega)
        have h16c : decide (i < 16) = false := decide_eq_false h16
        have HU := Aside0.mk (show upTo16 (i + 1) = upTo16 i by unfold upTo16; omega)
        clear hcb hCb
        go_wp2_with fail
        go_roundw
        case rel => exact ⟨i + 1, by omega, by simp, by rw [HU.out], HU.out ▸ HT⟩
        case measure => simp [intOf]; omega
    · have e : i = more.length := by omega
      subst e
      have HA := Aside0.mk (mergeTo_all known more L)
      rw [mergeTo_all] at HT ⊢
      clear hi hlt
      go_wp2_with fail
      go_ret
      exact ⟨rfl, HT.out⟩
end Go.Proofs.Ytadkafhhkidecaa.P
