/- Contracts, typed by hand: are all records records. -/
import Derived.Test.YtmfmoddaejoekaaHJourA
import Derived.Test.YtmfmoddaejoekaaWRead
import Derived.Test.YtmfmoddaejoekaaP6
set_option linter.unusedVariables false
set_option linter.unusedSimpArgs false
namespace Go.Proofs.Ytmfmoddaejoekaa.P
open Go.RowKit Go.Proofs.YtmfmoddaejoekaaW.PrintWords Go.Proofs.YtmfmoddaejoekaaW.PrintLast Go.Proofs.YtmfmoddaejoekaaW.PrintMore
theorem renew1.calls (A : Option Addr) (c : Nat) (r : List Int) (W : World) (hC : Kd.C (Kd.int .u8) W A r.length r) (hc : r.length ≤ c) :
    Calls Try.prog 38 #[.slice A r.length c] W fun e W' => e = .returned (.bool (!(isRec r))) ∧ Drawn0 W W' := by
  have HI := Aside0.mk (journal_is.calls A c r (isRec r) W hC hc (is_eq r))
  clear hC hc
  obtain ⟨b, hb⟩ : ∃ b, isRec r = b := ⟨_, rfl⟩
  rw [hb] at HI ⊢
  clear hb
  go_enter Try.func38, Try.ntmps38
  go_wp2_with fail
  refine HI.out.mono ?_
  rintro e w' ⟨rfl, hd⟩
  have HD := Aside0.mk hd
  clear hd HI
  cases b with
  | true =>
    go_wp2_with fail
    go_ret
    exact ⟨rfl, HD.out⟩
  | false =>
    go_wp2_with fail
    go_ret
    exact ⟨rfl, HD.out⟩
theorem drawn_trans {w w1 w2 : World} (h : Drawn0 w w1) (k : Drawn0 w1 w2) : Drawn0 w w2 := by
  obtain ⟨⟨m, rfl⟩⟩ := k
  exact h.step m
set_option maxHeartbeats 2000000 in
theorem indexFunc.calls (A : Option Addr) (c : Nat) (L : List (List Int)) (W : World) (hC : Kd.C (Kd.slice 5 (Kd.int .u8)) W A L.length L) (hl : L.length ≤ 1000000) :
    Calls Try.prog 67 #[.slice A L.length c, .func (.func 38) #[] #[]] W fun e W' => ∃ q : Int, e = .returned (.int .i64 q) ∧ (0 ≤ q ↔ ¬ (∀ r ∈ L, isRec r = true)) ∧ Drawn0 W W' := by
  have HC := Aside0.mk hC
  clear hC
  go_enter Try.func67, Try.ntmps67
  go_wp2_with fail
  go_loopw [8] (fun s8 wr => ∃ j : Nat, j ≤ L.length ∧ s8 = .int .i64 (j : Int) ∧ Aside0 (∀ r ∈ L.take j, isRec r = true) ∧ Aside0 (Drawn0 W wr)) (fun s8 _ => (L.length + 1 - (intOf s8).toNat))
  case atStart => exact ⟨0, Nat.zero_le _, rfl, ⟨by simp⟩, ⟨Drawn0.refl _⟩⟩
  case round =>
    obtain ⟨j, hj, rfl, HA, HD⟩ := hrel
    by_cases hjl : j < L.length
    · have b1 : decide ((j : Int) < (L.length : Int)) = true := decide_eq_true (by omega)
      obtain ⟨ad, A0, c0, eA, hc0, hl0, hCr⟩ := at_L2 (Kd.C_below HC.out HD.out.below) (j : Int) (by omega) (by omega)
      subst eA
      rw [Int.toNat_natCast] at hc0
      have hmem : rd_L2 L (j : Int) ∈ L := by simp [rd_L2, hjl]
      have htk : L.take (j + 1) = L.take j ++ [rd_L2 L (j : Int)] := by
        rw [List.take_add_one, List.getElem?_eq_getElem hjl, Option.toList_some]
        simp [rd_L2, hjl]
      obtain ⟨r, er⟩ : ∃ r, rd_L2 L (j : Int) = r := ⟨_, rfl⟩
      rw [er] at hc0 hl0 hCr hmem htk
      have HCR := Aside0.mk hCr
      have HL0 := Aside0.mk hl0
      have HMM := Aside0.mk hmem
      have HTK := Aside0.mk htk
      clear er hCr hl0 hmem htk
      go_wp2_with fail
      refine (renew1.calls A0 c0 r wr HCR.out HL0.out).mono ?_
      rintro e w1 ⟨rfl, hd⟩
      have HD1 := Aside0.mk (drawn_trans HD.out hd)
      obtain ⟨b, hb⟩ : ∃ b, isRec r = b := ⟨_, rfl⟩
      have HB := Aside0.mk hb
      rw [hb]
      clear hb hd HD
      cases b with
      | true =>
        go_wp2_with fail
        go_roundw
        case rel => exact ⟨j + 1, by omega, by simp, ⟨by rw [HTK.out]; intro x hx; rcases List.mem_append.1 hx with h | h; exact HA.out x h; rw [List.mem_singleton.1 h]; exact HB.out⟩, HD1⟩
        case measure => simp [intOf]; omega
      | false =>
        go_wp2_with fail
        go_ret
        exact ⟨_, rfl, ⟨fun _ hh => (by have := hh r HMM.out; rw [HB.out] at this; cases this), fun _ => by omega⟩, HD1.out⟩
    · obtain rfl : j = L.length := by omega
      rw [List.take_length] at HA
      have b1 : decide ((L.length : Int) < (L.length : Int)) = false := decide_eq_false (by omega)
      clear hj hjl
      go_wp2_with fail
      go_ret
      exact ⟨_, rfl, ⟨fun h => by omega, fun h => absurd HA.out h⟩, HD.out⟩
theorem containsFunc.calls (A : Option Addr) (c : Nat) (L : List (List Int)) (W : World) (hC : Kd.C (Kd.slice 5 (Kd.int .u8)) W A L.length L) (hl : L.length ≤ 1000000) :
    Calls Try.prog 37 #[.slice A L.length c, .func (.func 38) #[] #[]] W fun e W' => e = .returned (.bool (decide (¬ (∀ r ∈ L, isRec r = true)))) ∧ Drawn0 W W' := by
  have HI := Aside0.mk (indexFunc.calls A c L W hC hl)
  clear hC hl
  go_enter Try.func37, Try.ntmps37
  go_wp2_with fail
  refine HI.out.mono ?_
  rintro e w' ⟨q, rfl, hq, hd⟩
  have HD := Aside0.mk hd
  have HQ := Aside0.mk hq
  clear hd hq HI
  go_wp2_with fail
  go_ret
  refine ⟨?_, HD.out⟩
  rw [show decide (¬ (∀ r ∈ L, isRec r = true)) = decide (0 ≤ q) from decide_eq_decide.2 HQ.out.symm]
  rfl
theorem head_eq (g n : Int) (hg : 0 ≤ g ∧ g ≤ 9223372036854775807) (hn : 0 ≤ n ∧ n ≤ 9223372036854775807) : journal_head.f g n = some (headR g n) := by
  unfold journal_head.f headR
  rw [prog_Number [] g (by decide) hg.2, List.nil_append, Option.bind_some, prog_Number (numB g) n (by have := numB_length g hg.2; omega) hn.2]
  rfl
theorem headR_len (g n : Int) (hg : g ≤ 9223372036854775807) (hn : n ≤ 9223372036854775807) : (headR g n).length ≤ 18 := by
  have h1 := numB_length g hg
  have h2 := numB_length n hn
  unfold headR
  rw [List.length_append]
  omega
end Go.Proofs.Ytmfmoddaejoekaa.P
