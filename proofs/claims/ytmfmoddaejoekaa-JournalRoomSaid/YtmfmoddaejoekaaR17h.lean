/- The plain model of layer 17: what has no room. -/
import Derived.Test.YtmfmoddaejoekaaR17g
set_option linter.unusedVariables false
set_option linter.unusedSimpArgs false
namespace Go.Proofs.Ytmfmoddaejoekaa.P
open Go.RowKit Go.Proofs.YtmfmoddaejoekaaW.PrintWords Go.Proofs.YtmfmoddaejoekaaW.PrintLast Go.Proofs.YtmfmoddaejoekaaW.PrintMore
structure RoomS (i : Nat) (T : TM) (J : JM) : Prop where
  good : Good T J
  burns : T.burns = false
  g : J.g = 1
  size : 7 ≤ J.size ∧ J.size ≤ 65536
  L : J.L.length ≤ i
  rcs : ∀ r ∈ J.L, r.length ≤ 8192
  ok : T.Ok (20 + 8200 * i)
  by_ : T.By
theorem room_new : ∃ T J, openM TM.new = (0, T, some J) ∧ RoomS 0 T J ∧ J.size = 7 := by
  obtain ⟨T1, J1, ho1, hG1, hb1, hs1, hg1, hL1, hz1, hs11, hs10⟩ := open_new (T := TM.new) rfl rfl rfl rfl
  have hok := Ok_open TM.new_ok
  have hby := By_open TM.By.new
  rw [ho1] at hok hby
  exact ⟨T1, J1, ho1, ⟨hG1, hb1, hg1, by rw [hz1]; decide, by rw [hL1]; decide, by rw [hL1]; simp, hok.mono (by decide), hby⟩, hz1⟩
theorem RoomS.more {i : Nat} {T : TM} {J : JM} (h : RoomS i T J) : RoomS (i + 1) T J := ⟨h.good, h.burns, h.g, h.size, by have := h.L; omega, h.rcs, h.ok.mono (by omega), h.by_⟩
theorem zeros_ok (k : Nat) : okB (List.replicate k 0) = true := okB_of fun x hx => by
  rw [(List.mem_replicate.1 hx).2]
  decide
theorem JM.not_broken {J : JM} (h : J.broken = false) : { J with broken := false } = J := by
  obtain ⟨a, b, c, d, e⟩ := J
  simp only at h
  rw [h]
theorem room_append {i : Nat} {T : TM} {J : JM} (h : RoomS i T J) (k : Nat) (hk : k ≤ 8193) : ∃ e T' J', appendM T J (List.replicate k 0) = (e, T', J') ∧ RoomS (i + 1) T' J' ∧
    (if k < 1 ∨ 8192 < k then e = 1 ∧ J'.size = J.size else if 65536 < J.size + (k : Int) + 4 then e = 42 ∧ J'.size = J.size else e = 0 ∧ J'.size = J.size + (k : Int) + 4) := by
  by_cases h1 : k < 1 ∨ 8192 < k
  · refine ⟨1, T, J, ?_, h.more, by rw [if_pos h1]; exact ⟨rfl, rfl⟩⟩
    unfold appendM
    rw [if_neg (by rw [h.good.br]; decide), if_pos (show isRec (List.replicate k 0) = false from decide_eq_false (by rw [List.length_replicate]; omega))]
  · have hsd := h.good.sd
    have hrec : isRec (List.replicate k 0) = true := decide_eq_true (by rw [List.length_replicate]; omega)
    have hwe : T.writeE J.side (frameM (List.replicate k 0)) = if 65536 < J.size + (k : Int) + 4 then 42 else 0 := by
      have hz := h.good.size
      rw [TM.writeE_ready (TM.calm_ready h.burns hsd), safe_now h.good.us, frameM_len, List.length_replicate]
      by_cases h2 : 65536 < J.size + (k : Int) + 4
      · rw [if_pos h2, if_pos (by omega)]
      · rw [if_neg h2, if_neg (by omega)]
    by_cases h2 : 65536 < J.size + (k : Int) + 4
    · rw [if_pos h2] at hwe
      refine ⟨42, T, J, ?_, h.more, by rw [if_neg h1, if_pos h2]; exact ⟨rfl, rfl⟩⟩
      unfold appendM
      rw [if_neg (by rw [h.good.br]; decide), if_neg (by rw [hrec]; decide), if_pos (by rw [hwe]; decide), hwe, TM.write_no (by rw [hwe]; decide)]
      have : brk 42 = false := by decide
      rw [this, JM.not_broken h.good.br]
    · rw [if_neg h2] at hwe
      have hb2 := TM.calm_write h.burns J.side (frameM (List.replicate k 0))
      have hr0 := TM.calm_ready hb2 (i := 0) (.inl rfl)
      obtain ⟨e1, hG⟩ := append_good h.good hrec hwe hr0
      have hok := Ok_append h.ok J (r := List.replicate k 0) (by rw [List.length_replicate]; omega)
      have hby := By_append h.by_ J (zeros_ok k)
      rw [e1] at hok hby
      refine ⟨0, _, _, e1, ⟨hG, TM.calm_sync hb2, h.g, ?_, ?_, ?_, hok.mono (by omega), hby⟩, ?_⟩
      · show 7 ≤ J.size + ((frameM (List.replicate k 0)).length : Int) ∧ J.size + ((frameM (List.replicate k 0)).length : Int) ≤ 65536
        have := h.size
        rw [frameM_len, List.length_replicate]
        omega
      · show (J.L ++ [List.replicate k 0]).length ≤ _
        have := h.L
        rw [List.length_append, List.length_singleton]
        omega
      · intro x hx
        rcases List.mem_append.1 hx with hx | hx
        · exact h.rcs x hx
        · rw [List.mem_singleton.1 hx, List.length_replicate]; omega
      · rw [if_neg h1, if_neg h2]
        refine ⟨rfl, ?_⟩
        show J.size + ((frameM (List.replicate k 0)).length : Int) = _
        rw [frameM_len, List.length_replicate]
        omega
theorem head2_len (k : Nat) (hk : k ≤ 11) : (headR 2 (k : Int)).length ≤ 4 := by
  have : ∀ k : Fin 12, (headR 2 ((k : Nat) : Int)).length ≤ 4 := by decide +kernel
  exact this ⟨k, by omega⟩
theorem framesM_zeros (n : Nat) : ∀ k : Nat, (framesM (List.replicate k (List.replicate n 0))).length = k * (n + 4)
  | 0 => by simp [framesM]
  | k + 1 => by
    have h1 := framesM_zeros n k
    have e : framesM (List.replicate (k + 1) (List.replicate n 0)) = frameM (List.replicate n 0) ++ framesM (List.replicate k (List.replicate n 0)) := by rw [List.replicate_succ]; rfl
    rw [e, List.length_append, h1, frameM_len, List.length_replicate, Nat.succ_mul]
    omega
theorem room_renew {i : Nat} {T : TM} {J : JM} (h : RoomS i T J) (k : Nat) (hk : k ≤ 11) : ∃ e T' J', renewM T J (List.replicate k (List.replicate 8000 0)) = (e, T', J') ∧ J'.L.length ≤ i + 11 ∧ (∀ r ∈ J'.L, r.length ≤ 8192) ∧
    (if 65536 < k * 8004 + 9 then e = 42 ∧ J' = J else e = 0 ∧ J'.L.length = k) := by
  obtain ⟨l, el⟩ : ∃ l : List (List Int), List.replicate k (List.replicate 8000 (0 : Int)) = l := ⟨_, rfl⟩
  have hll : l.length = k := by rw [← el, List.length_replicate]
  have hrec : ∀ r ∈ l, isRec r = true := fun r hr => by
    rw [← el] at hr
    rw [(List.mem_replicate.1 hr).2]
    exact decide_eq_true (by rw [List.length_replicate]; omega)
  have hfl : (framesM l).length = k * 8004 := by rw [← el]; exact framesM_zeros 8000 k
  have hg2 : J.g + 1 = 2 := by rw [h.g]; rfl
  have hh := head2_len k hk
  have hbl : k * 8004 ≤ (bodyM (J.g + 1) l).length ∧ (bodyM (J.g + 1) l).length ≤ k * 8004 + 8 := by
    unfold bodyM
    rw [List.length_append, frameM_len, hfl, hg2, hll]
    omega
  have hsd := h.good.sd
  have hso := other_side hsd
  rw [el]
  by_cases hbig : 65536 < k * 8004 + 9
  · refine ⟨42, T, J, ?_, by have := h.L; omega, h.rcs, by rw [if_pos hbig]; exact ⟨rfl, rfl⟩⟩
    unfold renewM
    rw [if_neg (by rw [h.good.br]; decide), if_neg (by simp only [not_or]; exact ⟨by omega, by rw [h.g]; decide, fun hh => hh hrec⟩), if_pos (by omega)]
  · have ht : T.trimE (1 - J.side) 0 = 0 := TM.trimE_ready (TM.calm_ready h.burns hso) (by decide) (by omega)
    have hb2 := TM.calm_trim h.burns (1 - J.side) 0
    have hn : (T.trim (1 - J.side) 0).now (1 - J.side) = [] := by rw [TM.trim_same ht (by decide)]; rfl
    have hw : (T.trim (1 - J.side) 0).writeE (1 - J.side) (bodyM (J.g + 1) l) = 0 := by
      rw [TM.writeE_ready (TM.calm_ready hb2 hso), hn, List.length_nil, if_neg (by omega)]
    have hb3 := TM.calm_write hb2 (1 - J.side) (bodyM (J.g + 1) l)
    have hr0 := TM.calm_ready hb3 (i := 0) (.inl rfl)
    obtain ⟨e1, hG⟩ := renew_good h.good (l := l) (by omega) (by rw [h.g]; decide) hrec (by omega) ht hw hr0
    refine ⟨0, _, _, e1, ?_, ?_, by rw [if_neg hbig]; exact ⟨rfl, hll⟩⟩
    · show l.length ≤ _
      omega
    · intro r hr
      have hr' : r ∈ l := hr
      rw [← el] at hr'
      rw [(List.mem_replicate.1 hr').2, List.length_replicate]
      omega
end Go.Proofs.Ytmfmoddaejoekaa.P
