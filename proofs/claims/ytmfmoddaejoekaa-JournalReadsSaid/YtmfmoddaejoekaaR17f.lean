/- The plain model of layer 17: calls that go through. -/
import Derived.Test.YtmfmoddaejoekaaR17e
set_option linter.unusedVariables false
set_option linter.unusedSimpArgs false
namespace Go.Proofs.Ytmfmoddaejoekaa.P
open Go.RowKit Go.Proofs.YtmfmoddaejoekaaW.PrintWords Go.Proofs.YtmfmoddaejoekaaW.PrintLast Go.Proofs.YtmfmoddaejoekaaW.PrintMore
theorem afterU_units_same (s : List Int) (i : Int) : ∀ (data : List Int), afterU s i (TM.units i data) = s ++ data := by
  intro data
  induction data generalizing s with
  | nil => simp [TM.units, afterU]
  | cons x xs ih =>
    show afterU (unit1 s i ⟨i, -1, x⟩) i (TM.units i xs) = _
    have : unit1 s i ⟨i, -1, x⟩ = s ++ [x] := by unfold unit1; rw [if_pos rfl, if_neg (by show ¬ (0 : Int) ≤ -1; decide)]
    rw [this, ih, List.append_assoc]
    rfl
theorem afterU_units_other (s : List Int) (i j : Int) (hij : i ≠ j) : ∀ (data : List Int), afterU s j (TM.units i data) = s := by
  intro data
  induction data generalizing s with
  | nil => rfl
  | cons x xs ih =>
    show afterU (unit1 s j ⟨i, -1, x⟩) j (TM.units i xs) = _
    have : unit1 s j ⟨i, -1, x⟩ = s := by unfold unit1; rw [if_neg hij]
    rw [this, ih]
namespace TM
theorem does_now (T : TM) (l : List Un) (i : Int) : (T.does l).now i = afterU (T.now i) i l := by
  show afterU (T.safe i) i (T.us ++ l) = _
  rw [afterU_append]
  rfl
theorem write_yes {T : TM} {i : Int} {data : List Int} (h : T.writeE i data = 0) : T.write i data = T.does (units i data) := by unfold write; rw [if_pos h]
theorem write_no {T : TM} {i : Int} {data : List Int} (h : T.writeE i data ≠ 0) : T.write i data = T := by unfold write; rw [if_neg h]
theorem trim_yes {T : TM} {i n : Int} (h : T.trimE i n = 0) : T.trim i n = T.does [⟨i, n, 0⟩] := by unfold trim; rw [if_pos h]
theorem trim_no {T : TM} {i n : Int} (h : T.trimE i n ≠ 0) : T.trim i n = T := by unfold trim; rw [if_neg h]
theorem sync_yes {T : TM} (h : T.ready 0 = 0) : T.sync = { T.burn with s0 := T.now 0, s1 := T.now 1, us := [] } := by unfold sync; rw [if_pos h]
theorem sync_no {T : TM} (h : T.ready 0 ≠ 0) : T.sync = T := by unfold sync; rw [if_neg h]
theorem sync_safe {T : TM} (h : T.ready 0 = 0) (i : Int) : T.sync.safe i = if i = 0 then T.now 0 else T.now 1 := by rw [sync_yes h]; rfl
/-- A tape without a fuse. -/
theorem calm_ready {T : TM} (h : T.burns = false) {i : Int} (hi : i = 0 ∨ i = 1) : T.ready i = 0 := by
  unfold ready
  rw [if_neg (by omega), if_neg (by rw [h]; simp)]
theorem calm_write {T : TM} (h : T.burns = false) (i : Int) (data : List Int) : (T.write i data).burns = false := by unfold write; split <;> exact h
theorem calm_trim {T : TM} (h : T.burns = false) (i n : Int) : (T.trim i n).burns = false := by unfold trim; split <;> exact h
theorem calm_sync {T : TM} (h : T.burns = false) : T.sync.burns = false := by unfold sync; split <;> exact h
theorem writeE_ready {T : TM} {i : Int} {data : List Int} (h : T.ready i = 0) : T.writeE i data = if 65536 < (T.now i).length + data.length then 42 else 0 := by unfold writeE; rw [if_neg (by omega)]
theorem trimE_ready {T : TM} {i n : Int} (h : T.ready i = 0) (h0 : 0 ≤ n) (h1 : n ≤ ((T.now i).length : Int)) : T.trimE i n = 0 := by unfold trimE; rw [if_neg (by omega), if_neg (by omega)]
end TM
theorem other_side {p : Int} (h : p = 0 ∨ p = 1) : 1 - p = 0 ∨ 1 - p = 1 := by omega
theorem other_ne {p : Int} (h : p = 0 ∨ p = 1) : 1 - p ≠ p := by omega
theorem synced_safe {T : TM} (h : T.ready 0 = 0) {i : Int} (hi : i = 0 ∨ i = 1) : T.sync.safe i = T.now i := by
  rw [TM.sync_safe h]
  rcases hi with rfl | rfl
  · rfl
  · rfl
/-- Append goes through. -/
theorem append_good {T : TM} {J : JM} (h : Good T J) {r : List Int} (hr : isRec r = true) (h1 : T.writeE J.side (frameM r) = 0) (h2 : (T.write J.side (frameM r)).ready 0 = 0) :
    appendM T J r = (0, (T.write J.side (frameM r)).sync, { J with L := J.L ++ [r], size := J.size + ((frameM r).length : Int) }) ∧ Good (T.write J.side (frameM r)).sync { J with L := J.L ++ [r], size := J.size + ((frameM r).length : Int) } := by
  refine ⟨?_, ?_⟩
  · unfold appendM
    rw [if_neg (by rw [h.br]; decide), if_neg (by rw [hr]; decide), if_neg (by rw [h1]; decide), if_neg (by rw [h2]; decide)]
  · have hs : (T.write J.side (frameM r)).sync.safe J.side = T.safe J.side ++ frameM r := by
      rw [synced_safe h2 h.sd, TM.write_yes h1, TM.does_now, safe_now h.us, afterU_units_same]
    have ho : (T.write J.side (frameM r)).sync.safe (1 - J.side) = T.safe (1 - J.side) := by
      rw [synced_safe h2 (other_side h.sd), TM.write_yes h1, TM.does_now, safe_now h.us, afterU_units_other _ _ _ (Ne.symm (other_ne h.sd))]
    obtain ⟨x, h0, hx, hc⟩ := h.head
    have hA := readA_append (T.safe J.side) (frameM r) (x :: J.L) hx
    have hf : readA (frameM r) = ([r], r.length + 4, 0) := by
      have := readA_frame r [] hr
      rwa [List.append_nil, readA_nil] at this
    refine ⟨by rw [TM.sync_yes h2], h.br, h.sd, h.gen, ⟨x, h0, ?_, ?_⟩, ?_, ?_⟩
    · show readA ((T.write J.side (frameM r)).sync.safe J.side) = (x :: (J.L ++ [r]), ((T.write J.side (frameM r)).sync.safe J.side).length, 0)
      rw [hs, hA, hf, List.length_append, frameM_len]
      rfl
    · exact countM_more hc (by have := h.gen; omega) r
    · show J.size + ((frameM r).length : Int) = (((T.write J.side (frameM r)).sync.safe J.side).length : Int)
      rw [hs, List.length_append, h.size]
      omega
    · show Lower ((T.write J.side (frameM r)).sync.safe (1 - J.side)) J.g
      rw [ho]
      exact h.low
/-- What a renewed side is. -/
theorem body_frames (g : Int) (l : List (List Int)) : bodyM g l = framesM (headR g (l.length : Int) :: l) := rfl
theorem body_rec {g : Int} {l : List (List Int)} (hg : 1 ≤ g ∧ g ≤ 1099511627776) (hl : l.length ≤ 4000) (hr : ∀ r ∈ l, isRec r = true) : ∀ r ∈ headR g (l.length : Int) :: l, isRec r = true := fun r hh => by
  rcases List.mem_cons.1 hh with rfl | hh
  · exact headR_rec g _ hg (by omega)
  · exact hr r hh
theorem body_count {g : Int} {l : List (List Int)} (hg : 1 ≤ g ∧ g ≤ 1099511627776) (hl : l.length ≤ 4000) : countM (headR g (l.length : Int) :: l) = (true, g) := by
  rw [countM_head g _ hg (by omega), if_pos (by omega)]
theorem head_len {g : Int} {l : List (List Int)} (hg : 1 ≤ g ∧ g ≤ 1099511627776) (hl : l.length ≤ 4000) : (headR g (l.length : Int)).length ≤ 18 := by
  have h1 := numB_length g (by omega)
  have h2 := numB_length (l.length : Int) (by omega)
  unfold headR
  rw [List.length_append]
  omega
/-- Renew goes through. -/
theorem renew_good {T : TM} {J : JM} (h : Good T J) {l : List (List Int)} (hl : l.length ≤ 4000) (hg : J.g < 1099511627776) (hr : ∀ r ∈ l, isRec r = true) (hb : (bodyM (J.g + 1) l).length ≤ 65536)
    (h1 : T.trimE (1 - J.side) 0 = 0) (h2 : (T.trim (1 - J.side) 0).writeE (1 - J.side) (bodyM (J.g + 1) l) = 0) (h3 : ((T.trim (1 - J.side) 0).write (1 - J.side) (bodyM (J.g + 1) l)).ready 0 = 0) :
    renewM T J l = (0, ((T.trim (1 - J.side) 0).write (1 - J.side) (bodyM (J.g + 1) l)).sync, ⟨1 - J.side, J.g + 1, l, ((bodyM (J.g + 1) l).length : Int), false⟩) ∧ Good ((T.trim (1 - J.side) 0).write (1 - J.side) (bodyM (J.g + 1) l)).sync ⟨1 - J.side, J.g + 1, l, ((bodyM (J.g + 1) l).length : Int), false⟩ := by
  have hge : 1 ≤ J.g + 1 ∧ J.g + 1 ≤ 1099511627776 := by have := h.gen; omega
  refine ⟨?_, ?_⟩
  · unfold renewM
    rw [if_neg (by rw [h.br]; decide), if_neg (by simp only [not_or]; exact ⟨by omega, by omega, fun hh => hh hr⟩), if_neg (by omega), if_neg (by rw [h1]; decide), if_neg (by rw [h2]; decide), if_neg (by rw [h3]; decide)]
  · have ht : (T.trim (1 - J.side) 0).now (1 - J.side) = [] := by
      rw [TM.trim_yes h1, TM.does_now, safe_now h.us]
      show unit1 (T.safe (1 - J.side)) (1 - J.side) ⟨1 - J.side, 0, 0⟩ = []
      unfold unit1
      rw [if_pos rfl, if_pos (show (0 : Int) ≤ 0 from Int.le_refl _)]
      rfl
    have ht2 : (T.trim (1 - J.side) 0).now J.side = T.safe J.side := by
      rw [TM.trim_yes h1, TM.does_now, safe_now h.us]
      show unit1 (T.safe J.side) J.side ⟨1 - J.side, 0, 0⟩ = _
      unfold unit1
      rw [if_neg (other_ne h.sd)]
    have hs : ((T.trim (1 - J.side) 0).write (1 - J.side) (bodyM (J.g + 1) l)).sync.safe (1 - J.side) = bodyM (J.g + 1) l := by
      rw [synced_safe h3 (other_side h.sd), TM.write_yes h2, TM.does_now, ht, afterU_units_same, List.nil_append]
    have ho : ((T.trim (1 - J.side) 0).write (1 - J.side) (bodyM (J.g + 1) l)).sync.safe J.side = T.safe J.side := by
      rw [synced_safe h3 h.sd, TM.write_yes h2, TM.does_now, ht2, afterU_units_other _ _ _ (other_ne h.sd)]
    obtain ⟨x, h0, hx, hc⟩ := h.head
    refine ⟨by rw [TM.sync_yes h3], rfl, other_side h.sd, hge, ⟨headR (J.g + 1) (l.length : Int), head_len hge hl, ?_, body_count hge hl⟩, ?_, ?_⟩
    · show readA (((T.trim (1 - J.side) 0).write (1 - J.side) (bodyM (J.g + 1) l)).sync.safe (1 - J.side)) = (headR (J.g + 1) (l.length : Int) :: l, (((T.trim (1 - J.side) 0).write (1 - J.side) (bodyM (J.g + 1) l)).sync.safe (1 - J.side)).length, 0)
      rw [hs, body_frames]
      exact readA_frames _ (body_rec hge hl hr)
    · show ((bodyM (J.g + 1) l).length : Int) = ((((T.trim (1 - J.side) 0).write (1 - J.side) (bodyM (J.g + 1) l)).sync.safe (1 - J.side)).length : Int)
      rw [hs]
    · show Lower (((T.trim (1 - J.side) 0).write (1 - J.side) (bodyM (J.g + 1) l)).sync.safe (1 - (1 - J.side))) (J.g + 1)
      rw [show 1 - (1 - J.side) = J.side by omega, ho]
      exact ⟨x :: J.L, J.g, ⟨⟨_, 0, by decide, hx⟩, hc⟩, by have := h.gen; omega, by omega⟩
theorem rec10 : isRec (headR 1 0) = true := headR_rec 1 0 (by decide) (by decide)
/-- A journal on a tape that is empty and has no fuse. -/
theorem open_new {T : TM} (hu : T.us = []) (h0 : T.s0 = []) (h1 : T.s1 = []) (hb : T.burns = false) :
    ∃ T' J, openM T = (0, T', some J) ∧ Good T' J ∧ T'.burns = false ∧ J.side = 0 ∧ J.g = 1 ∧ J.L = [] ∧ J.size = 7 ∧ T'.s1 = [] ∧ T'.s0 = frameM (headR 1 0) := by
  have hn0 : T.now 0 = [] := by rw [safe_now hu]; exact h0
  have hn1 : T.now 1 = [] := by rw [safe_now hu]; exact h1
  have hr := TM.calm_ready hb (i := 0) (.inl rfl)
  have t1 : T.trimE 0 0 = 0 := TM.trimE_ready hr (by decide) (by omega)
  have b1 := TM.calm_trim hb 0 0
  have n10 : (T.trim 0 0).now 0 = [] := by
    rw [TM.trim_yes t1, TM.does_now, hn0]; rfl
  have n11 : (T.trim 0 0).now 1 = [] := by
    rw [TM.trim_yes t1, TM.does_now, hn1]; rfl
  have t2 : (T.trim 0 0).trimE 1 0 = 0 := TM.trimE_ready (TM.calm_ready b1 (.inr rfl)) (by decide) (by omega)
  have b2 := TM.calm_trim b1 1 0
  have n20 : ((T.trim 0 0).trim 1 0).now 0 = [] := by
    rw [TM.trim_yes t2, TM.does_now, n10]; rfl
  have n21 : ((T.trim 0 0).trim 1 0).now 1 = [] := by
    rw [TM.trim_yes t2, TM.does_now, n11]; rfl
  have hfl : (frameM (headR 1 0)).length = 7 := by rw [frameM_len]; rfl
  have t3 : ((T.trim 0 0).trim 1 0).writeE 0 (frameM (headR 1 0)) = 0 := by
    rw [TM.writeE_ready (TM.calm_ready b2 (.inl rfl)), n20, hfl]
    rfl
  have b3 := TM.calm_write b2 0 (frameM (headR 1 0))
  have r3 := TM.calm_ready b3 (i := 0) (.inl rfl)
  have n30 : (((T.trim 0 0).trim 1 0).write 0 (frameM (headR 1 0))).sync.safe 0 = frameM (headR 1 0) := by
    rw [synced_safe r3 (.inl rfl), TM.write_yes t3, TM.does_now, n20, afterU_units_same]; rfl
  have n31 : (((T.trim 0 0).trim 1 0).write 0 (frameM (headR 1 0))).sync.safe 1 = [] := by
    rw [synced_safe r3 (.inr rfl), TM.write_yes t3, TM.does_now, n21, afterU_units_other _ _ _ (by decide)]
  refine ⟨(((T.trim 0 0).trim 1 0).write 0 (frameM (headR 1 0))).sync, ⟨0, 1, [], 7, false⟩, ?_, ?_, TM.calm_sync b3, rfl, rfl, rfl, rfl, n31, n30⟩
  · unfold openM
    rw [if_neg (by rw [hr]; decide), hn0, hn1, sideM_nil, if_neg (by decide), if_pos (by decide)]
    unfold madeM
    rw [if_neg (by rw [t1]; decide), if_neg (by rw [t2]; decide), if_neg (by rw [t3]; decide), if_neg (by rw [r3]; decide), hfl]
    rfl
  · refine ⟨by rw [TM.sync_yes r3], rfl, .inl rfl, by decide, ⟨headR 1 0, by decide, ?_, ?_⟩, ?_, ?_⟩
    · show readA ((((T.trim 0 0).trim 1 0).write 0 (frameM (headR 1 0))).sync.safe 0) = ([headR 1 0], ((((T.trim 0 0).trim 1 0).write 0 (frameM (headR 1 0))).sync.safe 0).length, 0)
      rw [n30]
      have := readA_frame (headR 1 0) [] rec10
      rw [List.append_nil, readA_nil] at this
      rw [this, hfl]
      rfl
    · exact countM_head 1 0 (by decide) (by decide) []
    · show (7 : Int) = (((((T.trim 0 0).trim 1 0).write 0 (frameM (headR 1 0))).sync.safe 0).length : Int)
      rw [n30, hfl]
      rfl
    · show Lower ((((T.trim 0 0).trim 1 0).write 0 (frameM (headR 1 0))).sync.safe (1 - 0)) 1
      rw [show (1 : Int) - 0 = 1 from rfl, n31]
      exact lower_nil (by decide)
end Go.Proofs.Ytmfmoddaejoekaa.P
