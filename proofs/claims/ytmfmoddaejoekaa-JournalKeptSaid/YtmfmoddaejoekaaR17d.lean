/- The plain model of layer 17: what is written is read. -/
import Derived.Test.YtmfmoddaejoekaaR17c
import Derived.Test.YtmfmoddaejoekaaWRead
set_option linter.unusedVariables false
set_option linter.unusedSimpArgs false
namespace Go.Proofs.Ytmfmoddaejoekaa.P
open Go.RowKit Go.Proofs.YtmfmoddaejoekaaW.PrintWords Go.Proofs.YtmfmoddaejoekaaW.PrintLast Go.Proofs.YtmfmoddaejoekaaW.PrintMore
theorem readA_nil : readA [] = ([], 0, 0) := rfl
/-- What begins with a frame's first bytes. -/
theorem nJ_lenB (n : Nat) (hn : n ≤ 8192) (c : List Int) : nJ (lenB n ++ c) = n := by
  unfold nJ lenB
  simp only [List.cons_append, List.nil_append, rd]
  simp
  omega
theorem frame_parts (r c : List Int) : frameM r ++ c = lenB r.length ++ (r ++ (putM (sumM (lenB r.length ++ r)) ++ c)) := by
  unfold frameM
  simp only [List.append_assoc]
theorem lenB_len (n : Nat) : (lenB n).length = 2 := rfl
theorem next_frame (r c : List Int) (hr : isRec r = true) : nextJ (frameM r ++ c) = 3 ∧ nJ (frameM r ++ c) = r.length ∧ recJ (frameM r ++ c) = r ∧ (frameM r ++ c).drop (r.length + 4) = c := by
  have hb := of_decide_eq_true (show decide (1 ≤ r.length ∧ r.length ≤ 8192) = true from hr)
  have hn : nJ (frameM r ++ c) = r.length := by rw [frame_parts]; exact nJ_lenB _ hb.2 _
  have hl : (frameM r ++ c).length = r.length + 4 + c.length := by rw [List.length_append, frameM_len]
  have ht : (frameM r ++ c).take (r.length + 2) = lenB r.length ++ r := by
    unfold frameM
    rw [List.append_assoc, List.take_append_of_le_length (by rw [List.length_append, lenB_len]; omega), List.take_of_length_le (by rw [List.length_append, lenB_len]; omega)]
  have ht4 : (frameM r ++ c).take (r.length + 4) = frameM r := by
    rw [List.take_append_of_le_length (by rw [frameM_len]; exact Nat.le_refl _), List.take_of_length_le (by rw [frameM_len]; exact Nat.le_refl _)]
  have hd : (frameM r).drop (r.length + 2) = putM (sumM (lenB r.length ++ r)) := by
    unfold frameM
    rw [List.drop_append_of_le_length (by rw [List.length_append, lenB_len]; omega), List.drop_of_length_le (by rw [List.length_append, lenB_len]; omega), List.nil_append]
  refine ⟨?_, hn, ?_, ?_⟩
  · unfold nextJ
    rw [hn, if_neg (by omega), if_neg (by omega), if_neg (by omega), if_neg (by omega), ht4, ht, hd, if_pos rfl]
  · unfold recJ
    rw [hn, ht, List.drop_append_of_le_length (by rw [lenB_len]; exact Nat.le_refl _), List.drop_of_length_le (by rw [lenB_len]; exact Nat.le_refl _), List.nil_append]
  · rw [← frameM_len, List.drop_left]
theorem readA_frame (r c : List Int) (hr : isRec r = true) : readA (frameM r ++ c) = (r :: (readA c).1, r.length + 4 + (readA c).2.1, (readA c).2.2) := by
  obtain ⟨h1, h2, h3, h4⟩ := next_frame r c hr
  rw [readA_step h1, h2, h3, h4]
/-- A frame that was cut off. -/
theorem readA_cut (r : List Int) (hr : isRec r = true) (k : Nat) (h0 : 0 < k) (hk : k < r.length + 4) : readA ((frameM r).take k) = ([], 0, 1) := by
  have hb := of_decide_eq_true (show decide (1 ≤ r.length ∧ r.length ≤ 8192) = true from hr)
  have hl : ((frameM r).take k).length = k := by rw [List.length_take, frameM_len]; omega
  have hx : nextJ ((frameM r).take k) = 1 := by
    unfold nextJ
    rw [hl, if_neg (by omega)]
    by_cases h2 : k < 2
    · rw [if_pos h2]
    · have hn : nJ ((frameM r).take k) = r.length := by
        have e : (frameM r).take k = lenB r.length ++ ((r ++ putM (sumM (lenB r.length ++ r))).take (k - 2)) := by
          unfold frameM
          rw [List.append_assoc, List.take_append, lenB_len, List.take_of_length_le (by rw [lenB_len]; omega)]
        rw [e]
        exact nJ_lenB _ hb.2 _
      rw [if_neg h2, hn, if_neg (by omega), if_pos hk]
  rw [readA_stop (by rw [hx]; decide), hx]
/-- What stands behind whole frames. -/
theorem readJ_append : ∀ (k : Nat) (b c : List Int) (L : List (List Int)), b.length < k → readJ k b = (L, b.length, 0) → readA (b ++ c) = glue L b.length (readA c)
  | 0, _, _, _, h, _ => by omega
  | k + 1, b, c, L, hk, h => by
    simp only [readJ] at h
    by_cases hn : nextJ b = 3
    · rw [if_pos hn] at h
      have h3 := next3 hn
      injection h with e1 e2
      injection e2 with e2 e3
      have hd : (b.drop (nJ b + 4)).length = b.length - (nJ b + 4) := List.length_drop
      have ih := readJ_append k (b.drop (nJ b + 4)) c (readJ k (b.drop (nJ b + 4))).1 (by rw [hd]; omega) (by
        rw [← e3]
        have : (readJ k (b.drop (nJ b + 4))).2.1 = (b.drop (nJ b + 4)).length := by rw [hd]; omega
        rw [← this])
      have hrd : ∀ i : Int, 0 ≤ i → i < 2 → rd (b ++ c) i = rd b i := fun i h0 h1 => by
        unfold rd
        rw [List.getD_eq_getElem?_getD, List.getD_eq_getElem?_getD, List.getElem?_append_left (by omega)]
      have hnj : nJ (b ++ c) = nJ b := by unfold nJ; rw [hrd 0 (by decide) (by decide), hrd 1 (by decide) (by decide)]
      have ht : ∀ m, m ≤ nJ b + 4 → (b ++ c).take m = b.take m := fun m hm => List.take_append_of_le_length (by omega)
      have hnx : nextJ (b ++ c) = 3 := by
        unfold nextJ
        rw [hnj, List.length_append, if_neg (by omega), if_neg (by omega), if_neg (by omega), if_neg (by omega), ht _ (Nat.le_refl _), ht _ (by omega), if_pos h3.2.2.2]
      rw [readA_step hnx, hnj, List.drop_append_of_le_length (by omega), ih]
      have hr : recJ (b ++ c) = recJ b := by unfold recJ; rw [hnj, ht _ (by omega)]
      rw [hr, ← e1, hd]
      simp only [glue, List.cons_append, Prod.mk.injEq, true_and]
      exact ⟨by omega, trivial⟩
    · rw [if_neg hn] at h
      injection h with e1 e2
      injection e2 with e2 e3
      have : b = [] := List.eq_nil_of_length_eq_zero e2.symm
      subst this
      rw [← e1, List.nil_append]
      exact (glue_zero _).symm
theorem readA_append (b c : List Int) (L : List (List Int)) (h : readA b = (L, b.length, 0)) : readA (b ++ c) = glue L b.length (readA c) := readJ_append (b.length + 1) b c L (Nat.lt_succ_self _) h
/-- What is torn, cut where its frames end. -/
theorem readJ_take : ∀ (k : Nat) (b : List Int), b.length < k → (readJ k b).2.1 ≤ b.length ∧ readA (b.take (readJ k b).2.1) = ((readJ k b).1, (readJ k b).2.1, 0)
  | 0, _, h => by omega
  | k + 1, b, hk => by
    simp only [readJ]
    by_cases hn : nextJ b = 3
    · rw [if_pos hn]
      have h3 := next3 hn
      have hd : (b.drop (nJ b + 4)).length = b.length - (nJ b + 4) := List.length_drop
      have ih := readJ_take k (b.drop (nJ b + 4)) (by rw [hd]; omega)
      obtain ⟨⟨L, s, e⟩, er⟩ : ∃ x, readJ k (b.drop (nJ b + 4)) = x := ⟨_, rfl⟩
      rw [er] at ih ⊢
      simp only at ih ⊢
      refine ⟨by omega, ?_⟩
      have hl : (b.take (nJ b + 4 + s)).length = nJ b + 4 + s := by rw [List.length_take]; omega
      have ht : ∀ m, m ≤ nJ b + 4 → (b.take (nJ b + 4 + s)).take m = b.take m := fun m hm => by rw [List.take_take, Nat.min_eq_left (by omega)]
      have hrd : ∀ i : Int, 0 ≤ i → i < 2 → rd (b.take (nJ b + 4 + s)) i = rd b i := fun i h0 h1 => by
        unfold rd
        rw [List.getD_eq_getElem?_getD, List.getD_eq_getElem?_getD, List.getElem?_take_of_lt (by omega)]
      have hnj : nJ (b.take (nJ b + 4 + s)) = nJ b := by
        show (256 * rd (b.take (nJ b + 4 + s)) 0 + rd (b.take (nJ b + 4 + s)) 1).toNat = _
        rw [hrd 0 (by decide) (by decide), hrd 1 (by decide) (by decide)]
        rfl
      have hnx : nextJ (b.take (nJ b + 4 + s)) = 3 := by
        unfold nextJ
        rw [hnj, hl, if_neg (by omega), if_neg (by omega), if_neg (by omega), if_neg (by omega), ht _ (Nat.le_refl _), ht _ (by omega), if_pos h3.2.2.2]
      have hdt : (b.take (nJ b + 4 + s)).drop (nJ b + 4) = (b.drop (nJ b + 4)).take s := by rw [List.drop_take]; congr 1; omega
      rw [readA_step hnx, hnj, hdt, ih.2]
      have hr : recJ (b.take (nJ b + 4 + s)) = recJ b := by unfold recJ; rw [hnj, ht _ (by omega)]
      rw [hr]
    · rw [if_neg hn]
      exact ⟨Nat.zero_le _, rfl⟩
theorem readA_take (b : List Int) (L : List (List Int)) (s e : Nat) (h : readA b = (L, s, e)) : s ≤ b.length ∧ readA (b.take s) = (L, s, 0) := by
  have := readJ_take (b.length + 1) b (Nat.lt_succ_self _)
  unfold readA at h
  rw [h] at this
  exact this
theorem readJ_full : ∀ (k : Nat) (b : List Int), b.length < k → (readJ k b).2.2 = 0 → (readJ k b).2.1 = b.length
  | 0, _, h, _ => by omega
  | k + 1, b, hk, h => by
    simp only [readJ] at h ⊢
    by_cases hn : nextJ b = 3
    · rw [if_pos hn] at h ⊢
      have h3 := next3 hn
      have hd : (b.drop (nJ b + 4)).length = b.length - (nJ b + 4) := List.length_drop
      have := readJ_full k (b.drop (nJ b + 4)) (by rw [hd]; omega) h
      simp only
      omega
    · rw [if_neg hn] at h ⊢
      simp only at h ⊢
      unfold nextJ at h
      by_cases h1 : b.length = 0
      · exact h1.symm
      · rw [if_neg h1] at h
        split at h
        · omega
        · split at h
          · omega
          · split at h
            · omega
            · split at h <;> omega
theorem readA_full (b : List Int) (L : List (List Int)) (s : Nat) (h : readA b = (L, s, 0)) : s = b.length := by
  have := readJ_full (b.length + 1) b (Nat.lt_succ_self _)
  unfold readA at h
  rw [h] at this
  exact this rfl
theorem readA_frames : ∀ (L : List (List Int)), (∀ r ∈ L, isRec r = true) → readA (framesM L) = (L, (framesM L).length, 0)
  | [], _ => rfl
  | r :: L, h => by
    have e : framesM (r :: L) = frameM r ++ framesM L := rfl
    rw [e, readA_frame r _ (h r (by simp)), readA_frames L (fun x hx => h x (by simp [hx])), List.length_append, frameM_len]
/-- A part of whole frames: its first so many bytes. -/
theorem readA_part : ∀ (L : List (List Int)) (k : Nat), (∀ r ∈ L, isRec r = true) → ∃ (m : Nat) (e : Nat), m ≤ L.length ∧ e ≤ 1 ∧ (k < (framesM L).length → m < L.length) ∧ ((framesM L).length ≤ k → m = L.length ∧ e = 0) ∧ readA ((framesM L).take k) = (L.take m, (framesM (L.take m)).length, e)
  | [], k, _ => ⟨0, 0, Nat.le_refl _, by decide, fun h => by simp [framesM] at h, fun _ => ⟨rfl, rfl⟩, by simp [framesM, readA_nil]⟩
  | r :: L, k, h => by
    have e : framesM (r :: L) = frameM r ++ framesM L := rfl
    have hr := h r (by simp)
    have hlen : (framesM (r :: L)).length = r.length + 4 + (framesM L).length := by rw [e, List.length_append, frameM_len]
    by_cases hk : k < r.length + 4
    · by_cases h0 : k = 0
      · subst h0
        exact ⟨0, 0, Nat.zero_le _, by decide, fun _ => by simp, fun hh => by omega, by rw [List.take_zero, List.take_zero]; rfl⟩
      · refine ⟨0, 1, Nat.zero_le _, by decide, fun _ => by simp, fun hh => by omega, ?_⟩
        rw [e, List.take_append_of_le_length (by rw [frameM_len]; omega), readA_cut r hr k (by omega) hk]
        rfl
    · obtain ⟨m, ee, h1, h2, h3, h4, h5⟩ := readA_part L (k - (r.length + 4)) (fun x hx => h x (by simp [hx]))
      refine ⟨m + 1, ee, by simp; omega, h2, fun hh => by simp; exact h3 (by omega), fun hh => by have := h4 (by omega); simp [this.1, this.2], ?_⟩
      rw [e, List.take_append, frameM_len, List.take_of_length_le (by rw [frameM_len]; omega), readA_frame r _ hr, h5]
      have e2 : framesM (r :: L.take m) = frameM r ++ framesM (L.take m) := rfl
      rw [List.take_succ_cons, e2, List.length_append, frameM_len]
end Go.Proofs.Ytmfmoddaejoekaa.P
