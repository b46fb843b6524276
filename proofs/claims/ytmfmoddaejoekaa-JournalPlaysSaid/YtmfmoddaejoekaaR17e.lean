/- Texts of this claim, laid into one. -/
import Derived.Test.YtmfmoddaejoekaaHJour
import Derived.Test.YtmfmoddaejoekaaHJourF
section
/- The plain model of layer 17: what is written is read. -/
set_option linter.unusedVariables false
set_option linter.unusedSimpArgs false
namespace Go.Proofs.Ytmfmoddaejoekaa.P
open Go.RowKit Go.Proofs.YtmfmoddaejoekaaW.PrintWords Go.Proofs.YtmfmoddaejoekaaW.PrintLast Go.Proofs.YtmfmoddaejoekaaW.PrintMore
theorem readA_nil : readA [] = ([], 0, 0) := rfl
/-- What begins with a frame's first bytes. -/
theorem nJ_lenB (n : Nat) (hn : n ≤ 8192) (c : List Int) : nJ (lenB n ++ c) = n := by
 unfold nJ lenB
 simp only [List.cons_append, List.nil_append, rd]
 simp
 omega
theorem frame_parts (r c : List Int) : frameM r ++ c = lenB r.length ++ (r ++ (putM (sumM (lenB r.length ++ r)) ++ c)) := by
 unfold frameM
 simp only [List.append_assoc]
theorem lenB_len (n : Nat) : (lenB n).length = 2 := rfl
theorem next_frame (r c : List Int) (hr : isRec r = true) : nextJ (frameM r ++ c) = 3 ∧ nJ (frameM r ++ c) = r.length ∧ recJ (frameM r ++ c) = r ∧ (frameM r ++ c).drop (r.length + 4) = c := by
 have hb := of_decide_eq_true (show decide (1 ≤ r.length ∧ r.length ≤ 8192) = true from hr)
 have hn : nJ (frameM r ++ c) = r.length := by rw [frame_parts]; exact nJ_lenB _ hb.2 _
 have hl : (frameM r ++ c).length = r.length + 4 + c.length := by rw [List.length_append, frameM_len]
 have ht : (frameM r ++ c).take (r.length + 2) = lenB r.length ++ r := by
  unfold frameM
  rw [List.append_assoc, List.take_append_of_le_length (by rw [List.length_append, lenB_len]; omega), List.take_of_length_le (by rw [List.length_append, lenB_len]; omega)]
 have ht4 : (frameM r ++ c).take (r.length + 4) = frameM r := by
  rw [List.take_append_of_le_length (by rw [frameM_len]; exact Nat.le_refl _), List.take_of_length_le (by rw [frameM_len]; exact Nat.le_refl _)]
 have hd : (frameM r).drop (r.length + 2) = putM (sumM (lenB r.length ++ r)) := by
  unfold frameM
  rw [List.drop_append_of_le_length (by rw [List.length_append, lenB_len]; omega), List.drop_of_length_le (by rw [List.length_append, lenB_len]; omega), List.nil_append]
 refine ⟨?_, hn, ?_, ?_⟩
 ·unfold nextJ
  rw [hn, if_neg (by omega), if_neg (by omega), if_neg (by omega), if_neg (by omega), ht4, ht, hd, if_pos rfl]
 ·unfold recJ
  rw [hn, ht, List.drop_append_of_le_length (by rw [lenB_len]; exact Nat.le_refl _), List.drop_of_length_le (by rw [lenB_len]; exact Nat.le_refl _), List.nil_append]
 ·rw [← frameM_len, List.drop_left]
theorem readA_frame (r c : List Int) (hr : isRec r = true) : readA (frameM r ++ c) = (r :: (readA c).1, r.length + 4 + (readA c).2.1, (readA c).2.2) := by
 obtain ⟨h1, h2, h3, h4⟩ := next_frame r c hr
 rw [readA_step h1, h2, h3, h4]
/-- What stands behind whole frames. -/
theorem readJ_append : ∀ (k : Nat) (b c : List Int) (L : List (List Int)), b.length < k → readJ k b = (L, b.length, 0) → readA (b ++ c) = glue L b.length (readA c)
 | 0, _, _, _, h, _ => by omega
 | k + 1, b, c, L, hk, h => by
  simp only [readJ] at h
  by_cases hn : nextJ b = 3
  ·rw [if_pos hn] at h
   have h3 := next3 hn
   injection h with e1 e2
   injection e2 with e2 e3
   have hd : (b.drop (nJ b + 4)).length = b.length - (nJ b + 4) := List.length_drop
   have ih := readJ_append k (b.drop (nJ b + 4)) c (readJ k (b.drop (nJ b + 4))).1 (by rw [hd]; omega) (by
    rw [← e3]
    have : (readJ k (b.drop (nJ b + 4))).2.1 = (b.drop (nJ b + 4)).length := by rw [hd]; omega
    rw [← this])
   have hrd : ∀ i : Int, 0 ≤ i → i < 2 → rd (b ++ c) i = rd b i := fun i h0 h1 => by
    unfold rd
    rw [List.getD_eq_getElem?_getD, List.getD_eq_getElem?_getD, List.getElem?_append_left (by omega)]
   have hnj : nJ (b ++ c) = nJ b := by unfold nJ; rw [hrd 0 (by decide) (by decide), hrd 1 (by decide) (by decide)]
   have ht : ∀ m, m ≤ nJ b + 4 → (b ++ c).take m = b.take m := fun m hm => List.take_append_of_le_length (by omega)
   have hnx : nextJ (b ++ c) = 3 := by
    unfold nextJ
    rw [hnj, List.length_append, if_neg (by omega), if_neg (by omega), if_neg (by omega), if_neg (by omega), ht _ (Nat.le_refl _), ht _ (by omega), if_pos h3.2.2.2]
   rw [readA_step hnx, hnj, List.drop_append_of_le_length (by omega), ih]
   have hr : recJ (b ++ c) = recJ b := by unfold recJ; rw [hnj, ht _ (by omega)]
   rw [hr, ← e1, hd]
   simp only [glue, List.cons_append, Prod.mk.injEq, true_and]
   exact ⟨by omega, trivial⟩
  ·rw [if_neg hn] at h
   injection h with e1 e2
   injection e2 with e2 e3
   have : b = [] := List.eq_nil_of_length_eq_zero e2.symm
   subst this
   rw [← e1, List.nil_append]
   exact (glue_zero _).symm
theorem readA_append (b c : List Int) (L : List (List Int)) (h : readA b = (L, b.length, 0)) : readA (b ++ c) = glue L b.length (readA c) := readJ_append (b.length + 1) b c L (Nat.lt_succ_self _) h
/-- What is torn, cut where its frames end. -/
theorem readJ_take : ∀ (k : Nat) (b : List Int), b.length < k → (readJ k b).2.1 ≤ b.length ∧ readA (b.take (readJ k b).2.1) = ((readJ k b).1, (readJ k b).2.1, 0)
 | 0, _, h => by omega
 | k + 1, b, hk => by
  simp only [readJ]
  by_cases hn : nextJ b = 3
  ·rw [if_pos hn]
   have h3 := next3 hn
   have hd : (b.drop (nJ b + 4)).length = b.length - (nJ b + 4) := List.length_drop
   have ih := readJ_take k (b.drop (nJ b + 4)) (by rw [hd]; omega)
   obtain ⟨⟨L, s, e⟩, er⟩ : ∃ x, readJ k (b.drop (nJ b + 4)) = x := ⟨_, rfl⟩
   rw [er] at ih ⊢
   simp only at ih ⊢
   refine ⟨by omega, ?_⟩
   have hl : (b.take (nJ b + 4 + s)).length = nJ b + 4 + s := by rw [List.length_take]; omega
   have ht : ∀ m, m ≤ nJ b + 4 → (b.take (nJ b + 4 + s)).take m = b.take m := fun m hm => by rw [List.take_take, Nat.min_eq_left (by omega)]
   have hrd : ∀ i : Int, 0 ≤ i → i < 2 → rd (b.take (nJ b + 4 + s)) i = rd b i := fun i h0 h1 => by
    unfold rd
    rw [List.getD_eq_getElem?_getD, List.getD_eq_getElem?_getD, List.getElem?_take_of_lt (by omega)]
   have hnj : nJ (b.take (nJ b + 4 + s)) = nJ b := by
    show (256 * rd (b.take (nJ b + 4 + s)) 0 + rd (b.take (nJ b + 4 + s)) 1).toNat = _
    rw [hrd 0 (by decide) (by decide), hrd 1 (by decide) (by decide)]
    rfl
   have hnx : nextJ (b.take (nJ b + 4 + s)) = 3 := by
    unfold nextJ
    rw [hnj, hl, if_neg (by omega), if_neg (by omega), if_neg (by omega), if_neg (by omega), ht _ (Nat.le_refl _), ht _ (by omega), if_pos h3.2.2.2]
   have hdt : (b.take (nJ b + 4 + s)).drop (nJ b + 4) = (b.drop (nJ b + 4)).take s := by rw [List.drop_take]; congr 1; omega
   rw [readA_step hnx, hnj, hdt, ih.2]
   have hr : recJ (b.take (nJ b + 4 + s)) = recJ b := by unfold recJ; rw [hnj, ht _ (by omega)]
   rw [hr]
  ·rw [if_neg hn]
   exact ⟨Nat.zero_le _, rfl⟩
theorem readA_take (b : List Int) (L : List (List Int)) (s e : Nat) (h : readA b = (L, s, e)) : s ≤ b.length ∧ readA (b.take s) = (L, s, 0) := by
 have := readJ_take (b.length + 1) b (Nat.lt_succ_self _)
 unfold readA at h
 rw [h] at this
 exact this
theorem readA_frames : ∀ (L : List (List Int)), (∀ r ∈ L, isRec r = true) → readA (framesM L) = (L, (framesM L).length, 0)
 | [], _ => rfl
 | r :: L, h => by
  have e : framesM (r :: L) = frameM r ++ framesM L := rfl
  rw [e, readA_frame r _ (h r (by simp)), readA_frames L (fun x hx => h x (by simp [hx])), List.length_append, frameM_len]
end Go.Proofs.Ytmfmoddaejoekaa.P
end
section
/- The plain model of layer 17: a journal on a tape, what it holds; calls that go through. -/
set_option linter.unusedVariables false
set_option linter.unusedSimpArgs false
namespace Go.Proofs.Ytmfmoddaejoekaa.P
open Go.RowKit Go.Proofs.YtmfmoddaejoekaaW.PrintWords Go.Proofs.YtmfmoddaejoekaaW.PrintLast Go.Proofs.YtmfmoddaejoekaaW.PrintMore
theorem numB_pos (a : Int) : 1 ≤ (numB a).length := by unfold numB; simp
theorem headR_rec (g n : Int) (hg : 1 ≤ g ∧ g ≤ 1099511627776) (hn : 0 ≤ n ∧ n ≤ 4000) : isRec (headR g n) = true := by
 have h1 := numB_length g (by omega)
 have h2 := numB_length n (by omega)
 have h3 := numB_pos g
 unfold isRec headR
 rw [List.length_append]
 exact decide_eq_true (by omega)
theorem headM_head (g n : Int) (hg : 1 ≤ g ∧ g ≤ 1099511627776) (hn : 0 ≤ n ∧ n ≤ 4000) : headM (headR g n) = (g, n, 0) := by
 have l1 := numB_length g (by omega)
 have l2 := numB_length n (by omega)
 have a1 : lookB (headR g n) = (g, ((numB g).length : Int), 0) := lookB_numB g (numB n) (by omega) (by omega)
 have a2 : lookB ((headR g n).drop (numB g).length) = (n, ((numB n).length : Int), 0) := by
  unfold headR
  rw [List.drop_left]
  have := lookB_numB n [] (by omega) (by omega)
  rwa [List.append_nil] at this
 have w1 : wrap64 (0 + ((numB g).length : Int)) = ((numB g).length : Int) := by rw [Int.zero_add]; unfold wrap64; omega
 have w2 : wrap64 (((numB g).length : Int) + ((numB n).length : Int)) = ((numB g).length : Int) + ((numB n).length : Int) := by unfold wrap64; omega
 have e1 : numAt (headR g n) 0 0 1 1099511627776 = (g, ((numB g).length : Int), 0) := by
  unfold numAt
  rw [if_pos rfl, show (0 : Int).toNat = 0 from rfl, List.drop_zero, a1, if_pos rfl, if_neg (by simp only; omega), if_neg (by simp only; omega), w1]
 have e2 : numAt (headR g n) ((numB g).length : Int) 0 0 4000 = (n, ((numB g).length : Int) + ((numB n).length : Int), 0) := by
  unfold numAt
  rw [if_pos rfl, Int.toNat_natCast, a2, if_pos rfl, if_neg (by simp only; omega), if_neg (by simp only; omega), w2]
 unfold headM
 rw [e1, e2]
 simp only [endAt, if_true]
 rw [if_neg (by unfold headR; rw [List.length_append]; omega)]
theorem countM_head (g n : Int) (hg : 1 ≤ g ∧ g ≤ 1099511627776) (hn : 0 ≤ n ∧ n ≤ 4000) (L : List (List Int)) : countM (headR g n :: L) = if n < (L.length : Int) + 1 then (true, g) else (true, 0) := by
 simp only [countM, headM_head g n hg hn]
 rw [if_neg (by decide)]
 simp only [List.length_cons]
 rfl
/-- More records behind a head that counts. -/
theorem countM_more {L : List (List Int)} {g : Int} (h : countM L = (true, g)) (hg : g ≠ 0) (r : List Int) : countM (L ++ [r]) = (true, g) := by
 cases L with
 | nil => simp [countM] at h; omega
 | cons x L' =>
  simp only [countM, List.cons_append] at h ⊢
  by_cases h1 : (headM x).2.2 ≠ 0
  ·rw [if_pos h1] at h; simp at h
  ·rw [if_neg h1] at h ⊢
   by_cases h2 : (headM x).2.1 < (((x :: L').length : Nat) : Int)
   ·rw [if_pos h2] at h
    rw [if_pos (by simp only [List.length_cons, List.length_append, List.length_nil] at h2 ⊢; omega)]
    exact h
   ·rw [if_neg h2] at h
    injection h with _ h
    omega
/-- A side that is right, its records (the head's among them), its generation. -/
def Holds (b : List Int) (R : List (List Int)) (g : Int) : Prop := (∃ s e, e ≤ 1 ∧ readA b = (R, s, e)) ∧ countM R = (true, g)
theorem Holds.side {b : List Int} {R : List (List Int)} {g : Int} (h : Holds b R g) : ∃ s e, e ≤ 1 ∧ s ≤ b.length ∧ readA b = (R, s, e) ∧ sideM b = (R, (s : Int), decide (e = 1), g, true) := by
 obtain ⟨⟨s, e, he, hr⟩, hc⟩ := h
 refine ⟨s, e, he, (readA_take b R s e hr).1, hr, ?_⟩
 unfold sideM
 rw [hr, if_neg (by simp only; omega), hc]
/-- What is below another side's generation, and right. -/
def Lower (b : List Int) (g : Int) : Prop := ∃ R q, Holds b R q ∧ 0 ≤ q ∧ q < g
/-- The journal's own side. -/
def own (J : JM) : Int → Int → Int := fun a b => if J.side = 0 then a else b
def sideOf (p : Int) (a b : List Int) : List Int := if p = 0 then a else b
/-- Two sides hold a journal's records: on side p, of generation g. -/
def Keep (a b : List Int) (p g : Int) (L : List (List Int)) : Prop :=
 (p = 0 ∨ p = 1) ∧ 1 ≤ g ∧ ∃ h, h.length ≤ 18 ∧ Holds (sideOf p a b) (h :: L) g ∧ Lower (sideOf (1 - p) a b) g
theorem sideM_nil : sideM [] = ([], 0, false, 0, true) := rfl
theorem holds_nil : Holds [] [] 0 := ⟨⟨0, 0, by decide, rfl⟩, rfl⟩
theorem lower_nil {g : Int} (hg : 1 ≤ g) : Lower [] g := ⟨[], 0, holds_nil, Int.le_refl _, by omega⟩
/-- An opening finds what is held. -/
theorem open_keep {T : TM} {p g : Int} {L : List (List Int)} (hk : Keep (T.now 0) (T.now 1) p g L) (hr : T.ready 0 = 0) :
  ∃ s e : Nat, e ≤ 1 ∧ s ≤ (T.now p).length ∧ (∃ h, h.length ≤ 18 ∧ readA (T.now p) = (h :: L, s, e) ∧ countM (h :: L) = (true, g)) ∧ openM T = (if e = 1 then
   (if T.trimE p s ≠ 0 then (T.trimE p s, T.trim p s, none) else if (T.trim p s).ready 0 ≠ 0 then ((T.trim p s).ready 0, (T.trim p s).sync, none) else (0, (T.trim p s).sync, some ⟨p, g, L, s, false⟩))
   else (0, T, some ⟨p, g, L, s, false⟩)) := by
 obtain ⟨hp, hg, h, hhl, hh, R, q, hl, hq0, hq⟩ := hk
 obtain ⟨s, e, he, hs, hra, hsm⟩ := hh.side
 obtain ⟨s', e', he', hs', hra', hsm'⟩ := hl.side
 have hdrop : (h :: L).drop 1 = L := rfl
 rcases hp with rfl | rfl
 ·refine ⟨s, e, he, hs, ⟨h, hhl, hra, hh.2⟩, ?_⟩
  have h0 : sideM (T.now 0) = (h :: L, (s : Int), decide (e = 1), g, true) := hsm
  have h1 : sideM (T.now 1) = (R, (s' : Int), decide (e' = 1), q, true) := hsm'
  unfold openM
  rw [if_neg (by rw [hr]; decide), h0, h1, if_neg (by simp), if_neg (by simp only; omega), if_neg (by simp only; omega)]
  have hpk : pickM (h :: L, (s : Int), decide (e = 1), g, true) (R, (s' : Int), decide (e' = 1), q, true) = (0, (h :: L, (s : Int), decide (e = 1), g, true)) := if_neg (by simp only; omega)
  rw [hpk]
  simp only [decide_eq_true_eq, hdrop]
 ·refine ⟨s, e, he, hs, ⟨h, hhl, hra, hh.2⟩, ?_⟩
  have h1 : sideM (T.now 1) = (h :: L, (s : Int), decide (e = 1), g, true) := hsm
  have h0 : sideM (T.now 0) = (R, (s' : Int), decide (e' = 1), q, true) := hsm'
  unfold openM
  rw [if_neg (by rw [hr]; decide), h0, h1, if_neg (by simp), if_neg (by simp only; omega), if_neg (by simp only; omega)]
  have hpk : pickM (R, (s' : Int), decide (e' = 1), q, true) (h :: L, (s : Int), decide (e = 1), g, true) = (1, (h :: L, (s : Int), decide (e = 1), g, true)) := if_pos (by simp only; omega)
  rw [hpk]
  simp only [decide_eq_true_eq, hdrop]
/-- A journal that is whole: its side's frames are all there, and synced. -/
structure Good (T : TM) (J : JM) : Prop where
 us : T.us = []
 br : J.broken = false
 sd : J.side = 0 ∨ J.side = 1
 gen : 1 ≤ J.g ∧ J.g ≤ 1099511627776
 head : ∃ h, h.length ≤ 18 ∧ readA (T.safe J.side) = (h :: J.L, (T.safe J.side).length, 0) ∧ countM (h :: J.L) = (true, J.g)
 size : J.size = ((T.safe J.side).length : Int)
 low : Lower (T.safe (1 - J.side)) J.g
theorem safe_now {T : TM} (h : T.us = []) (i : Int) : T.now i = T.safe i := by unfold TM.now; rw [h]; rfl
theorem Good.keep {T : TM} {J : JM} (h : Good T J) : Keep T.s0 T.s1 J.side J.g J.L := by
 obtain ⟨x, h0, h1, h2⟩ := h.head
 exact ⟨h.sd, h.gen.1, x, h0, ⟨⟨_, 0, by decide, h1⟩, h2⟩, h.low⟩
/-- Opened again it is the same. -/
theorem Good.open_ {T : TM} {J : JM} (h : Good T J) (hr : T.ready 0 = 0) : openM T = (0, T, some J) := by
 have h0 := safe_now h.us 0
 have h1 := safe_now h.us 1
 obtain ⟨s, e, he, hs, ⟨x, _, hx, _⟩, ho⟩ := open_keep (T := T) (p := J.side) (g := J.g) (L := J.L) (by rw [h0, h1]; exact h.keep) hr
 rw [safe_now h.us] at hx hs
 obtain ⟨y, _, hy, _⟩ := h.head
 rw [hy] at hx
 injection hx with e1 e2
 injection e2 with e2 e3
 rw [ho, ← e3, if_neg (by decide), ← e2, ← h.size]
 obtain ⟨sd, g, L, z, b⟩ := J
 have := h.br
 simp only at this
 rw [this]
end Go.Proofs.Ytmfmoddaejoekaa.P
end
