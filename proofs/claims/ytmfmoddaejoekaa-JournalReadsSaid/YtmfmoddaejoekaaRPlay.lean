/- Texts of this claim, laid into one. -/
import Derived.Test.YtmfmoddaejoekaaR15c
import Derived.Test.YtmfmoddaejoekaaHOpn
import Derived.Test.YtmfmoddaejoekaaHLaw17
section
/- The document's opening, in plain Lean: what its loop reaches, and that it is the program's. -/
set_option linter.unusedVariables false
set_option linter.unusedSimpArgs false
namespace Go.Proofs.Ytmfmoddaejoekaa.P
open Go.RowKit Go.Proofs.YtmfmoddaejoekaaW.PrintWords Go.Proofs.YtmfmoddaejoekaaW.PrintLast Go.Proofs.YtmfmoddaejoekaaW.PrintMore
/-- One side more: the side, the generation, twice?, how many frames. -/
def stepD (d : Int × Int × Bool × Int) (i : Int) (L : List (List Int)) : Int × Int × Bool × Int :=
  match L with
  | [] => d
  | r :: L' => if (headM r).2.1 ≤ (L'.length : Int) then (if d.2.1 < (headM r).1 then i else d.1, if d.2.1 < (headM r).1 then (headM r).1 else d.2.1, d.2.2.1 || ((headM r).1 == d.2.1), d.2.2.2 + ((L'.length : Int) + 1)) else (d.1, d.2.1, d.2.2.1, d.2.2.2 + ((L'.length : Int) + 1))
def sdD (T : TM) : Nat → Int × Int × Bool × Int
  | 0 => (-1, 0, false, 0)
  | i + 1 => stepD (sdD T i) (i : Int) (readA (T.now i)).1
/-- The sides so far are right. -/
def OkD (T : TM) (i : Nat) : Prop := ∀ j, j < i → (readA (T.now (j : Nat))).2.2 ≠ 2 ∧ (countM (readA (T.now (j : Nat))).1).1 = true
theorem numAtD_err {b : List Int} {p e lo hi : Int} (h : (numAt b p e lo hi).2.2 = 0) : e = 0 := by
  unfold numAt at h
  split at h
  · assumption
  · exact h
theorem numAtD_ok {b : List Int} {p e lo hi : Int} (h : (numAt b p e lo hi).2.2 = 0) (h1 : 1 ≤ lo) : 1 ≤ (numAt b p e lo hi).1 := by
  have he := numAtD_err h
  unfold numAt at h ⊢
  rw [if_pos he] at h ⊢
  by_cases h2 : (lookB (b.drop p.toNat)).2.2 = 0
  · rw [if_pos h2] at h ⊢
    by_cases h3 : (lookB (b.drop p.toNat)).1 < lo
    · rw [if_pos h3] at h
      exact absurd h (by simp)
    · rw [if_neg h3] at h ⊢
      by_cases h4 : hi < (lookB (b.drop p.toNat)).1
      · rw [if_pos h4] at h
        exact absurd h (by simp)
      · rw [if_neg h4]
        show 1 ≤ (lookB (b.drop p.toNat)).1
        omega
  · rw [if_neg h2] at h
    exact absurd h h2
theorem head_ok {r : List Int} (h : (headM r).2.2 = 0) : 1 ≤ (headM r).1 := by
  unfold headM at h ⊢
  simp only at h ⊢
  have h2 : ∀ {b : List Int} {p e : Int}, endAt b p e = 0 → e = 0 := by
    intro b p e he
    unfold endAt at he
    split at he
    · assumption
    · exact he
  exact numAtD_ok (numAtD_err (h2 h)) (by decide)
theorem stepD_eq (d : Int × Int × Bool × Int) (i g : Int) (L : List (List Int)) (h : countM L = (true, g)) : stepD d i L = if g = 0 then (d.1, d.2.1, d.2.2.1, d.2.2.2 + (L.length : Int)) else (if d.2.1 < g then i else d.1, if d.2.1 < g then g else d.2.1, d.2.2.1 || (g == d.2.1), d.2.2.2 + (L.length : Int)) := by
  cases L with
  | nil =>
    have e : g = 0 := (congrArg Prod.snd h).symm
    rw [if_pos e]
    show d = _
    simp
  | cons r L' =>
    simp only [countM] at h
    by_cases h1 : (headM r).2.2 ≠ 0
    · rw [if_pos h1] at h; exact absurd h (by simp)
    · rw [if_neg h1] at h
      have h0 : (headM r).2.2 = 0 := by omega
      have hg := head_ok h0
      simp only [stepD]
      by_cases h2 : (headM r).2.1 < ((r :: L').length : Int)
      · rw [if_pos h2] at h
        have e : g = (headM r).1 := (congrArg Prod.snd h).symm
        rw [if_pos (show (headM r).2.1 ≤ (L'.length : Int) from by simp only [List.length_cons] at h2; omega), if_neg (show ¬ g = 0 from by omega), e]
        simp
      · rw [if_neg h2] at h
        have e : g = 0 := (congrArg Prod.snd h).symm
        rw [if_neg (show ¬ (headM r).2.1 ≤ (L'.length : Int) from by simp only [List.length_cons] at h2; omega), if_pos e]
        simp
/-- What the document's opening comes to. -/
def open15 (T : TM) (p G : Int) (S : List (List Int) × Nat × Nat) : Int × TM × Option JM :=
  if S.2.2 = 1 then
    (if T.trimE p S.2.1 ≠ 0 then (T.trimE p S.2.1, T.trim p S.2.1, none) else
     if (T.trim p S.2.1).ready 0 ≠ 0 then ((T.trim p S.2.1).ready 0, (T.trim p S.2.1).sync, none) else
     (0, (T.trim p S.2.1).sync, some ⟨p, G, S.1.drop 1, S.2.1, false⟩))
  else (0, T, some ⟨p, G, S.1.drop 1, S.2.1, false⟩)
theorem sideM_ok {b : List Int} (h : (readA b).2.2 ≠ 2) : sideM b = ((readA b).1, ((readA b).2.1 : Int), decide ((readA b).2.2 = 1), (countM (readA b).1).2, (countM (readA b).1).1) := by
  unfold sideM
  rw [if_neg h]
theorem open_bad {T : TM} (hr : T.ready 0 = 0) {i : Nat} (hi : i < 2) (h : (readA (T.now (i : Nat))).2.2 = 2 ∨ (countM (readA (T.now (i : Nat))).1).1 = false) : openM T = (41, T, none) := by
  have hs : (sideM (T.now (i : Nat))).2.2.2.2 = false := by
    unfold sideM
    split
    · rfl
    · rename_i h2
      exact h.resolve_left h2
  unfold openM
  rw [if_neg (by rw [hr]; decide), if_pos]
  match i, hi with
  | 0, _ => exact .inl hs
  | 1, _ => exact .inr hs
theorem open_ok {T : TM} (hr : T.ready 0 = 0) (h : OkD T 2) :
    openM T = (if (sdD T 2).2.2.1 = true ∨ ((sdD T 2).1 < 0 ∧ 0 < (sdD T 2).2.2.2) then (41, T, none) else if (sdD T 2).1 < 0 then madeM T else open15 T (sdD T 2).1 (sdD T 2).2.1 (readA (T.now (sdD T 2).1))) ∧
    ((sdD T 2).1 = -1 ∨ ((sdD T 2).1 = 0 ∨ (sdD T 2).1 = 1) ∧ 1 ≤ (readA (T.now (sdD T 2).1)).1.length) := by
  have h0 := h 0 (by decide)
  have h1 := h 1 (by decide)
  have e0 := sideM_ok h0.1
  have e1 := sideM_ok h1.1
  have l0 := countM_low (readA (T.now (0 : Nat))).1
  have l1 := countM_low (readA (T.now (1 : Nat))).1
  have hd : sdD T 2 = stepD (stepD (-1, 0, false, 0) 0 (readA (T.now (0 : Nat))).1) 1 (readA (T.now (1 : Nat))).1 := rfl
  have c0 : ((0 : Nat) : Int) = 0 := rfl
  have c1 : ((1 : Nat) : Int) = 1 := rfl
  rw [c0] at h0 e0 l0 hd
  rw [c1] at h1 e1 l1 hd
  unfold openM
  rw [if_neg (by rw [hr]; decide), e0, e1]
  obtain ⟨S0, eS0⟩ : ∃ S, readA (T.now 0) = S := ⟨_, rfl⟩
  obtain ⟨S1, eS1⟩ : ∃ S, readA (T.now 1) = S := ⟨_, rfl⟩
  rw [eS0] at h0 l0 hd ⊢
  rw [eS1] at h1 l1 hd ⊢
  obtain ⟨g0, eg0⟩ : ∃ g, (countM S0.1).2 = g := ⟨_, rfl⟩
  obtain ⟨g1, eg1⟩ : ∃ g, (countM S1.1).2 = g := ⟨_, rfl⟩
  rw [eg0] at l0 ⊢
  rw [eg1] at l1 ⊢
  rw [stepD_eq _ _ g0 _ (Prod.ext h0.2 eg0), stepD_eq _ _ g1 _ (Prod.ext h1.2 eg1)] at hd
  rw [h0.2, h1.2]
  simp only at hd ⊢
  rw [if_neg (by simp)]
  have fin : ∀ (p G : Int) (S : List (List Int) × Nat × Nat) (tw : Bool) (fr : Int) (x : Int × TM × Option JM), (p = 0 ∨ p = 1) → readA (T.now p) = S → tw = false → 1 ≤ S.1.length → x = open15 T p G S → sdD T 2 = (p, G, tw, fr) →
      x = (if (sdD T 2).2.2.1 = true ∨ ((sdD T 2).1 < 0 ∧ 0 < (sdD T 2).2.2.2) then (41, T, none) else if (sdD T 2).1 < 0 then madeM T else open15 T (sdD T 2).1 (sdD T 2).2.1 (readA (T.now (sdD T 2).1))) ∧
      ((sdD T 2).1 = -1 ∨ ((sdD T 2).1 = 0 ∨ (sdD T 2).1 = 1) ∧ 1 ≤ (readA (T.now (sdD T 2).1)).1.length) := by
    intro p G S tw fr x hp hS htw hL hx hs
    rw [hs]
    simp only
    subst htw
    rw [if_neg (show ¬ (false = true ∨ p < 0 ∧ 0 < fr) from by simp; omega), if_neg (show ¬ p < 0 from by omega), hS]
    exact ⟨hx, .inr ⟨hp, hL⟩⟩
  by_cases a0 : g0 = 0
  · rw [if_pos a0] at hd
    simp only at hd
    by_cases a1 : g1 = 0
    · rw [if_pos a1] at hd
      rw [hd]
      refine ⟨?_, .inl rfl⟩
      subst a0 a1
      simp only [Bool.false_eq_true, false_or, true_and]
      by_cases hf : S0.1.length + S1.1.length = 0
      · rw [if_pos hf, if_neg (show ¬ ((-1 : Int) < 0 ∧ 0 < 0 + (S0.1.length : Int) + (S1.1.length : Int)) from by omega), if_pos (show (-1 : Int) < 0 from by decide)]
      · rw [if_neg hf, if_pos trivial, if_pos (show ((-1 : Int) < 0 ∧ 0 < 0 + (S0.1.length : Int) + (S1.1.length : Int)) from by omega)]
    · rw [if_neg a1] at hd
      have p1 : (0 : Int) < g1 := by omega
      rw [if_pos p1, if_pos p1] at hd
      refine fin 1 g1 S1 _ _ _ (.inr rfl) eS1 ?_ (l1.2 p1) ?_ hd
      · simp [a1]
      · rw [if_neg (show ¬ (g0 = 0 ∧ g1 = 0 ∧ S0.1.length + S1.1.length = 0) from by omega), if_neg (show ¬ g0 = g1 from by omega), pickM, if_pos (show g0 < g1 from by omega)]
        simp only [open15, decide_eq_true_eq]
  · rw [if_neg a0] at hd
    have p0 : (0 : Int) < g0 := by omega
    rw [if_pos p0, if_pos p0] at hd
    have b0 : (g0 == 0) = false := by simpa using a0
    simp only [Bool.false_or] at hd
    rw [b0] at hd
    by_cases a1 : g1 = 0
    · rw [if_pos a1] at hd
      refine fin 0 g0 S0 _ _ _ (.inl rfl) eS0 rfl (l0.2 p0) ?_ hd
      rw [if_neg (show ¬ (g0 = 0 ∧ g1 = 0 ∧ S0.1.length + S1.1.length = 0) from by omega), if_neg (show ¬ g0 = g1 from by omega), pickM, if_neg (show ¬ g0 < g1 from by omega)]
      simp only [open15, decide_eq_true_eq]
    · rw [if_neg a1] at hd
      have p1 : (0 : Int) < g1 := by omega
      by_cases lt : g0 < g1
      · rw [if_pos lt, if_pos lt] at hd
        refine fin 1 g1 S1 _ _ _ (.inr rfl) eS1 ?_ (l1.2 p1) ?_ hd
        · simp; omega
        · rw [if_neg (show ¬ (g0 = 0 ∧ g1 = 0 ∧ S0.1.length + S1.1.length = 0) from by omega), if_neg (show ¬ g0 = g1 from by omega), pickM, if_pos lt]
          simp only [open15, decide_eq_true_eq]
      · rw [if_neg lt, if_neg lt] at hd
        by_cases eq : g0 = g1
        · rw [hd]
          simp only
          refine ⟨?_, .inr ⟨by simp, by rw [eS0]; exact l0.2 p0⟩⟩
          rw [if_neg (show ¬ (g0 = 0 ∧ g1 = 0 ∧ S0.1.length + S1.1.length = 0) from by omega), if_pos eq, if_pos (by simp [eq])]
        · refine fin 0 g0 S0 _ _ _ (.inl rfl) eS0 ?_ (l0.2 p0) ?_ hd
          · simp; omega
          · rw [if_neg (show ¬ (g0 = 0 ∧ g1 = 0 ∧ S0.1.length + S1.1.length = 0) from by omega), if_neg eq, pickM, if_neg lt]
            simp only [open15, decide_eq_true_eq]
/-- Frames and sides stay small. -/
theorem sdD_small (T : TM) (N : Nat) (hT : T.Ok N) : ∀ i, i ≤ 2 → -1 ≤ (sdD T i).1 ∧ (sdD T i).1 ≤ 1 ∧ 0 ≤ (sdD T i).2.2.2 ∧ (sdD T i).2.2.2 ≤ 65536 * (i : Int)
  | 0, _ => by simp [sdD]
  | i + 1, hi => by
    have ih := sdD_small T N hT i (by omega)
    have hl : (readA (T.now (i : Nat))).1.length ≤ 65536 := Nat.le_trans (readJ_len _ _) (hT.now_len _ (by omega))
    simp only [sdD]
    cases hL : (readA (T.now (i : Nat))).1 with
    | nil =>
      simp only [stepD]
      omega
    | cons r L' =>
      rw [hL] at hl
      simp only [List.length_cons] at hl
      simp only [stepD]
      split
      · simp only
        split <;> omega
      · simp only
        omega
theorem readJ_recs : ∀ (k : Nat) (b : List Int), okB b = true → ∀ r ∈ (readJ k b).1, okB r = true ∧ r.length ≤ 8192
  | 0, b, _ => fun r hr => by simp [readJ] at hr
  | k + 1, b, h => fun r hr => by
    simp only [readJ] at hr
    by_cases h3 : nextJ b = 3
    · rw [if_pos h3] at hr
      rcases List.mem_cons.1 hr with hr | hr
      · rw [hr]
        exact ⟨okB_recJ h, by rw [recJ_len h3]; exact (next3 h3).2.1⟩
      · exact readJ_recs k _ (okB_drop h _) r hr
    · rw [if_neg h3] at hr
      simp at hr
theorem readA_recs (b : List Int) (h : okB b = true) : ∀ r ∈ (readA b).1, okB r = true ∧ r.length ≤ 8192 := readJ_recs _ b h
end Go.Proofs.Ytmfmoddaejoekaa.P
end
section
/- What a journal may be, in plain Lean: small enough for its calls. -/
set_option linter.unusedVariables false
set_option linter.unusedSimpArgs false
namespace Go.Proofs.Ytmfmoddaejoekaa.P
open Go.RowKit Go.Proofs.YtmfmoddaejoekaaW.PrintWords Go.Proofs.YtmfmoddaejoekaaW.PrintLast Go.Proofs.YtmfmoddaejoekaaW.PrintMore
/-- Behind i calls. -/
structure JOk (i : Nat) (J : JM) : Prop where
  sd : J.side = 0 ∨ J.side = 1
  g : 0 ≤ J.g ∧ J.g ≤ 1099511627776
  L : J.L.length ≤ 65536 + i
  rcs : ∀ r ∈ J.L, r.length ≤ 8192
  size : 0 ≤ J.size ∧ J.size ≤ 65536 + 8200 * (i : Int)
theorem JOk.broken {i : Nat} {J : JM} (h : JOk i J) (b : Bool) : JOk i { J with broken := b } := ⟨h.sd, h.g, h.L, h.rcs, h.size⟩
theorem head_most (r : List Int) : (headM r).1 ≤ 1099511627776 := by
  unfold headM numAt
  simp only
  split
  · split
    · split
      · exact (show (0 : Int) ≤ 1099511627776 by decide)
      · split
        · exact (show (0 : Int) ≤ 1099511627776 by decide)
        · simp only
          omega
    · exact (show (0 : Int) ≤ 1099511627776 by decide)
  · exact (show (0 : Int) ≤ 1099511627776 by decide)
theorem countM_most (L : List (List Int)) : (countM L).2 ≤ 1099511627776 := by
  cases L with
  | nil => exact (show (0 : Int) ≤ 1099511627776 by decide)
  | cons r L' =>
    simp only [countM]
    split
    · exact (show (0 : Int) ≤ 1099511627776 by decide)
    · split
      · exact head_most r
      · exact (show (0 : Int) ≤ 1099511627776 by decide)
theorem readJ_size : ∀ (k : Nat) (b : List Int), (readJ k b).2.1 ≤ b.length
  | 0, b => Nat.zero_le _
  | k + 1, b => by
    simp only [readJ]
    split
    · rename_i h
      have h3 := next3 h
      have := readJ_size k (b.drop (nJ b + 4))
      rw [List.length_drop] at this
      simp only
      omega
    · exact Nat.zero_le _
/-- A side that was read. -/
theorem side_fine {b : List Int} (hb : okB b = true) (hl : b.length ≤ 65536) : (sideM b).1.length ≤ 65536 ∧ (∀ r ∈ (sideM b).1, r.length ≤ 8192) ∧ (0 ≤ (sideM b).2.1 ∧ (sideM b).2.1 ≤ 65536) ∧ (0 ≤ (sideM b).2.2.2.1 ∧ (sideM b).2.2.2.1 ≤ 1099511627776) := by
  refine ⟨Nat.le_trans (sideM_len b) hl, ?_, ?_, (sideM_low b).1, ?_⟩
  · unfold sideM
    split
    · exact fun r hr => by simp at hr
    · exact fun r hr => (readA_recs b hb r hr).2
  · unfold sideM
    split
    · exact (show (0 : Int) ≤ 0 ∧ (0 : Int) ≤ 65536 by decide)
    · have : (readA b).2.1 ≤ b.length := readJ_size _ _
      simp only
      omega
  · unfold sideM
    split
    · exact (show (0 : Int) ≤ 1099511627776 by decide)
    · exact countM_most _
theorem open_jok {T : TM} {N : Nat} (hb : T.By) (hT : T.Ok N) {J : JM} (ho : (openM T).2.2 = some J) : JOk 0 J := by
  have f0 := side_fine (hb.now (.inl rfl)) (hT.now_len 0 (.inl rfl))
  have f1 := side_fine (hb.now (.inr rfl)) (hT.now_len 1 (.inr rfl))
  have hp : ∀ a : List (List Int) × Int × Bool × Int × Bool, ∀ b : List (List Int) × Int × Bool × Int × Bool,
      (a.1.length ≤ 65536 ∧ (∀ r ∈ a.1, r.length ≤ 8192) ∧ (0 ≤ a.2.1 ∧ a.2.1 ≤ 65536) ∧ (0 ≤ a.2.2.2.1 ∧ a.2.2.2.1 ≤ 1099511627776)) →
      (b.1.length ≤ 65536 ∧ (∀ r ∈ b.1, r.length ≤ 8192) ∧ (0 ≤ b.2.1 ∧ b.2.1 ≤ 65536) ∧ (0 ≤ b.2.2.2.1 ∧ b.2.2.2.1 ≤ 1099511627776)) →
      JOk 0 ⟨(pickM a b).1, (pickM a b).2.2.2.2.1, (pickM a b).2.1.drop 1, (pickM a b).2.2.1, false⟩ := by
    intro a b ha hb'
    have key : ∀ (sd : Int) (c : List (List Int) × Int × Bool × Int × Bool), (sd = 0 ∨ sd = 1) → (c.1.length ≤ 65536 ∧ (∀ r ∈ c.1, r.length ≤ 8192) ∧ (0 ≤ c.2.1 ∧ c.2.1 ≤ 65536) ∧ (0 ≤ c.2.2.2.1 ∧ c.2.2.2.1 ≤ 1099511627776)) → JOk 0 ⟨sd, c.2.2.2.1, c.1.drop 1, c.2.1, false⟩ :=
      fun sd c h1 h2 => ⟨h1, h2.2.2.2, by have := h2.1; simp only [List.length_drop]; omega, fun r hr => h2.2.1 r (List.mem_of_mem_drop hr), by have := h2.2.2.1; simp only; omega⟩
    unfold pickM
    split
    · exact key 1 b (.inr rfl) hb'
    · exact key 0 a (.inl rfl) ha
  have hpk := hp _ _ f0 f1
  unfold openM at ho
  split at ho
  · cases ho
  · split at ho
    · cases ho
    · split at ho
      · unfold madeM at ho
        split at ho
        · cases ho
        · split at ho
          · cases ho
          · split at ho
            · cases ho
            · split at ho
              · cases ho
              · cases ho
                exact ⟨.inl rfl, by decide, Nat.zero_le _, fun r hr => by simp at hr, by decide +kernel⟩
      · split at ho
        · cases ho
        · split at ho
          · split at ho
            · cases ho
            · split at ho
              · cases ho
              · cases ho
                exact hpk
          · cases ho
            exact hpk
/-- An opening tells OK just where there is a journal. -/
theorem open_err (T : TM) : ((openM T).2.2 = none → (openM T).1 ≠ 0) ∧ (∀ J, (openM T).2.2 = some J → (openM T).1 = 0) := by
  unfold openM
  split
  · exact ⟨fun _ => by assumption, fun J h => by cases h⟩
  · split
    · exact ⟨fun _ => (show (41 : Int) ≠ 0 by decide), fun J h => by cases h⟩
    · split
      · unfold madeM
        split
        · exact ⟨fun _ => by assumption, fun J h => by cases h⟩
        · split
          · exact ⟨fun _ => by assumption, fun J h => by cases h⟩
          · split
            · exact ⟨fun _ => by assumption, fun J h => by cases h⟩
            · split
              · exact ⟨fun _ => by assumption, fun J h => by cases h⟩
              · exact ⟨fun h => (by cases h), fun _ _ => rfl⟩
      · split
        · exact ⟨fun _ => (show (41 : Int) ≠ 0 by decide), fun J h => by cases h⟩
        · split
          · split
            · exact ⟨fun _ => by assumption, fun J h => by cases h⟩
            · split
              · exact ⟨fun _ => by assumption, fun J h => by cases h⟩
              · exact ⟨fun h => (by cases h), fun _ _ => rfl⟩
          · exact ⟨fun h => (by cases h), fun _ _ => rfl⟩
end Go.Proofs.Ytmfmoddaejoekaa.P
end
