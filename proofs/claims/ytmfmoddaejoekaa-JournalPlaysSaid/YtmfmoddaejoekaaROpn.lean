/- Texts of this claim, laid into one. -/
import Derived.Test.YtmfmoddaejoekaaHLook
import Derived.Test.YtmfmoddaejoekaaP8
import Derived.Test.YtmfmoddaejoekaaR15
import Derived.Test.YtmfmoddaejoekaaHJourF
import Derived.Test.YtmfmoddaejoekaaP16
import Derived.Test.YtmfmoddaejoekaaP17
import Derived.Test.YtmfmoddaejoekaaP13
import Derived.Test.YtmfmoddaejoekaaHOpn
section
/- Plain facts: records that are held against each other. -/
set_option linter.unusedVariables false
set_option linter.unusedSimpArgs false
namespace Go.Proofs.Ytmfmoddaejoekaa.P
open Go.RowKit Go.Proofs.YtmfmoddaejoekaaW.PrintWords Go.Proofs.YtmfmoddaejoekaaW.PrintLast Go.Proofs.YtmfmoddaejoekaaW.PrintMore
theorem same1 (k : Nat) (a b : List Int) (hm : a.length ≤ 9223372036854775806) (hk : a.length < k) : liveryref01_Same.f k a b = some (decide (a = b)) := by
 unfold liveryref01_Same.f
 by_cases hl : a.length = b.length
 ·rw [if_pos (by omega)]
  have := same_loop a b hl hm (fun k i => liveryref01_Same.l0 k a b i) (fun k i => by simp only [liveryref01_Same.l0]) a.length k 0 (by omega) (by omega) (by omega)
  simpa using this
 ·rw [if_neg (by omega)]
  simp only [Option.some.injEq]
  exact (decide_eq_false (fun e => hl (by rw [e]))).symm
theorem rd_L2_nat (L : List (List Int)) (i : Nat) (h : i < L.length) : rd_L2 L (i : Int) = L[i] := by simp [rd_L2, h]
theorem same17_loop (L M : List (List Int)) (B : Nat) (hl : L.length = M.length) (hm : L.length ≤ 1000000) (hr : ∀ r ∈ L, r.length < B) (hB : B ≤ 1000000) :
  ∀ (d k i : Nat), L.length - i = d → i ≤ L.length → d + B < k → liveryref17_Same.l0 k L M (i : Int) = some (decide (L.drop i = M.drop i)) := by
 intro d
 induction d with
 | zero =>
  intro k i hd hi hk
  obtain ⟨k, rfl⟩ : ∃ m, k = m + 1 := ⟨k - 1, by omega⟩
  rw [liveryref17_Same.l0, if_neg (by omega), List.drop_eq_nil_of_le (by omega), List.drop_eq_nil_of_le (by omega)]
  simp
 | succ d ih =>
  intro k i hd hi hk
  obtain ⟨k, rfl⟩ : ∃ m, k = m + 1 := ⟨k - 1, by omega⟩
  have h1 : i < L.length := by omega
  have h2 : i < M.length := by omega
  have hlen := hr L[i] (List.getElem_mem h1)
  rw [liveryref17_Same.l0, if_pos (by omega), if_pos (by omega), if_pos (by omega), rd_L2_nat L i h1, rd_L2_nat M i h2, same1 k L[i] M[i] (by omega) (by omega), Option.bind_some, List.drop_eq_getElem_cons h1, List.drop_eq_getElem_cons h2, w64 (by omega) (by omega)]
  by_cases e : L[i] = M[i]
  ·rw [if_pos (decide_eq_true e)]
   have := ih k (i + 1) (by omega) (by omega) (by omega)
   rw [Int.natCast_add] at this
   rw [show ((i : Int) + 1) = (i : Int) + ((1 : Nat) : Int) by simp, this]
   have e3 : (L[i] :: L.drop (i + 1) = M[i] :: M.drop (i + 1)) ↔ (L.drop (i + 1) = M.drop (i + 1)) := by
    rw [e]; exact ⟨fun h => (List.cons.inj h).2, fun h => by rw [h]⟩
   exact congrArg some (decide_eq_decide.2 e3.symm)
  ·rw [if_neg (by simpa using e)]
   exact congrArg some (decide_eq_false (fun h => e (List.cons.inj h).1)).symm
theorem same17 (L M : List (List Int)) (hm : L.length ≤ 1000000) (hr : ∀ r ∈ L, r.length < 1000000) : ∃ k, liveryref17_Same.f k L M = some (decide (L = M)) := by
 refine ⟨3000000, ?_⟩
 unfold liveryref17_Same.f
 by_cases hl : L.length = M.length
 ·rw [if_pos (by omega)]
  have := same17_loop L M 1000000 hl hm hr (Nat.le_refl _) L.length 3000000 0 (by omega) (by omega) (by omega)
  simpa using this
 ·rw [if_neg (by omega)]
  simp only [Option.some.injEq]
  exact (decide_eq_false (fun e => hl (by rw [e]))).symm
end Go.Proofs.Ytmfmoddaejoekaa.P
end
section
/- The document's frames, heads and sides are the program's. -/
set_option linter.unusedVariables false
set_option linter.unusedSimpArgs false
namespace Go.Proofs.Ytmfmoddaejoekaa.P
open Go.RowKit Go.Proofs.YtmfmoddaejoekaaW.PrintWords Go.Proofs.YtmfmoddaejoekaaW.PrintLast Go.Proofs.YtmfmoddaejoekaaW.PrintMore
theorem put15 (s : Int) (h0 : 0 ≤ s) (h1 : s < 65536) : liveryref15_Put.f s = some (putM s) := by
 unfold liveryref15_Put.f putM
 rw [Int.tdiv_eq_ediv_of_nonneg h0, w64 (by omega) (by omega), Int.tmod_eq_emod_of_nonneg h0]
 have e : s % 256 % 256 = s % 256 := by omega
 rw [e]
theorem okB_lenB' (n : Nat) : okB (lenB n) = true := okB_of fun x hx => by
 simp [lenB] at hx
 omega
theorem frame15 (b r : List Int) (hr : okB r = true) (hb : b.length ≤ 1000000) (hl : r.length ≤ 100000) (k : Nat) (hk : 10 * (r.length + 2) < k) : liveryref17_Frame.f k b r = some (b ++ frameM r) := by
 have e1 : ([(wrap64 ((r.length : Int) / 256)) % 256, (r.length : Int) % 256] : List Int) = lenB r.length := by
  rw [w64 (by omega) (by omega)]
  rfl
 have hlen : (lenB r.length ++ r).length = r.length + 2 := by simp [lenB]
 obtain ⟨hs, h0, h1⟩ := sum15 (lenB r.length ++ r) (okB_append (okB_lenB' _) hr) (by omega) k (by omega)
 have hp := put15 _ h0 h1
 have hpl : (putM (sumM (lenB r.length ++ r))).length = 2 := rfl
 unfold liveryref17_Frame.f
 rw [e1, Option.bind_some, if_pos (by simp [lenB]; omega), Option.bind_some, hs, Option.bind_some, hp, Option.bind_some, if_pos (by rw [hlen, hpl]; omega), Option.bind_some, if_pos (by simp; omega), Option.bind_some, if_pos (by simp only [List.length_append, List.length_nil] at hlen ⊢; rw [hpl]; omega)]
 rfl
theorem head15 (g n : Int) (hg : g ≤ 9223372036854775807) (hn : n ≤ 9223372036854775807) (k : Nat) (hk : 20 < k) : liveryref17_Head.f k g n = some (headR g n) := by
 have h1 := numB_length g hg
 unfold liveryref17_Head.f
 rw [ref_Number k [] g (by simp) hg hk, Option.bind_some, ref_Number k _ n (by simp; omega) hn hk, Option.bind_some]
 rfl
end Go.Proofs.Ytmfmoddaejoekaa.P
end
section
/- The document's Read tells what readA tells (the printed definition's module does not build as it stands: not built). -/
set_option linter.unusedVariables false
set_option linter.unusedSimpArgs false
namespace Go.Proofs.Ytmfmoddaejoekaa.P
open Go.RowKit Go.Proofs.YtmfmoddaejoekaaW.PrintWords Go.Proofs.YtmfmoddaejoekaaW.PrintLast Go.Proofs.YtmfmoddaejoekaaW.PrintMore
theorem read15_loop (x : List Int) (hb : okB x = true) (hx : x.length ≤ 70000) : ∀ (d s k : Nat) (L : List (List Int)), x.length - s = d → s ≤ x.length → L.length ≤ s → 2 * (x.length - s) + 10 * x.length + 100 < k →
  liveryref17_Read.l0 k x L (s : Int) 0 = some (L ++ (readA (x.drop s)).1, ((s + (readA (x.drop s)).2.1 : Nat) : Int), ((readA (x.drop s)).2.2 : Int)) := by
 intro d
 induction d using Nat.strongRecOn with
 | ind d ih =>
  intro s k L hd hs hL hk
  obtain ⟨k, rfl⟩ : ∃ m, k = m + 1 := ⟨k - 1, by omega⟩
  rw [liveryref17_Read.l0]
  by_cases hlt : s < x.length
  ·obtain ⟨y, ey⟩ : ∃ y, x.drop s = y := ⟨_, rfl⟩
   have hyl : y.length = x.length - s := by rw [← ey, List.length_drop]
   have hyb : okB y = true := by rw [← ey]; exact okB_drop hb s
   rw [if_pos (by omega), if_pos (by omega), if_pos (by omega), Int.toNat_natCast, ey, Option.bind_some]
   have hread : ∀ e, nextJ y = e → e ≠ 3 → readA y = ([], 0, e) := by
    intro e h1 h3
    unfold readA readJ
    rw [if_neg (by omega), h1]
   by_cases h2 : y.length < 2
   ·have hn : nextJ y = 1 := by unfold nextJ; rw [if_neg (by omega), if_pos h2]
    rw [if_pos (by omega), hread 1 hn (by decide)]
    simp
   ·obtain ⟨b0, hb0, hr0, _⟩ := byte_at y hyb 0 (by omega)
    obtain ⟨b1, hb1, hr1, _⟩ := byte_at y hyb 1 (by omega)
    have hr0' : rd y 0 = (b0 : Int) := hr0
    have hr1' : rd y 1 = (b1 : Int) := hr1
    have hnJ : nJ y = 256 * b0 + b1 := by unfold nJ; rw [hr0', hr1']; omega
    have hw : wrap64 (wrap64 (256 * wrap64 (rd y 0)) + wrap64 (rd y 1)) = ((nJ y : Nat) : Int) := by
     rw [hr0', hr1', w64 (x := (b0 : Int)) (by omega) (by omega), w64 (x := (b1 : Int)) (by omega) (by omega), w64 (x := 256 * (b0 : Int)) (by omega) (by omega), w64 (by omega) (by omega), hnJ]
     omega
    rw [if_neg (by omega), if_pos (by omega), if_pos (by omega), hw]
    obtain ⟨n, en⟩ : ∃ n, nJ y = n := ⟨_, rfl⟩
    rw [en]
    obtain ⟨k, rfl⟩ : ∃ m, k = m + 1 := ⟨k - 1, by omega⟩
    by_cases h3 : n < 1 ∨ 8192 < n
    ·have hn : nextJ y = 2 := by unfold nextJ; rw [if_neg (by omega), if_neg h2, en, if_pos h3]
     rw [hread 2 hn (by decide)]
     by_cases h4 : n < 1
     ·rw [if_pos (by omega), liveryref17_Read.j1, if_pos rfl]
      simp
     ·rw [if_neg (by omega), decide_eq_true (by omega), liveryref17_Read.j1, if_pos rfl]
      simp
    ·rw [if_neg (by omega), decide_eq_false (by omega), liveryref17_Read.j1, if_neg (by decide), w64 (x := (n : Int) + 4) (by omega) (by omega), w64 (x := (n : Int) + 2) (by omega) (by omega)]
     by_cases h5 : y.length < n + 4
     ·have hn : nextJ y = 1 := by unfold nextJ; rw [if_neg (by omega), if_neg h2, en, if_neg h3, if_pos h5]
      rw [if_pos (by omega), hread 1 hn (by decide)]
      simp
     ·rw [if_neg (by omega), if_pos (by omega), if_pos (by omega), if_pos (by omega), if_pos (by omega)]
      have t2 : ((n : Int) + 2).toNat = n + 2 := by omega
      have t4 : ((n : Int) + 4).toNat = n + 4 := by omega
      rw [t2, t4]
      have hl2 : (y.take (n + 2)).length ≤ n + 2 := by rw [List.length_take]; omega
      obtain ⟨hsm, h0, h1⟩ := sum15 (y.take (n + 2)) (okB_take hyb _) (by omega) k (by omega)
      have hp := put15 _ h0 h1
      rw [hsm, Option.bind_some, hp, Option.bind_some]
      have hdl : ((y.take (n + 4)).drop (n + 2)).length = 2 := by rw [List.length_drop, List.length_take]; omega
      rw [same1 k _ _ (by rw [hdl]; decide) (by rw [hdl]; omega), Option.bind_some]
      by_cases h6 : (y.take (n + 4)).drop (n + 2) = putM (sumM (y.take (n + 2)))
      ·have hn : nextJ y = 3 := by unfold nextJ; rw [if_neg (by omega), if_neg h2, en, if_neg h3, if_neg h5, if_pos h6]
       rw [decide_eq_true h6, if_pos rfl, if_pos (by omega), if_pos (by omega), w64 (x := (s : Int) + (n : Int)) (by omega) (by omega), w64 (by omega) (by omega)]
       have := ih (x.length - (s + (n + 4))) (by omega) (s + (n + 4)) k (L ++ [(y.take (n + 2)).drop 2]) rfl (by omega) (by rw [List.length_append, List.length_singleton]; omega) (by omega)
       have e1 : ((s + (n + 4) : Nat) : Int) = (s : Int) + (n : Int) + 4 := by omega
       rw [e1] at this
       rw [this]
       have hdr : x.drop (s + (n + 4)) = y.drop (n + 4) := by rw [← ey, List.drop_drop]
       rw [hdr]
       have hstep := readA_step hn
       rw [en] at hstep
       have hrec : recJ y = (y.take (n + 2)).drop 2 := by unfold recJ; rw [en]
       rw [hrec] at hstep
       rw [hstep]
       simp only [List.append_assoc, List.singleton_append, Option.some.injEq, Prod.mk.injEq, true_and, and_true]
       omega
      ·have hn : nextJ y = 2 := by unfold nextJ; rw [if_neg (by omega), if_neg h2, en, if_neg h3, if_neg h5, if_neg h6]
       rw [decide_eq_false h6, if_neg (by decide), hread 2 hn (by decide)]
       simp
  ·rw [if_neg (by omega), List.drop_eq_nil_of_le (by omega)]
   have : readA [] = ([], 0, 0) := rfl
   rw [this]
   simp
/-- What the document's Read tells. -/
theorem read15 (x : List Int) (hb : okB x = true) (hx : x.length ≤ 70000) : ∃ k, liveryref17_Read.f k x = some ((readA x).1, ((readA x).2.1 : Int), ((readA x).2.2 : Int)) := by
 refine ⟨1000000, ?_⟩
 have := read15_loop x hb hx x.length 0 1000000 [] (by omega) (by omega) (by simp) (by omega)
 rw [List.drop_zero, Nat.zero_add, List.nil_append] at this
 exact this
end Go.Proofs.Ytmfmoddaejoekaa.P
end
section
/- The document's opening, in plain Lean: what its loop reaches, and that it is the program's. -/
set_option linter.unusedVariables false
set_option linter.unusedSimpArgs false
namespace Go.Proofs.Ytmfmoddaejoekaa.P
open Go.RowKit Go.Proofs.YtmfmoddaejoekaaW.PrintWords Go.Proofs.YtmfmoddaejoekaaW.PrintLast Go.Proofs.YtmfmoddaejoekaaW.PrintMore
/-- One side more: the side, the generation, twice?, how many frames. -/
def stepD (d : Int × Int × Bool × Int) (i : Int) (L : List (List Int)) : Int × Int × Bool × Int :=
 match L with
 | [] => d
 | r :: L' => if (headM r).2.1 ≤ (L'.length : Int) then (if d.2.1 < (headM r).1 then i else d.1, if d.2.1 < (headM r).1 then (headM r).1 else d.2.1, d.2.2.1 || ((headM r).1 == d.2.1), d.2.2.2 + ((L'.length : Int) + 1)) else (d.1, d.2.1, d.2.2.1, d.2.2.2 + ((L'.length : Int) + 1))
def sdD (T : TM) : Nat → Int × Int × Bool × Int
 | 0 => (-1, 0, false, 0)
 | i + 1 => stepD (sdD T i) (i : Int) (readA (T.now i)).1
/-- The sides so far are right. -/
def OkD (T : TM) (i : Nat) : Prop := ∀ j, j < i → (readA (T.now (j : Nat))).2.2 ≠ 2 ∧ (countM (readA (T.now (j : Nat))).1).1 = true
theorem numAtD_err {b : List Int} {p e lo hi : Int} (h : (numAt b p e lo hi).2.2 = 0) : e = 0 := by
 unfold numAt at h
 split at h
 ·assumption
 ·exact h
theorem numAtD_ok {b : List Int} {p e lo hi : Int} (h : (numAt b p e lo hi).2.2 = 0) (h1 : 1 ≤ lo) : 1 ≤ (numAt b p e lo hi).1 := by
 have he := numAtD_err h
 unfold numAt at h ⊢
 rw [if_pos he] at h ⊢
 by_cases h2 : (lookB (b.drop p.toNat)).2.2 = 0
 ·rw [if_pos h2] at h ⊢
  by_cases h3 : (lookB (b.drop p.toNat)).1 < lo
  ·rw [if_pos h3] at h
   exact absurd h (by simp)
  ·rw [if_neg h3] at h ⊢
   by_cases h4 : hi < (lookB (b.drop p.toNat)).1
   ·rw [if_pos h4] at h
    exact absurd h (by simp)
   ·rw [if_neg h4]
    show 1 ≤ (lookB (b.drop p.toNat)).1
    omega
 ·rw [if_neg h2] at h
  exact absurd h h2
theorem head_ok {r : List Int} (h : (headM r).2.2 = 0) : 1 ≤ (headM r).1 := by
 unfold headM at h ⊢
 simp only at h ⊢
 have h2 : ∀ {b : List Int} {p e : Int}, endAt b p e = 0 → e = 0 := by
  intro b p e he
  unfold endAt at he
  split at he
  ·assumption
  ·exact he
 exact numAtD_ok (numAtD_err (h2 h)) (by decide)
theorem stepD_eq (d : Int × Int × Bool × Int) (i g : Int) (L : List (List Int)) (h : countM L = (true, g)) : stepD d i L = if g = 0 then (d.1, d.2.1, d.2.2.1, d.2.2.2 + (L.length : Int)) else (if d.2.1 < g then i else d.1, if d.2.1 < g then g else d.2.1, d.2.2.1 || (g == d.2.1), d.2.2.2 + (L.length : Int)) := by
 cases L with
 | nil =>
  have e : g = 0 := (congrArg Prod.snd h).symm
  rw [if_pos e]
  show d = _
  simp
 | cons r L' =>
  simp only [countM] at h
  by_cases h1 : (headM r).2.2 ≠ 0
  ·rw [if_pos h1] at h; exact absurd h (by simp)
  ·rw [if_neg h1] at h
   have h0 : (headM r).2.2 = 0 := by omega
   have hg := head_ok h0
   simp only [stepD]
   by_cases h2 : (headM r).2.1 < ((r :: L').length : Int)
   ·rw [if_pos h2] at h
    have e : g = (headM r).1 := (congrArg Prod.snd h).symm
    rw [if_pos (show (headM r).2.1 ≤ (L'.length : Int) from by simp only [List.length_cons] at h2; omega), if_neg (show ¬ g = 0 from by omega), e]
    simp
   ·rw [if_neg h2] at h
    have e : g = 0 := (congrArg Prod.snd h).symm
    rw [if_neg (show ¬ (headM r).2.1 ≤ (L'.length : Int) from by simp only [List.length_cons] at h2; omega), if_pos e]
    simp
/-- What the document's opening comes to. -/
def open15 (T : TM) (p G : Int) (S : List (List Int) × Nat × Nat) : Int × TM × Option JM :=
 if S.2.2 = 1 then
  (if T.trimE p S.2.1 ≠ 0 then (T.trimE p S.2.1, T.trim p S.2.1, none) else
  if (T.trim p S.2.1).ready 0 ≠ 0 then ((T.trim p S.2.1).ready 0, (T.trim p S.2.1).sync, none) else
  (0, (T.trim p S.2.1).sync, some ⟨p, G, S.1.drop 1, S.2.1, false⟩))
 else (0, T, some ⟨p, G, S.1.drop 1, S.2.1, false⟩)
theorem sideM_ok {b : List Int} (h : (readA b).2.2 ≠ 2) : sideM b = ((readA b).1, ((readA b).2.1 : Int), decide ((readA b).2.2 = 1), (countM (readA b).1).2, (countM (readA b).1).1) := by
 unfold sideM
 rw [if_neg h]
theorem open_bad {T : TM} (hr : T.ready 0 = 0) {i : Nat} (hi : i < 2) (h : (readA (T.now (i : Nat))).2.2 = 2 ∨ (countM (readA (T.now (i : Nat))).1).1 = false) : openM T = (41, T, none) := by
 have hs : (sideM (T.now (i : Nat))).2.2.2.2 = false := by
  unfold sideM
  split
  ·rfl
  ·rename_i h2
   exact h.resolve_left h2
 unfold openM
 rw [if_neg (by rw [hr]; decide), if_pos]
 match i, hi with
 | 0, _ => exact .inl hs
 | 1, _ => exact .inr hs
theorem open_ok {T : TM} (hr : T.ready 0 = 0) (h : OkD T 2) :
  openM T = (if (sdD T 2).2.2.1 = true ∨ ((sdD T 2).1 < 0 ∧ 0 < (sdD T 2).2.2.2) then (41, T, none) else if (sdD T 2).1 < 0 then madeM T else open15 T (sdD T 2).1 (sdD T 2).2.1 (readA (T.now (sdD T 2).1))) ∧
  ((sdD T 2).1 = -1 ∨ ((sdD T 2).1 = 0 ∨ (sdD T 2).1 = 1) ∧ 1 ≤ (readA (T.now (sdD T 2).1)).1.length) := by
 have h0 := h 0 (by decide)
 have h1 := h 1 (by decide)
 have e0 := sideM_ok h0.1
 have e1 := sideM_ok h1.1
 have l0 := countM_low (readA (T.now (0 : Nat))).1
 have l1 := countM_low (readA (T.now (1 : Nat))).1
 have hd : sdD T 2 = stepD (stepD (-1, 0, false, 0) 0 (readA (T.now (0 : Nat))).1) 1 (readA (T.now (1 : Nat))).1 := rfl
 have c0 : ((0 : Nat) : Int) = 0 := rfl
 have c1 : ((1 : Nat) : Int) = 1 := rfl
 rw [c0] at h0 e0 l0 hd
 rw [c1] at h1 e1 l1 hd
 unfold openM
 rw [if_neg (by rw [hr]; decide), e0, e1]
 obtain ⟨S0, eS0⟩ : ∃ S, readA (T.now 0) = S := ⟨_, rfl⟩
 obtain ⟨S1, eS1⟩ : ∃ S, readA (T.now 1) = S := ⟨_, rfl⟩
 rw [eS0] at h0 l0 hd ⊢
 rw [eS1] at h1 l1 hd ⊢
 obtain ⟨g0, eg0⟩ : ∃ g, (countM S0.1).2 = g := ⟨_, rfl⟩
 obtain ⟨g1, eg1⟩ : ∃ g, (countM S1.1).2 = g := ⟨_, rfl⟩
 rw [eg0] at l0 ⊢
 rw [eg1] at l1 ⊢
 rw [stepD_eq _ _ g0 _ (Prod.ext h0.2 eg0), stepD_eq _ _ g1 _ (Prod.ext h1.2 eg1)] at hd
 rw [h0.2, h1.2]
 simp only at hd ⊢
 rw [if_neg (by simp)]
 have fin : ∀ (p G : Int) (S : List (List Int) × Nat × Nat) (tw : Bool) (fr : Int) (x : Int × TM × Option JM), (p = 0 ∨ p = 1) → readA (T.now p) = S → tw = false → 1 ≤ S.1.length → x = open15 T p G S → sdD T 2 = (p, G, tw, fr) →
   x = (if (sdD T 2).2.2.1 = true ∨ ((sdD T 2).1 < 0 ∧ 0 < (sdD T 2).2.2.2) then (41, T, none) else if (sdD T 2).1 < 0 then madeM T else open15 T (sdD T 2).1 (sdD T 2).2.1 (readA (T.now (sdD T 2).1))) ∧
   ((sdD T 2).1 = -1 ∨ ((sdD T 2).1 = 0 ∨ (sdD T 2).1 = 1) ∧ 1 ≤ (readA (T.now (sdD T 2).1)).1.length) := by
  intro p G S tw fr x hp hS htw hL hx hs
  rw [hs]
  simp only
  subst htw
  rw [if_neg (show ¬ (false = true ∨ p < 0 ∧ 0 < fr) from by simp; omega), if_neg (show ¬ p < 0 from by omega), hS]
  exact ⟨hx, .inr ⟨hp, hL⟩⟩
 by_cases a0 : g0 = 0
 ·rw [if_pos a0] at hd
  simp only at hd
  by_cases a1 : g1 = 0
  ·rw [if_pos a1] at hd
   rw [hd]
   refine ⟨?_, .inl rfl⟩
   subst a0 a1
   simp only [Bool.false_eq_true, false_or, true_and]
   by_cases hf : S0.1.length + S1.1.length = 0
   ·rw [if_pos hf, if_neg (show ¬ ((-1 : Int) < 0 ∧ 0 < 0 + (S0.1.length : Int) + (S1.1.length : Int)) from by omega), if_pos (show (-1 : Int) < 0 from by decide)]
   ·rw [if_neg hf, if_pos trivial, if_pos (show ((-1 : Int) < 0 ∧ 0 < 0 + (S0.1.length : Int) + (S1.1.length : Int)) from by omega)]
  ·rw [if_neg a1] at hd
   have p1 : (0 : Int) < g1 := by omega
   rw [if_pos p1, if_pos p1] at hd
   refine fin 1 g1 S1 _ _ _ (.inr rfl) eS1 ?_ (l1.2 p1) ?_ hd
   ·simp [a1]
   ·rw [if_neg (show ¬ (g0 = 0 ∧ g1 = 0 ∧ S0.1.length + S1.1.length = 0) from by omega), if_neg (show ¬ g0 = g1 from by omega), pickM, if_pos (show g0 < g1 from by omega)]
    simp only [open15, decide_eq_true_eq]
 ·rw [if_neg a0] at hd
  have p0 : (0 : Int) < g0 := by omega
  rw [if_pos p0, if_pos p0] at hd
  have b0 : (g0 == 0) = false := by simpa using a0
  simp only [Bool.false_or] at hd
  rw [b0] at hd
  by_cases a1 : g1 = 0
  ·rw [if_pos a1] at hd
   refine fin 0 g0 S0 _ _ _ (.inl rfl) eS0 rfl (l0.2 p0) ?_ hd
   rw [if_neg (show ¬ (g0 = 0 ∧ g1 = 0 ∧ S0.1.length + S1.1.length = 0) from by omega), if_neg (show ¬ g0 = g1 from by omega), pickM, if_neg (show ¬ g0 < g1 from by omega)]
   simp only [open15, decide_eq_true_eq]
  ·rw [if_neg a1] at hd
   have p1 : (0 : Int) < g1 := by omega
   by_cases lt : g0 < g1
   ·rw [if_pos lt, if_pos lt] at hd
    refine fin 1 g1 S1 _ _ _ (.inr rfl) eS1 ?_ (l1.2 p1) ?_ hd
    ·simp; omega
    ·rw [if_neg (show ¬ (g0 = 0 ∧ g1 = 0 ∧ S0.1.length + S1.1.length = 0) from by omega), if_neg (show ¬ g0 = g1 from by omega), pickM, if_pos lt]
     simp only [open15, decide_eq_true_eq]
   ·rw [if_neg lt, if_neg lt] at hd
    by_cases eq : g0 = g1
    ·rw [hd]
     simp only
     refine ⟨?_, .inr ⟨by simp, by rw [eS0]; exact l0.2 p0⟩⟩
     rw [if_neg (show ¬ (g0 = 0 ∧ g1 = 0 ∧ S0.1.length + S1.1.length = 0) from by omega), if_pos eq, if_pos (by simp [eq])]
    ·refine fin 0 g0 S0 _ _ _ (.inl rfl) eS0 ?_ (l0.2 p0) ?_ hd
     ·simp; omega
     ·rw [if_neg (show ¬ (g0 = 0 ∧ g1 = 0 ∧ S0.1.length + S1.1.length = 0) from by omega), if_neg eq, pickM, if_neg lt]
      simp only [open15, decide_eq_true_eq]
/-- Frames and sides stay small. -/
theorem sdD_small (T : TM) (N : Nat) (hT : T.Ok N) : ∀ i, i ≤ 2 → -1 ≤ (sdD T i).1 ∧ (sdD T i).1 ≤ 1 ∧ 0 ≤ (sdD T i).2.2.2 ∧ (sdD T i).2.2.2 ≤ 65536 * (i : Int)
 | 0, _ => by simp [sdD]
 | i + 1, hi => by
  have ih := sdD_small T N hT i (by omega)
  have hl : (readA (T.now (i : Nat))).1.length ≤ 65536 := Nat.le_trans (readJ_len _ _) (hT.now_len _ (by omega))
  simp only [sdD]
  cases hL : (readA (T.now (i : Nat))).1 with
  | nil =>
   simp only [stepD]
   omega
  | cons r L' =>
   rw [hL] at hl
   simp only [List.length_cons] at hl
   simp only [stepD]
   split
   ·simp only
    split <;> omega
   ·simp only
    omega
theorem readJ_recs : ∀ (k : Nat) (b : List Int), okB b = true → ∀ r ∈ (readJ k b).1, okB r = true ∧ r.length ≤ 8192
 | 0, b, _ => fun r hr => by simp [readJ] at hr
 | k + 1, b, h => fun r hr => by
  simp only [readJ] at hr
  by_cases h3 : nextJ b = 3
  ·rw [if_pos h3] at hr
   rcases List.mem_cons.1 hr with hr | hr
   ·rw [hr]
    exact ⟨okB_recJ h, by rw [recJ_len h3]; exact (next3 h3).2.1⟩
   ·exact readJ_recs k _ (okB_drop h _) r hr
  ·rw [if_neg h3] at hr
   simp at hr
theorem readA_recs (b : List Int) (h : okB b = true) : ∀ r ∈ (readA b).1, okB r = true ∧ r.length ≤ 8192 := readJ_recs _ b h
end Go.Proofs.Ytmfmoddaejoekaa.P
end
