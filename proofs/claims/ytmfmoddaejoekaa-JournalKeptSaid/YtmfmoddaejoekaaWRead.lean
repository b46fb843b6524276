/- Texts of this claim, laid into one. -/
import Derived.Test.YtmfmoddaejoekaaHLook
import Derived.Test.YtmfmoddaejoekaaHWire
import Derived.Test.YtmfmoddaejoekaaP0
import Derived.Test.YtmfmoddaejoekaaP7
import Derived.Test.YtmfmoddaejoekaaP8
import Derived.Test.YtmfmoddaejoekaaHCursorR
section
/- Plain facts on lists that are held against each other. -/
namespace Go.Proofs.Ytmfmoddaejoekaa.P
open Go.RowKit Go.Proofs.YtmfmoddaejoekaaW.PrintWords Go.Proofs.YtmfmoddaejoekaaW.PrintLast Go.Proofs.YtmfmoddaejoekaaW.PrintMore
set_option linter.unusedVariables false
set_option linter.unusedSimpArgs false
theorem rd_nat (l : List Int) (i : Nat) (h : i < l.length) : rd l (i : Int) = l[i] := by
  simp [rd, List.getD_eq_getElem?_getD, List.getElem?_eq_getElem h]
theorem w64 {x : Int} (h0 : -9223372036854775808 ≤ x) (h1 : x ≤ 9223372036854775807) : wrap64 x = x := by unfold wrap64; omega
/-- A loop that holds two lists of one length against each other. -/
theorem same_loop (a b : List Int) (hl : a.length = b.length) (hm : a.length ≤ 9223372036854775806) (F : Nat → Int → Option Bool)
    (hF : ∀ k i, F (k + 1) i = if i < (a.length : Int) then (if 0 ≤ i then (if i < (b.length : Int) then (if rd a i = rd b i then F k (wrap64 (i + 1)) else some false) else none) else none) else some true) :
    ∀ (d k i : Nat), a.length - i = d → i ≤ a.length → d < k → F k (i : Int) = some (decide (a.drop i = b.drop i)) := by
  intro d
  induction d with
  | zero =>
    intro k i hd hi hk
    obtain ⟨k, rfl⟩ : ∃ m, k = m + 1 := ⟨k - 1, by omega⟩
    rw [hF, if_neg (by omega), List.drop_eq_nil_of_le (by omega), List.drop_eq_nil_of_le (by omega)]
    simp
  | succ d ih =>
    intro k i hd hi hk
    obtain ⟨k, rfl⟩ : ∃ m, k = m + 1 := ⟨k - 1, by omega⟩
    have h1 : i < a.length := by omega
    have h2 : i < b.length := by omega
    rw [hF, if_pos (by omega), if_pos (by omega), if_pos (by omega), rd_nat a i h1, rd_nat b i h2, List.drop_eq_getElem_cons h1, List.drop_eq_getElem_cons h2, w64 (by omega) (by omega)]
    by_cases e : a[i] = b[i]
    · rw [if_pos e]
      have := ih k (i + 1) (by omega) (by omega) (by omega)
      rw [Int.natCast_add] at this
      rw [show ((i : Int) + 1) = (i : Int) + ((1 : Nat) : Int) by simp, this]
      have e3 : (a[i] :: a.drop (i + 1) = b[i] :: b.drop (i + 1)) ↔ (a.drop (i + 1) = b.drop (i + 1)) := by
        rw [e]; exact ⟨fun h => (List.cons.inj h).2, fun h => by rw [h]⟩
      exact congrArg some (decide_eq_decide.2 e3.symm)
    · rw [if_neg e]
      exact congrArg some (decide_eq_false (fun h => e (List.cons.inj h).1)).symm

end Go.Proofs.Ytmfmoddaejoekaa.P
end
section
/- The plain law of layer 3: numbers and texts as bytes. -/
namespace Go.Proofs.Ytmfmoddaejoekaa.P
open Go.RowKit Go.Proofs.YtmfmoddaejoekaaW.PrintWords Go.Proofs.YtmfmoddaejoekaaW.PrintLast Go.Proofs.YtmfmoddaejoekaaW.PrintMore
set_option linter.unusedVariables false
set_option linter.unusedSimpArgs false
theorem prog_Number (l : List Int) (a : Int) (hl : l.length + 16 ≤ 140737488355328) (ha : a ≤ 9223372036854775807) : wire_Number.f l a = some (l ++ numB a) := by
  unfold wire_Number.f; rw [if_pos hl, if_pos ha]
end Go.Proofs.Ytmfmoddaejoekaa.P
end
section
/- Plain facts: records that are held against each other. -/
set_option linter.unusedVariables false
set_option linter.unusedSimpArgs false
namespace Go.Proofs.Ytmfmoddaejoekaa.P
open Go.RowKit Go.Proofs.YtmfmoddaejoekaaW.PrintWords Go.Proofs.YtmfmoddaejoekaaW.PrintLast Go.Proofs.YtmfmoddaejoekaaW.PrintMore
theorem same1 (k : Nat) (a b : List Int) (hm : a.length ≤ 9223372036854775806) (hk : a.length < k) : liveryref01_Same.f k a b = some (decide (a = b)) := by
  unfold liveryref01_Same.f
  by_cases hl : a.length = b.length
  · rw [if_pos (by omega)]
    have := same_loop a b hl hm (fun k i => liveryref01_Same.l0 k a b i) (fun k i => by simp only [liveryref01_Same.l0]) a.length k 0 (by omega) (by omega) (by omega)
    simpa using this
  · rw [if_neg (by omega)]
    simp only [Option.some.injEq]
    exact (decide_eq_false (fun e => hl (by rw [e]))).symm
theorem rd_L2_nat (L : List (List Int)) (i : Nat) (h : i < L.length) : rd_L2 L (i : Int) = L[i] := by simp [rd_L2, h]
theorem same17_loop (L M : List (List Int)) (B : Nat) (hl : L.length = M.length) (hm : L.length ≤ 1000000) (hr : ∀ r ∈ L, r.length < B) (hB : B ≤ 1000000) :
    ∀ (d k i : Nat), L.length - i = d → i ≤ L.length → d + B < k → liveryref17_Same.l0 k L M (i : Int) = some (decide (L.drop i = M.drop i)) := by
  intro d
  induction d with
  | zero =>
    intro k i hd hi hk
    obtain ⟨k, rfl⟩ : ∃ m, k = m + 1 := ⟨k - 1, by omega⟩
    rw [liveryref17_Same.l0, if_neg (by omega), List.drop_eq_nil_of_le (by omega), List.drop_eq_nil_of_le (by omega)]
    simp
  | succ d ih =>
    intro k i hd hi hk
    obtain ⟨k, rfl⟩ : ∃ m, k = m + 1 := ⟨k - 1, by omega⟩
    have h1 : i < L.length := by omega
    have h2 : i < M.length := by omega
    have hlen := hr L[i] (List.getElem_mem h1)
    rw [liveryref17_Same.l0, if_pos (by omega), if_pos (by omega), if_pos (by omega), rd_L2_nat L i h1, rd_L2_nat M i h2, same1 k L[i] M[i] (by omega) (by omega), Option.bind_some, List.drop_eq_getElem_cons h1, List.drop_eq_getElem_cons h2, w64 (by omega) (by omega)]
    by_cases e : L[i] = M[i]
    · rw [if_pos (decide_eq_true e)]
      have := ih k (i + 1) (by omega) (by omega) (by omega)
      rw [Int.natCast_add] at this
      rw [show ((i : Int) + 1) = (i : Int) + ((1 : Nat) : Int) by simp, this]
      have e3 : (L[i] :: L.drop (i + 1) = M[i] :: M.drop (i + 1)) ↔ (L.drop (i + 1) = M.drop (i + 1)) := by
        rw [e]; exact ⟨fun h => (List.cons.inj h).2, fun h => by rw [h]⟩
      exact congrArg some (decide_eq_decide.2 e3.symm)
    · rw [if_neg (by simpa using e)]
      exact congrArg some (decide_eq_false (fun h => e (List.cons.inj h).1)).symm
theorem same17 (L M : List (List Int)) (hm : L.length ≤ 1000000) (hr : ∀ r ∈ L, r.length < 1000000) : ∃ k, liveryref17_Same.f k L M = some (decide (L = M)) := by
  refine ⟨3000000, ?_⟩
  unfold liveryref17_Same.f
  by_cases hl : L.length = M.length
  · rw [if_pos (by omega)]
    have := same17_loop L M 1000000 hl hm hr (Nat.le_refl _) L.length 3000000 0 (by omega) (by omega) (by omega)
    simpa using this
  · rw [if_neg (by omega)]
    simp only [Option.some.injEq]
    exact (decide_eq_false (fun e => hl (by rw [e]))).symm
end Go.Proofs.Ytmfmoddaejoekaa.P
end
section
/- The plain law of layer 3: what is put is read again, what is cut is too short, no other bytes say the same. -/
namespace Go.Proofs.Ytmfmoddaejoekaa.P
open Go.RowKit Go.Proofs.YtmfmoddaejoekaaW.PrintWords Go.Proofs.YtmfmoddaejoekaaW.PrintLast Go.Proofs.YtmfmoddaejoekaaW.PrintMore
set_option linter.unusedVariables false
set_option linter.unusedSimpArgs false
theorem val_digs : ∀ (f n : Nat), n ≤ f → val 0 (digs n) = (n : Int) := by
  intro f
  induction f with
  | zero => intro n hn; obtain rfl : n = 0 := by omega
            rfl
  | succ f ih =>
    intro n hn
    by_cases h : n = 0
    · subst h; rfl
    · rw [digs_succ n h, val_snoc, ih (n / 256) (by omega)]; omega
theorem getD_append_left (l m : List Int) (h : l ≠ []) : (l ++ m).getD 0 0 = l.getD 0 0 := by
  cases l with
  | nil => exact absurd rfl h
  | cons x t => rfl
theorem digs_ne (n : Nat) (h : n ≠ 0) : digs n ≠ [] := by rw [digs_succ n h]; simp
theorem digs_first : ∀ (f n : Nat), n ≤ f → n ≠ 0 → (digs n).getD 0 0 ≠ 0 := by
  intro f
  induction f with
  | zero => intro n hn h; omega
  | succ f ih =>
    intro n hn h
    rw [digs_succ n h]
    by_cases h2 : n / 256 = 0
    · rw [h2, digs_zero]; simp; omega
    · rw [getD_append_left _ _ (digs_ne _ h2)]; exact ih _ (by omega) h2
theorem digs_top (n : Nat) (hn : n ≤ 9223372036854775807) (h8 : (digs n).length = 8) : (digs n).getD 0 0 ≤ 127 := by
  have hv := val_digs n n (Nat.le_refl _)
  have hb := digs_byte n n (Nat.le_refl _)
  generalize digs n = l at *
  match l, h8 with
  | x :: t, h8 =>
    have hx := hb x (by simp)
    have := val_ge t (256 * 0 + x) (fun y hy => hb y (by simp [hy])) (by omega)
    rw [show t.length = 7 by simpa using h8] at this
    simp only [val] at hv
    simp only [List.getD_cons_zero]
    have hc : cap 7 = 72057594037927936 := by decide
    rw [hc] at this
    omega
theorem lookB_numB (a : Int) (z : List Int) (h0 : 0 ≤ a) (h1 : a ≤ 9223372036854775807) : lookB (numB a ++ z) = (a, ((numB a).length : Int), 0) := by
  obtain ⟨n, rfl⟩ : ∃ n : Nat, a = (n : Int) := ⟨a.toNat, by omega⟩
  have hl := digs_length n n (Nat.le_refl _) (by omega)
  have h8 := digs_le8 n (by omega)
  unfold numB
  rw [Int.toNat_natCast, List.cons_append]
  rw [lookB_yes (by omega) (by rw [List.length_append]; omega) ?_]
  · rw [Int.toNat_natCast, List.take_left' (by omega), val_digs n n (Nat.le_refl _), List.length_cons, hl]
    simp
  · rintro (⟨h2, h3⟩ | ⟨h2, h3⟩)
    · have hn : n ≠ 0 := by rintro rfl; rw [numLen_zero] at h2; omega
      rw [getD_append_left _ _ (digs_ne n hn)] at h3
      exact digs_first n n (Nat.le_refl _) hn h3
    · have hn : n ≠ 0 := by rintro rfl; rw [numLen_zero] at h2; omega
      rw [getD_append_left _ _ (digs_ne n hn)] at h3
      have := digs_top n (by omega) (by omega)
      omega
theorem okB_append {a b : List Int} (ha : okB a = true) (hb : okB b = true) : okB (a ++ b) = true := okB_of fun x hx => (List.mem_append.1 hx).elim (okB_mem ha x) (okB_mem hb x)
theorem okB_numB (a : Int) (h : a ≤ 9223372036854775807) : okB (numB a) = true := okB_of fun x hx => by
  have hl := digs_length a.toNat a.toNat (Nat.le_refl _) (by omega)
  have h8 := digs_le8 a.toNat (by omega)
  unfold numB at hx
  rcases List.mem_cons.1 hx with h | h
  · subst h; omega
  · exact digs_byte _ _ (Nat.le_refl _) x h
end Go.Proofs.Ytmfmoddaejoekaa.P
end
