/- The plain law of layer 11: what was revoked, as rows, with no program in sight. -/
import Derived.Test.YtadkafhhkidecaaVPure
import Derived.Test.YtadkafhhkidecaaP2
import Derived.Test.YtadkafhhkidecaaP3
import Derived.Test.YtadkafhhkidecaaP6
import Derived.Test.YtadkafhhkidecaaP1
set_option linter.unusedVariables false
set_option linter.unusedSimpArgs false
namespace Go.Proofs.Ytadkafhhkidecaa.P
open Go.RowKit Go.Proofs.YtadkafhhkidecaaW.PrintWords Go.Proofs.YtadkafhhkidecaaW.PrintLast Go.Proofs.YtadkafhhkidecaaW.PrintMore
def rowS (L : List (List Int)) (d : Int) : List Int := L.getD (d.toNat - 1) []
def hasS (L : List (List Int)) (d s : Int) : Bool := decide (1 ≤ d ∧ d ≤ 16 ∧ s ∈ rowS L d)
def mayS (l : List Int) : Bool := decide (l.length ≤ 32 ∧ (∀ x ∈ l, 1 ≤ x ∧ x ≤ 4000) ∧ l.Nodup)
def rowN (L : List (List Int)) (d : Int) : List Int := if 1 ≤ d ∧ d ≤ 16 then rowS L d else []
/-- What rows may be. -/
def Good (L : List (List Int)) : Prop := L.length = 16 ∧ ∀ r ∈ L, mayS r = true
def addN (L : List (List Int)) (d s : Int) : Int := if ¬ (1 ≤ d ∧ d ≤ 16 ∧ 1 ≤ s ∧ s ≤ 4000) then 1 else if s ∈ rowS L d then 14 else if 32 ≤ (rowS L d).length then 12 else 0
def addL (L : List (List Int)) (d s : Int) : List (List Int) := if addN L d s = 0 then L.set (d.toNat - 1) (rowS L d ++ [s]) else L
def nextS (row : List Int) (k : Int) (more : List Int) : List Int := row.take k.toNat ++ more
def mergeOk (row : List Int) (k : Int) (more : List Int) : Bool := decide (more ≠ [] ∧ k ≤ row.length ∧ more.length ≤ 32 ∧ mayS (nextS row k more) = true ∧ (nextS row k more).take row.length = row ∧ row.length < (nextS row k more).length)
def mergeRow (row : List Int) (k : Int) (more : List Int) : List Int := if mergeOk row k more = true then nextS row k more else row
def mergeTo (known : List Int) (more : List (List Int)) (L : List (List Int)) : Nat → List (List Int) × Int
  | 0 => (L, 0)
  | n + 1 => ((mergeTo known more L n).1.set n (mergeRow ((mergeTo known more L n).1.getD n []) (getV known ((n : Int) + 1)) (more.getD n [])),
      (mergeTo known more L n).2 + (((mergeRow ((mergeTo known more L n).1.getD n []) (getV known ((n : Int) + 1)) (more.getD n [])).length : Int) - (((mergeTo known more L n).1.getD n []).length : Int)))
def partS (L : List (List Int)) (known : List Int) (i : Nat) : List Int := (L.getD i []).drop (getV known ((i : Int) + 1)).toNat
def partsS (L : List (List Int)) (known : List Int) (n : Nat) : List (List Int) := (List.range n).map (partS L known)
def lastNe (L : List (List Int)) (known : List Int) : Nat → Nat
  | 0 => 0
  | n + 1 => if partS L known n = [] then lastNe L known n else n + 1
def deltaS (L : List (List Int)) (known : List Int) : List (List Int) := (partsS L known 16).take (lastNe L known 16)
def lensS (L : List (List Int)) : List Int := L.map fun r => (r.length : Int)
def vectorS (L : List (List Int)) : List Int := bareOf (getV (lensS L))

theorem is_eq (d : Int) : revset_is.f d = some (decide (1 ≤ d ∧ d ≤ 16)) := by
  unfold revset_is.f
  by_cases h : d ≥ 1
  · rw [if_pos h]; simp; omega
  · rw [if_neg h]; simp; omega
theorem index_loop (l : List Int) (s : Int) (hm : l.length ≤ 9223372036854775806) : ∀ (d k i : Nat), l.length - i = d → i ≤ l.length → d < k →
    ∃ r : Int, slices_Index_int_int.l0 k l s (l.length : Int) (i : Int) = some r ∧ (decide (r ≥ 0) = decide (s ∈ l.drop i)) := by
  intro d
  induction d with
  | zero =>
    intro k i hd hi hk
    obtain ⟨k, rfl⟩ : ∃ m, k = m + 1 := ⟨k - 1, by omega⟩
    refine ⟨-1, by simp only [slices_Index_int_int.l0]; rw [if_neg (by omega)], ?_⟩
    rw [List.drop_eq_nil_of_le (by omega)]
    simp
  | succ d ih =>
    intro k i hd hi hk
    obtain ⟨k, rfl⟩ : ∃ m, k = m + 1 := ⟨k - 1, by omega⟩
    have h1 : i < l.length := by omega
    simp only [slices_Index_int_int.l0]
    rw [if_pos (by omega), if_pos (by omega), if_pos (by omega), rd_nat l i h1, w64 (by omega) (by omega), List.drop_eq_getElem_cons h1]
    by_cases e : s = l[i]
    · rw [if_pos e]
      exact ⟨_, rfl, by rw [decide_eq_true (by omega), decide_eq_true (List.mem_cons.2 (.inl e))]⟩
    · rw [if_neg e]
      obtain ⟨r, hr, hr2⟩ := ih k (i + 1) (by omega) (by omega) (by omega)
      refine ⟨r, by rw [← hr]; rfl, ?_⟩
      rw [hr2]
      exact decide_eq_decide.2 ⟨fun h => List.mem_cons_of_mem _ h, fun h => (List.mem_cons.1 h).resolve_left e⟩
theorem contains_eq (k : Nat) (l : List Int) (s : Int) (hm : l.length ≤ 9223372036854775806) (hk : l.length < k) : slices_Contains_int_int.f k l s = some (decide (s ∈ l)) := by
  obtain ⟨r, hr, hr2⟩ := index_loop l s hm l.length k 0 (by omega) (by omega) (by omega)
  unfold slices_Contains_int_int.f slices_Index_int_int.f
  rw [show ((0 : Nat) : Int) = 0 from rfl] at hr
  rw [hr, Option.bind_some, hr2, List.drop_zero]
theorem in_loop (l : List Int) (s : Int) (hm : l.length ≤ 9223372036854775806) : ∀ (d k i : Nat), l.length - i = d → i ≤ l.length → d < k → liveryref11_in.l0 k l s (i : Int) = some (decide (s ∈ l.drop i)) := by
  intro d
  induction d with
  | zero =>
    intro k i hd hi hk
    obtain ⟨k, rfl⟩ : ∃ m, k = m + 1 := ⟨k - 1, by omega⟩
    simp only [liveryref11_in.l0]
    rw [if_neg (by omega), List.drop_eq_nil_of_le (by omega)]
    simp
  | succ d ih =>
    intro k i hd hi hk
    obtain ⟨k, rfl⟩ : ∃ m, k = m + 1 := ⟨k - 1, by omega⟩
    have h1 : i < l.length := by omega
    simp only [liveryref11_in.l0]
    rw [if_pos (by omega), if_pos (by omega), rd_nat l i h1, w64 (by omega) (by omega), List.drop_eq_getElem_cons h1]
    by_cases e : l[i] = s
    · rw [if_pos e, decide_eq_true (List.mem_cons.2 (.inl e.symm))]
    · rw [if_neg e]
      have := ih k (i + 1) (by omega) (by omega) (by omega)
      rw [show (((i + 1 : Nat)) : Int) = (i : Int) + 1 by simp] at this
      rw [this]
      have e2 : ¬ s = l[i] := fun h => e h.symm
      exact congrArg some (decide_eq_decide.2 ⟨fun h => List.mem_cons_of_mem _ h, fun h => (List.mem_cons.1 h).resolve_left e2⟩)
theorem in_eq (k : Nat) (l : List Int) (s : Int) (hm : l.length ≤ 9223372036854775806) (hk : l.length < k) : liveryref11_in.f k l s = some (decide (s ∈ l)) := by
  have := in_loop l s hm l.length k 0 (by omega) (by omega) (by omega)
  rw [List.drop_zero] at this
  exact this
theorem rows_same_loop (a b : List (List Int)) (hl : a.length = b.length) (hm : a.length ≤ 1000000) (n : Nat) (hn : ∀ r ∈ a, r.length ≤ n) (hn2 : n ≤ 1000000) : ∀ (d k i : Nat), a.length - i = d → i ≤ a.length → n + d + 1 < k →
    liveryref11_SameRows.l0 k a b (i : Int) = some (decide (a.drop i = b.drop i)) := by
  intro d
  induction d with
  | zero =>
    intro k i hd hi hk
    obtain ⟨k, rfl⟩ : ∃ m, k = m + 1 := ⟨k - 1, by omega⟩
    simp only [liveryref11_SameRows.l0]
    rw [if_neg (by omega), List.drop_eq_nil_of_le (by omega), List.drop_eq_nil_of_le (by omega)]
    simp
  | succ d ih =>
    intro k i hd hi hk
    obtain ⟨k, rfl⟩ : ∃ m, k = m + 1 := ⟨k - 1, by omega⟩
    have h1 : i < a.length := by omega
    have h2 : i < b.length := by omega
    simp only [liveryref11_SameRows.l0]
    have e1 : rd_L1 a (i : Int) = a[i] := by simp [rd_L1, List.getD_eq_getElem?_getD, List.getElem?_eq_getElem h1]
    have e2 : rd_L1 b (i : Int) = b[i] := by simp [rd_L1, List.getD_eq_getElem?_getD, List.getElem?_eq_getElem h2]
    have e3 := hn _ (List.getElem_mem h1)
    rw [if_pos (by omega), if_pos (by omega), if_pos (by omega), e1, e2, ref10_Same k _ _ (by omega) (by omega), Option.bind_some, List.drop_eq_getElem_cons h1, List.drop_eq_getElem_cons h2]
    by_cases e : a[i] = b[i]
    · rw [if_pos (by simpa using e), w64 (by omega) (by omega)]
      have := ih k (i + 1) (by omega) (by omega) (by omega)
      rw [show (((i + 1 : Nat)) : Int) = (i : Int) + 1 by simp] at this
      rw [this, e]
      exact congrArg some (decide_eq_decide.2 ⟨fun h => by rw [h], fun h => (List.cons.inj h).2⟩)
    · rw [if_neg (by simpa using e), decide_eq_false (fun h => e (List.cons.inj h).1)]
theorem sameRows_eq (k : Nat) (a b : List (List Int)) (hm : a.length ≤ 1000000) (n : Nat) (hn : ∀ r ∈ a, r.length ≤ n) (hn2 : n ≤ 1000000) (hk : n + a.length + 1 < k) : liveryref11_SameRows.f k a b = some (decide (a = b)) := by
  unfold liveryref11_SameRows.f
  by_cases h : (a.length : Int) = (b.length : Int)
  · rw [if_pos h]
    have := rows_same_loop a b (by omega) hm n hn hn2 a.length k 0 (by omega) (by omega) (by omega)
    rw [show ((0 : Nat) : Int) = 0 from rfl, List.drop_zero, List.drop_zero] at this
    exact this
  · rw [if_neg h, decide_eq_false (fun e => h (by rw [e]))]
/-! Rows stay good. -/
theorem mayS_iff (l : List Int) : mayS l = true ↔ l.length ≤ 32 ∧ (∀ x ∈ l, 1 ≤ x ∧ x ≤ 4000) ∧ l.Nodup := by unfold mayS; exact decide_eq_true_iff
theorem Good.row {L : List (List Int)} (h : Good L) (i : Nat) : mayS (L.getD i []) = true := by
  by_cases hi : i < L.length
  · rw [List.getD_eq_getElem?_getD, List.getElem?_eq_getElem hi]
    exact h.2 _ (List.getElem_mem hi)
  · rw [List.getD_eq_getElem?_getD, List.getElem?_eq_none (by omega)]
    decide
theorem Good.len {L : List (List Int)} (h : Good L) (i : Nat) : (L.getD i []).length ≤ 32 := ((mayS_iff _).1 (h.row i)).1
theorem Good.lenS {L : List (List Int)} (h : Good L) (d : Int) : (rowS L d).length ≤ 32 := h.len _
theorem Good.at_ {L : List (List Int)} (h : Good L) {i : Nat} (hi : i < 16) : L[i]? = some (L.getD i []) := by
  have h1 := h.1
  rw [List.getD_eq_getElem?_getD, List.getElem?_eq_getElem (by omega)]
  rfl
theorem Good.set {L : List (List Int)} (h : Good L) (i : Nat) {l : List Int} (hl : mayS l = true) : Good (L.set i l) :=
  ⟨by rw [List.length_set]; exact h.1, fun r hr => (List.mem_or_eq_of_mem_set hr).elim (h.2 r) (fun e => e ▸ hl)⟩
theorem good_new : Good (List.replicate 16 []) := ⟨by simp, fun r hr => by rw [(List.mem_replicate.1 hr).2]; decide⟩
theorem mayS_snoc {l : List Int} {s : Int} (h : mayS l = true) (h1 : 1 ≤ s) (h2 : s ≤ 4000) (h3 : s ∉ l) (h4 : l.length < 32) : mayS (l ++ [s]) = true := by
  rw [mayS_iff] at h ⊢
  refine ⟨by simp; omega, fun x hx => ?_, List.nodup_append.2 ⟨h.2.2, (by simp), fun a ha b hb => ?_⟩⟩
  · rcases List.mem_append.1 hx with hx | hx
    · exact h.2.1 x hx
    · rw [List.mem_singleton.1 hx]; omega
  · rw [List.mem_singleton.1 hb]
    intro e
    exact h3 (e ▸ ha)
theorem addN_zero {L : List (List Int)} {d s : Int} (h : addN L d s = 0) : 1 ≤ d ∧ d ≤ 16 ∧ 1 ≤ s ∧ s ≤ 4000 ∧ s ∉ rowS L d ∧ (rowS L d).length < 32 := by
  unfold addN at h
  by_cases c1 : ¬ (1 ≤ d ∧ d ≤ 16 ∧ 1 ≤ s ∧ s ≤ 4000)
  · rw [if_pos c1] at h; omega
  · rw [if_neg c1] at h
    by_cases c2 : s ∈ rowS L d
    · rw [if_pos c2] at h; omega
    · rw [if_neg c2] at h
      by_cases c3 : 32 ≤ (rowS L d).length
      · rw [if_pos c3] at h; omega
      · exact ⟨by omega, by omega, by omega, by omega, c2, by omega⟩
theorem Good.add {L : List (List Int)} (h : Good L) (d s : Int) : Good (addL L d s) := by
  unfold addL
  by_cases c : addN L d s = 0
  · rw [if_pos c]
    obtain ⟨h1, h2, h3, h4, h5, h6⟩ := addN_zero c
    exact h.set _ (mayS_snoc (h.row _) h3 h4 h5 h6)
  · rw [if_neg c]; exact h
theorem mergeRow_may {row : List Int} (h : mayS row = true) (k : Int) (more : List Int) : mayS (mergeRow row k more) = true := by
  unfold mergeRow
  by_cases c : mergeOk row k more = true
  · rw [if_pos c]
    unfold mergeOk at c
    exact (decide_eq_true_iff.1 c).2.2.2.1
  · rw [if_neg c]; exact h
theorem Good.merge {L : List (List Int)} (h : Good L) (known : List Int) (more : List (List Int)) : ∀ n, Good (mergeTo known more L n).1
  | 0 => h
  | n + 1 => (Good.merge h known more n).set n (mergeRow_may ((Good.merge h known more n).row n) _ _)
theorem mergeRow_nil (row : List Int) (k : Int) : mergeRow row k [] = row := by
  unfold mergeRow
  rw [if_neg]
  unfold mergeOk
  simp
theorem set_getD {L : List (List Int)} (n : Nat) : L.set n (L.getD n []) = L := by
  apply List.ext_getElem?
  intro i
  by_cases e : n = i
  · subst e
    by_cases hn : n < L.length
    · rw [List.getElem?_set_self hn, List.getD_eq_getElem?_getD, List.getElem?_eq_getElem hn]; rfl
    · rw [List.getElem?_eq_none (by simp; omega), List.getElem?_eq_none (by omega)]
  · rw [List.getElem?_set_ne e]
/-- Where no more is told nothing is merged. -/
theorem mergeTo_stop (known : List Int) (more L : List (List Int)) (m : Nat) (hm : more.length ≤ m) : ∀ n, m ≤ n → mergeTo known more L n = mergeTo known more L m := by
  intro n hn
  induction n with
  | zero => obtain rfl : m = 0 := by omega
            rfl
  | succ n ih =>
    by_cases e : m = n + 1
    · rw [e]
    · have h := ih (by omega)
      simp only [mergeTo]
      rw [show more.getD n [] = [] by rw [List.getD_eq_getElem?_getD, List.getElem?_eq_none (by omega)]; rfl, mergeRow_nil, set_getD]
      simp [h]
def mergeL (known : List Int) (more L : List (List Int)) : List (List Int) := (mergeTo known more L 16).1
def mergeN (known : List Int) (more L : List (List Int)) : Int := (mergeTo known more L 16).2
end Go.Proofs.Ytadkafhhkidecaa.P
namespace Go.Proofs.Ytadkafhhkidecaa.P
open Go.RowKit Go.Proofs.YtadkafhhkidecaaW.PrintWords Go.Proofs.YtadkafhhkidecaaW.PrintLast Go.Proofs.YtadkafhhkidecaaW.PrintMore
theorem mergeRow_len {row : List Int} (h : mayS row = true) (k : Int) (more : List Int) : row.length ≤ (mergeRow row k more).length ∧ (mergeRow row k more).length ≤ 32 := by
  refine ⟨?_, ((mayS_iff _).1 (mergeRow_may h k more)).1⟩
  unfold mergeRow
  by_cases c : mergeOk row k more = true
  · rw [if_pos c]
    unfold mergeOk at c
    have := (decide_eq_true_iff.1 c).2.2.2.2.2
    omega
  · rw [if_neg c]; exact Nat.le_refl _
theorem mergeTo_bound {L : List (List Int)} (h : Good L) (known : List Int) (more : List (List Int)) : ∀ n : Nat, 0 ≤ (mergeTo known more L n).2 ∧ (mergeTo known more L n).2 ≤ 32 * (n : Int)
  | 0 => by simp [mergeTo]
  | n + 1 => by
    have h1 := mergeTo_bound h known more n
    have h2 := mergeRow_len ((h.merge known more n).row n) (getV known ((n : Int) + 1)) (more.getD n [])
    simp only [mergeTo]
    omega
theorem mergeTo_step (known : List Int) (more L : List (List Int)) (n : Nat) : mergeTo known more L (n + 1) = ((mergeTo known more L n).1.set n (mergeRow ((mergeTo known more L n).1.getD n []) (getV known ((n : Int) + 1)) (more.getD n [])),
      (mergeTo known more L n).2 + (((mergeRow ((mergeTo known more L n).1.getD n []) (getV known ((n : Int) + 1)) (more.getD n [])).length : Int) - (((mergeTo known more L n).1.getD n []).length : Int))) := rfl
theorem mergeTo_skip (known : List Int) (more L : List (List Int)) (n : Nat) (h : more.getD n [] = []) : mergeTo known more L (n + 1) = mergeTo known more L n := by
  simp only [mergeTo]
  rw [h, mergeRow_nil, set_getD]
  simp
/-- How many domains have been merged behind i rows. -/
def upTo16 (i : Nat) : Nat := min i 16
theorem mergeTo_all (known : List Int) (more L : List (List Int)) : mergeTo known more L (upTo16 more.length) = mergeTo known more L 16 := by
  unfold upTo16
  by_cases h : more.length ≤ 16
  · rw [Nat.min_eq_left h]
    exact (mergeTo_stop known more L more.length (Nat.le_refl _) 16 h).symm
  · rw [Nat.min_eq_right (by omega)]
end Go.Proofs.Ytadkafhhkidecaa.P
namespace Go.Proofs.Ytadkafhhkidecaa.P
open Go.RowKit Go.Proofs.YtadkafhhkidecaaW.PrintWords Go.Proofs.YtadkafhhkidecaaW.PrintLast Go.Proofs.YtadkafhhkidecaaW.PrintMore
theorem partsS_succ (L : List (List Int)) (known : List Int) (n : Nat) : partsS L known (n + 1) = partsS L known n ++ [partS L known n] := by simp [partsS, List.range_succ]
theorem partsS_length (L : List (List Int)) (known : List Int) (n : Nat) : (partsS L known n).length = n := by simp [partsS]
theorem lastNe_le (L : List (List Int)) (known : List Int) : ∀ n, lastNe L known n ≤ n
  | 0 => Nat.le_refl _
  | n + 1 => by unfold lastNe; have := lastNe_le L known n; split <;> omega
/-- What is told of the first n domains. -/
def deltaTo (L : List (List Int)) (known : List Int) (n : Nat) : List (List Int) := (partsS L known n).take (lastNe L known n)
theorem deltaTo_length (L : List (List Int)) (known : List Int) (n : Nat) : (deltaTo L known n).length = lastNe L known n := by
  rw [deltaTo, List.length_take, partsS_length]
  have := lastNe_le L known n
  omega
theorem deltaTo_pad (L : List (List Int)) (known : List Int) : ∀ n, partsS L known n = deltaTo L known n ++ List.replicate (n - lastNe L known n) []
  | 0 => by simp [partsS, deltaTo]
  | n + 1 => by
    have ih := deltaTo_pad L known n
    have hle := lastNe_le L known n
    have hl := partsS_length L known n
    by_cases h : partS L known n = []
    · have e : lastNe L known (n + 1) = lastNe L known n := by rw [lastNe, if_pos h]
      have e2 : deltaTo L known (n + 1) = deltaTo L known n := by rw [deltaTo, e, partsS_succ, List.take_append_of_le_length (by omega)]; rfl
      rw [e2, e, partsS_succ, h, ih, show n + 1 - lastNe L known n = (n - lastNe L known n) + 1 by omega, List.replicate_succ', List.append_assoc]
    · have e : lastNe L known (n + 1) = n + 1 := by rw [lastNe, if_neg h]
      rw [deltaTo, e, List.take_of_length_le (by rw [partsS_length]; exact Nat.le_refl _)]
      simp
theorem deltaTo_none {L : List (List Int)} {known : List Int} {n : Nat} (h : partS L known n = []) : deltaTo L known (n + 1) = deltaTo L known n := by
  have e : lastNe L known (n + 1) = lastNe L known n := by rw [lastNe, if_pos h]
  rw [deltaTo, e, partsS_succ, List.take_append_of_le_length (by rw [partsS_length]; exact lastNe_le L known n)]
  rfl
/-- What is padded, up to m rows. -/
def padTo (L : List (List Int)) (known : List Int) (n m : Nat) : List (List Int) := deltaTo L known n ++ List.replicate (m - lastNe L known n) []
theorem padTo_start (L : List (List Int)) (known : List Int) (n : Nat) : padTo L known n (lastNe L known n) = deltaTo L known n := by simp [padTo]
theorem padTo_succ (L : List (List Int)) (known : List Int) (n m : Nat) (h : lastNe L known n ≤ m) : padTo L known n (m + 1) = padTo L known n m ++ [[]] := by
  rw [padTo, padTo, show m + 1 - lastNe L known n = (m - lastNe L known n) + 1 by omega, List.replicate_succ', List.append_assoc]
theorem padTo_length (L : List (List Int)) (known : List Int) (n m : Nat) (h : lastNe L known n ≤ m) : (padTo L known n m).length = m := by
  rw [padTo, List.length_append, deltaTo_length, List.length_replicate]; omega
theorem padTo_set {L : List (List Int)} {known : List Int} {n : Nat} (h : partS L known n ≠ []) : (padTo L known n (n + 1)).set n (partS L known n) = deltaTo L known (n + 1) := by
  have e : lastNe L known (n + 1) = n + 1 := by rw [lastNe, if_neg h]
  have hp := deltaTo_pad L known n
  rw [padTo_succ L known n n (lastNe_le L known n), padTo, ← hp, deltaTo, e, List.take_of_length_le (by rw [partsS_length]; exact Nat.le_refl _), partsS_succ, List.set_append_right _ _ (by rw [partsS_length]; exact Nat.le_refl _), partsS_length, Nat.sub_self]
  rfl
end Go.Proofs.Ytadkafhhkidecaa.P
