/- Plain law: the printed functions that count credentials come to the same list. -/
import Derived.Test.YtpdcmdofojckdaaDoorC5S
import Derived.Test.YtpdcmdofojckdaaDoorP12
import Derived.Test.YtpdcmdofojckdaaDoorP22
set_option linter.unusedVariables false
namespace Go.Proofs.YtpdcmdofojckdaaDoor.Pure
open Go.RowKit Go.Sort Go.Proofs.YtpdcmdofojckdaaDoor.P Go.Proofs.YtpdcmdofojckdaaDoorW.PrintWords Go.Proofs.YtpdcmdofojckdaaDoorW.PrintLast
theorem may_eq (k : Nat) (x : CS) (hk : 21 < k) : cred_May.f k x.f0.f0 x.f0.f1 x.f1 x.f2 x.f3 x.f4.f0 x.f4.f1 x.f5.f0 x.f5.f1 = some (mayC x) := cred_May_eq k _ _ _ _ _ _ _ _ _ hk
theorem mayR_eq (k : Nat) (x : CS) (hk : 21 < k) : liveryref05_May.f k x.f0.f0 x.f0.f1 x.f1 x.f2 x.f3 x.f4.f0 x.f4.f1 x.f5.f0 x.f5.f1 = some (mayC x) := ref05_May_eq k _ _ _ _ _ _ _ _ _ hk
theorem sameI_beq (a c : CS) : (a.f0.f0 == c.f0.f0 && a.f0.f1 == c.f0.f1) = sameI a c := by
  unfold sameI
  rw [Bool.eq_iff_iff]
  simp
theorem notI_beq (a c : CS) : (!(a.f0.f0 == c.f0.f0) || !(a.f0.f1 == c.f0.f1)) = !sameI a c := by
  rw [← sameI_beq, Bool.not_and]
theorem drop_at {l : List CS} {i : Nat} (h : i < l.length) : l.drop i = l.getD i default :: l.drop (i + 1) := by
  rw [List.drop_eq_getElem_cons h, List.getD_eq_getElem?_getD, List.getElem?_eq_getElem h]; rfl
theorem last_at {l : List CS} (h : 0 < l.length) : l.getLast? = some (l.getD (l.length - 1) default) := by
  rw [List.getLast?_eq_getElem?, List.getD_eq_getElem?_getD, List.getElem?_eq_getElem (by omega)]; rfl
theorem counts_l0 (S : List CS) (hS : S.length ≤ 1000) : ∀ (n i k : Nat) (out : List CS), S.length - i = n → i ≤ S.length → out.length + n ≤ 1000 → n + 30 < k →
    cred_Counts.l0 k out S (S.length : Int) (i : Int) = some (out ++ ddO out.getLast? (S.drop i))
  | 0, i, k, out, hn, hi, ho, hk => by
    obtain ⟨k, rfl⟩ : ∃ m, k = m + 1 := ⟨k - 1, by omega⟩
    rw [cred_Counts.l0, if_neg (by omega), List.drop_eq_nil_of_le (by omega)]
    simp [ddO]
  | n + 1, i, k, out, hn, hi, ho, hk => by
    obtain ⟨k, rfl⟩ : ∃ m, k = m + 1 := ⟨k - 1, by omega⟩
    have hlt : i < S.length := by omega
    have IH := fun o ho => counts_l0 S hS n (i + 1) k o (by omega) (by omega) ho (by omega)
    rw [cred_Counts.l0, if_pos (by omega), if_pos (by omega), if_pos (by omega), rd_nat, may_eq k _ (by omega), Option.bind_some, w1 (by omega), drop_at hlt]
    obtain ⟨c, ec⟩ : ∃ c, S.getD i default = c := ⟨_, rfl⟩
    rw [ec, ddO]
    by_cases hm : mayC c = true
    · rw [if_pos hm]
      by_cases h0 : out.length = 0
      · obtain rfl : out = [] := List.eq_nil_of_length_eq_zero h0
        rw [if_pos (by simp), if_pos (by simp), if_pos ⟨hm, fun a ha => by cases ha⟩]
        exact (IH [c] (by simp; omega)).trans rfl
      · have hw : wrap64 ((out.length : Int) - 1) = ((out.length - 1 : Nat) : Int) := by unfold wrap64; omega
        rw [if_neg (by omega), hw, if_pos (by omega), if_pos (by omega), rd_nat, notI_beq, last_at (by omega)]
        obtain ⟨a, ea⟩ : ∃ a, out.getD (out.length - 1) default = a := ⟨_, rfl⟩
        rw [ea]
        by_cases hs : sameI a c = true
        · rw [if_neg (by simp [hs]), if_neg (fun h => by have := h.2 a rfl; rw [hs] at this; cases this)]
          rw [IH out (by omega), last_at (by omega), ea]
        · rw [if_pos (by simpa using hs), if_pos (by omega), if_pos ⟨hm, fun b hb => by cases hb; simpa using hs⟩]
          refine (IH (out ++ [c]) (by simp; omega)).trans ?_
          rw [List.getLast?_concat, List.append_assoc]
          rfl
    · rw [if_neg hm, if_neg (fun h => hm h.1), IH out (by omega)]
/-- What counts. -/
def countsC (l : List CS) : List CS := ddO none (sortC l)
theorem cred_Counts_eq (k : Nat) (l : List CS) (hl : l.length ≤ 40) (hk : 100 < k) : cred_Counts.f k l = some (countsC l) := by
  unfold cred_Counts.f cred_Sorted.f
  rw [if_pos hl, Option.bind_some]
  have h := sortC_length l
  have := counts_l0 (sortC l) (by omega) (sortC l).length 0 k [] rfl (by omega) (by simp; omega) (by omega)
  rw [show ((0 : Nat) : Int) = 0 from rfl] at this
  rw [this]
  rfl
theorem refcounts_l1 (x0 out : List CS) (i : Nat) (may : Bool) (hi : i < x0.length) (ho : out.length ≤ 1000) : ∀ (n j k : Nat) (had : Bool), out.length - j = n → j ≤ out.length → n < k →
    liveryref05_Counts.l1 k x0 out (i : Int) may had (j : Int) = liveryref05_Counts.l1 (k - n) x0 out (i : Int) may (had || (out.drop j).any fun a => sameI a (x0.getD i default)) (out.length : Int)
  | 0, j, k, had, hn, hj, hk => by
    obtain rfl : j = out.length := by omega
    rw [List.drop_length]
    simp
  | n + 1, j, k, had, hn, hj, hk => by
    obtain ⟨k, rfl⟩ : ∃ m, k = m + 1 := ⟨k - 1, by omega⟩
    rw [show k + 1 - (n + 1) = k - n by omega, drop_at (show j < out.length by omega), List.any_cons]
    rw [liveryref05_Counts.l1, if_pos (by omega), w1 (by omega)]
    cases had with
    | true =>
      rw [if_pos rfl, refcounts_l1 x0 out i may hi ho n (j + 1) k true (by omega) (by omega) (by omega)]
      simp
    | false =>
      rw [if_neg Bool.false_ne_true, if_pos (by omega), if_pos (by omega), if_pos (by omega), rd_nat, rd_nat, sameI_beq]
      rw [refcounts_l1 x0 out i may hi ho n (j + 1) k _ (by omega) (by omega) (by omega)]
      simp
theorem refcounts_l0 (x0 : List CS) (hL : x0.length ≤ 40) : ∀ (n i k : Nat) (out : List CS), x0.length - i = n → i ≤ x0.length → out.length + n ≤ 40 → 50 * n + 1700 < k →
    liveryref05_Counts.l0 k x0 out (i : Int) = some (sortC (nubC out (x0.drop i)))
  | 0, i, k, out, hn, hi, ho, hk => by
    obtain ⟨k, rfl⟩ : ∃ m, k = m + 1 := ⟨k - 1, by omega⟩
    rw [liveryref05_Counts.l0, if_neg (by omega), ref05_Sorted_eq k out (by omega) (by omega), List.drop_eq_nil_of_le (by omega)]
    rfl
  | n + 1, i, k, out, hn, hi, ho, hk => by
    obtain ⟨k, rfl⟩ : ∃ m, k = m + 1 := ⟨k - 1, by omega⟩
    have hlt : i < x0.length := by omega
    rw [liveryref05_Counts.l0, if_pos (by omega), if_pos (by omega), rd_nat, mayR_eq k _ (by omega), Option.bind_some]
    have h1 := refcounts_l1 x0 out i (mayC (x0.getD i default)) hlt (by omega) out.length 0 k false (by omega) (by omega) (by omega)
    rw [show ((0 : Nat) : Int) = 0 from rfl, List.drop_zero, Bool.false_or] at h1
    rw [h1, drop_at hlt, nubC]
    obtain ⟨c, ec⟩ : ∃ c, x0.getD i default = c := ⟨_, rfl⟩
    obtain ⟨m, hm⟩ : ∃ m, k - out.length = m + 1 := ⟨k - out.length - 1, by omega⟩
    rw [hm, liveryref05_Counts.l1, if_neg (by omega), w1 (by omega), rd_nat, ec]
    have IH := fun o ho => refcounts_l0 x0 hL n (i + 1) m o (by omega) (by omega) ho (by omega)
    by_cases hmay : mayC c = true
    · rw [if_pos hmay]
      by_cases hany : (out.any fun a => sameI a c) = true
      · rw [if_pos hany, IH out (by omega), if_neg]
        rintro ⟨_, h2⟩
        obtain ⟨a, ha, hac⟩ := List.any_eq_true.1 hany
        rw [h2 a ha] at hac
        cases hac
      · rw [if_neg hany, if_pos (by omega), if_pos (by omega), if_pos (by omega), if_pos]
        · exact IH (out ++ [c]) (by simp; omega)
        · refine ⟨hmay, fun a ha => Bool.eq_false_iff.2 fun h => hany (List.any_eq_true.2 ⟨a, ha, h⟩)⟩
    · rw [if_neg hmay, IH out (by omega), if_neg (fun h => hmay h.1)]
theorem ref05_Counts_eq (k : Nat) (l : List CS) (hl : l.length ≤ 40) (hk : 4000 < k) : liveryref05_Counts.f k l = some (countsC l) := by
  unfold liveryref05_Counts.f countsC
  rw [counts_eq]
  exact refcounts_l0 l hl l.length 0 k [] (by omega) (by omega) (by simp; omega) (by omega)
theorem countsC_length (l : List CS) : (countsC l).length ≤ l.length := by
  have := ddO_length (sortC l) none
  rw [sortC_length] at this
  exact this
end Go.Proofs.YtpdcmdofojckdaaDoor.Pure
