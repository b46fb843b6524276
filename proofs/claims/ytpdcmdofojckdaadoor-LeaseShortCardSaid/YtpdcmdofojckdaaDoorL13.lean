/- Plain law: a book of leases: what it holds, and when it heard: told once, for the program's book and for the document's. -/
import Derived.Test.YtpdcmdofojckdaaDoorC5N
import Derived.Test.YtpdcmdofojckdaaDoorP13
import Derived.Test.YtpdcmdofojckdaaDoorP25
import Derived.Test.YtpdcmdofojckdaaDoorP15
set_option linter.unusedVariables false
namespace Go.Proofs.YtpdcmdofojckdaaDoor.P
open Go.RowKit Go.Sort Go.Proofs.YtpdcmdofojckdaaDoor.Pure Go.Proofs.YtpdcmdofojckdaaDoorW.PrintWords Go.Proofs.YtpdcmdofojckdaaDoorW.PrintLast
/-! ### ticks -/
def tickT (n : Int) : Int := if n < 0 then 0 else if n > 1099511627776 then 1099511627776 else n
def addT (a b : Int) : Int := tickT (tickT a + tickT b)
def overT (now u : Int) : Bool := decide (tickT now ≥ tickT u) || decide (tickT now = 1099511627776)
theorem tickT_range (n : Int) : 0 ≤ tickT n ∧ tickT n ≤ 1099511627776 := by
  unfold tickT
  repeat' split
  all_goals omega
theorem tickT_self {n : Int} (h : 0 ≤ n) (h2 : n ≤ 1099511627776) : tickT n = n := by
  unfold tickT
  rw [if_neg (by omega), if_neg (by omega)]
theorem tick_eq (a : Int) : ticks_tick.f a = some (tickT a) := by
  unfold ticks_tick.f ticks_held_int.f tickT
  simp only [Option.bind_some, Option.some.injEq]
  unfold mx mn
  repeat' split
  all_goals omega
theorem wrapT (a b : Int) : wrap64 (tickT a + tickT b) = tickT a + tickT b := by
  have h1 := tickT_range a
  have h2 := tickT_range b
  unfold wrap64
  omega
theorem add_eq (a b : Int) : ticks_Add.f a b = some (addT a b) := by
  unfold ticks_Add.f addT
  simp only [tick_eq, Option.bind_some, wrapT]
theorem over_eq (a b : Int) : ticks_Over.f a b = some (overT a b) := by
  unfold ticks_Over.f overT
  simp only [tick_eq, Option.bind_some]
  by_cases h : tickT a ≥ tickT b
  · rw [if_pos h, decide_eq_true h, Bool.true_or]
  · rw [if_neg h, decide_eq_false h, Bool.false_or]
    congr 1
theorem tickR_eq (a : Int) : liveryref09_Tick.f a = some (tickT a) := by
  unfold liveryref09_Tick.f tickT
  repeat' split
  all_goals first | rfl | omega
theorem addR_eq (a b : Int) : liveryref09_Add.f a b = some (addT a b) := by
  unfold liveryref09_Add.f addT
  simp only [tickR_eq, Option.bind_some, wrapT]
theorem overR_eq (a b : Int) : liveryref09_Over.f a b = some (overT a b) := by
  unfold liveryref09_Over.f overT
  simp only [tickR_eq, Option.bind_some]
  by_cases h : tickT a ≥ tickT b
  · rw [if_pos h, decide_eq_true h, Bool.true_or]
  · rw [if_neg h, decide_eq_false h, Bool.false_or]
    congr 1
/-- The least of ticks. -/
def leastT (l : List Int) : Int := l.foldl (fun m n => if tickT n < m then tickT n else m) 1099511627776
theorem least_l0 (l : List Int) (hl : l.length ≤ 1000) : ∀ (n i k : Nat) (m : Int), l.length - i = n → i ≤ l.length → n < k → ticks_Least.l0 k m l (l.length : Int) (i : Int) = some ((l.drop i).foldl (fun m n => if tickT n < m then tickT n else m) m)
  | 0, i, k, m, hn, hi, hk => by
    obtain ⟨k, rfl⟩ : ∃ m, k = m + 1 := ⟨k - 1, by omega⟩
    rw [ticks_Least.l0, if_neg (by omega), List.drop_eq_nil_of_le (by omega)]
    rfl
  | n + 1, i, k, m, hn, hi, hk => by
    obtain ⟨k, rfl⟩ : ∃ m, k = m + 1 := ⟨k - 1, by omega⟩
    have hlt : i < l.length := by omega
    rw [ticks_Least.l0, if_pos (by omega), if_pos (by omega), if_pos (by omega), tick_eq, Option.bind_some, w1 (by omega), least_l0 l hl n (i + 1) k _ (by omega) (by omega) (by omega), List.drop_eq_getElem_cons hlt, List.foldl_cons]
    congr 2
    rw [show rd l (i : Int) = l[i] by show l.getD i 0 = l[i]; rw [List.getD_eq_getElem?_getD, List.getElem?_eq_getElem hlt]; rfl]
    unfold mn
    repeat' split
    all_goals omega
theorem least_eq (k : Nat) (l : List Int) (hl : l.length ≤ 1000) (hk : 1000 < k) : ticks_Least.f k l = some (leastT l) := by
  unfold ticks_Least.f leastT
  exact least_l0 l hl l.length 0 k _ (by omega) (by omega) (by omega)
theorem is_eq13 (d : Int) : lease_is.f d = some (decide (1 ≤ d ∧ d ≤ 16)) := by
  unfold lease_is.f
  by_cases h : d ≥ 1
  · rw [if_pos h]
    congr 1
    apply decide_eq_decide.2
    omega
  · rw [if_neg h, decide_eq_false (by omega)]
/-! ### the book -/
abbrev SH := S42
abbrev SD := S36
instance : Inhabited SH := ⟨z42⟩
instance : Inhabited SD := ⟨z36⟩
structure Bk where
  own : Int
  held : Int → List SH
  stamp : Int → Int
def bk0 (own : Int) : Bk := ⟨own, fun _ => [], fun _ => -1⟩
def mayA (B : Bk) (d asked : Int) : Bool := decide (d ≠ B.own ∧ (1 ≤ d ∧ d ≤ 16) ∧ 0 ≤ asked ∧ asked ≤ 1099511627776)
def hearB (B : Bk) (d asked : Int) : Bk := if mayA B d asked = true ∧ B.stamp d < asked then { B with stamp := fun x => if x = d then asked else B.stamp x } else B
def hearE (B : Bk) (d asked : Int) : Int := if mayA B d asked = true then 0 else 1
def givesC (d asked : Int) (l : List CS) : List SH := (l.filter fun c => c.f0.f0 == d).map fun c => ⟨c, addT asked 56⟩
def learnE (B : Bk) (d : Int) (l : List CS) (asked : Int) : Int :=
  if ¬ (mayA B d asked = true) ∨ asked < B.stamp d then 1 else if 24 < (givesC d asked (countsC l)).length then 12 else 0
def learnB (B : Bk) (d : Int) (l : List CS) (asked : Int) : Bk :=
  if learnE B d l asked = 0 then { hearB B d asked with held := fun x => if x = d then givesC d asked (countsC l) else B.held x } else B
/-- What is held, domain by domain, from the domain i + 1 on. -/
def heldFrom (B : Bk) (now : Int) : Nat → Nat → List SH
  | 0, _ => []
  | n + 1, i => ((B.held ((i + 1 : Nat) : Int)).filter fun h => !overT now h.f1) ++ heldFrom B now n (i + 1)
def heldL (B : Bk) (now : Int) : List SH := heldFrom B now 16 0
def allFrom (B : Bk) : Nat → Nat → List SH
  | 0, _ => []
  | n + 1, i => B.held ((i + 1 : Nat) : Int) ++ allFrom B n (i + 1)
def allL (B : Bk) : List SH := allFrom B 16 0
theorem heldFrom_all (B : Bk) (now : Int) : ∀ n i, heldFrom B now n i = (allFrom B n i).filter fun h => !overT now h.f1
  | 0, i => rfl
  | n + 1, i => by rw [heldFrom, allFrom, List.filter_append, heldFrom_all B now n (i + 1)]
theorem heldL_all (B : Bk) (now : Int) : heldL B now = (allL B).filter fun h => !overT now h.f1 := heldFrom_all B now 16 0
def isD (id : SD) (h : SH) : Bool := h.f0.f0.f0 == id.f0 && h.f0.f0.f1 == id.f1
/-- The least end, and an error. -/
def untilG (L : List SH) (own : Int) : List SD → Int → Int × Int
  | [], m => (m, 0)
  | id :: t, m => if id.f0 = own then untilG L own t m else match L.find? (isD id) with
    | none => (0, 13)
    | some h => untilG L own t (if h.f1 < m then h.f1 else m)
def untilR (B : Bk) (ids : List SD) (now : Int) : Int × Int := untilG (heldL B now) B.own ids 1099511627776
def freshB (B : Bk) (d now : Int) : Bool := decide (d = B.own) || (decide (0 ≤ B.stamp d) && !overT now (addT (B.stamp d) 48))
def staleB (B : Bk) (ids : List SD) (now : Int) : Bool := ids.any fun id => !freshB B id.f0 now
/-- What a book keeps. -/
structure Good13 (B : Bk) : Prop where
  own : 1 ≤ B.own ∧ B.own ≤ 16
  stamp : ∀ d, B.stamp d = -1 ∨ (0 ≤ B.stamp d ∧ B.stamp d ≤ 1099511627776 ∧ 1 ≤ d ∧ d ≤ 16 ∧ d ≠ B.own)
  len : ∀ d, (B.held d).length ≤ 24
  away : ∀ d, B.held d ≠ [] → 1 ≤ d ∧ d ≤ 16 ∧ d ≠ B.own
  dom : ∀ d, ∀ h ∈ B.held d, h.f0.f0.f0 = d ∧ 0 ≤ h.f1 ∧ h.f1 ≤ 1099511627776
  one : ∀ d, (B.held d).Pairwise (fun x y => sameI x.f0 y.f0 = false)
theorem good0 {own : Int} (h : 1 ≤ own ∧ own ≤ 16) : Good13 (bk0 own) where
  own := h
  stamp _ := .inl rfl
  len _ := by show ([] : List SH).length ≤ 24; simp
  away _ h := absurd rfl h
  dom _ _ h := by cases h
  one _ := List.Pairwise.nil
theorem mayA_iff {B : Bk} {d asked : Int} : mayA B d asked = true ↔ d ≠ B.own ∧ (1 ≤ d ∧ d ≤ 16) ∧ 0 ≤ asked ∧ asked ≤ 1099511627776 := by unfold mayA; simp
theorem hearB_own (B : Bk) (d asked : Int) : (hearB B d asked).own = B.own := by unfold hearB; split <;> rfl
theorem hearB_held (B : Bk) (d asked : Int) : (hearB B d asked).held = B.held := by unfold hearB; split <;> rfl
theorem Good13.hear {B : Bk} (h : Good13 B) (d asked : Int) : Good13 (hearB B d asked) := by
  unfold hearB
  split
  case isFalse => exact h
  case isTrue hc =>
    have h1 := mayA_iff.1 hc.1
    exact ⟨h.own, fun x => by
      show (if x = d then asked else B.stamp x) = -1 ∨ _
      by_cases e : x = d
      · subst e
        refine .inr ?_
        show (0 ≤ if x = x then asked else _) ∧ (if x = x then asked else _) ≤ _ ∧ _
        rw [if_pos rfl]
        exact ⟨h1.2.2.1, h1.2.2.2, h1.2.1.1, h1.2.1.2, h1.1⟩
      · rw [if_neg e]
        rcases h.stamp x with h2 | h2
        · exact .inl h2
        · refine .inr ?_
          show (0 ≤ if x = d then asked else B.stamp x) ∧ (if x = d then asked else B.stamp x) ≤ _ ∧ _
          rw [if_neg e]
          exact h2, h.len, h.away, h.dom, h.one⟩
theorem addT_range (a b : Int) : 0 ≤ addT a b ∧ addT a b ≤ 1099511627776 := tickT_range _
theorem countsC_apart (l : List CS) : (countsC l).Pairwise (fun x y => sameI x y = false) := by
  have hs := selS_sorted' ltC_swo default l.length l (Nat.le_refl _)
  refine (ddO_sorted (sortC l) none hs).imp fun {x y} h => ?_
  rw [ltC_iff] at h
  refine Bool.eq_false_iff.2 fun h2 => ?_
  rw [sameI_iff] at h2
  omega
theorem givesC_apart (d asked : Int) (l : List CS) : (givesC d asked (countsC l)).Pairwise (fun x y => sameI x.f0 y.f0 = false) := by
  unfold givesC
  rw [List.pairwise_map]
  exact ((countsC_apart l).filter _)
theorem givesC_mem {d asked : Int} {l : List CS} {h : SH} (hh : h ∈ givesC d asked l) : h.f0 ∈ l ∧ h.f0.f0.f0 = d ∧ h.f1 = addT asked 56 := by
  unfold givesC at hh
  obtain ⟨c, hc, rfl⟩ := List.mem_map.1 hh
  rw [List.mem_filter] at hc
  exact ⟨hc.1, by simpa using hc.2, rfl⟩
theorem learn0 {B : Bk} {d : Int} {l : List CS} {asked : Int} (h : learnE B d l asked = 0) : mayA B d asked = true ∧ B.stamp d ≤ asked ∧ (givesC d asked (countsC l)).length ≤ 24 := by
  unfold learnE at h
  split at h
  · cases h
  · split at h
    · cases h
    · exact ⟨Classical.byContradiction fun hh => by simp_all, by omega, by omega⟩
theorem Good13.learn {B : Bk} (h : Good13 B) (d : Int) (l : List CS) (asked : Int) : Good13 (learnB B d l asked) := by
  unfold learnB
  split
  case isFalse => exact h
  case isTrue hc =>
    obtain ⟨h1, h2, h3⟩ := learn0 hc
    have h4 := mayA_iff.1 h1
    have hg := h.hear d asked
    have ho := hearB_own B d asked
    refine ⟨hg.own, hg.stamp, fun x => ?_, fun x hx => ?_, fun x y hy => ?_, fun x => ?_⟩
    · show (if x = d then _ else B.held x).length ≤ 24
      split
      · exact h3
      · exact h.len x
    · show 1 ≤ x ∧ x ≤ 16 ∧ x ≠ (hearB B d asked).own
      rw [ho]
      have hx' : (if x = d then givesC d asked (countsC l) else B.held x) ≠ [] := hx
      by_cases e : x = d
      · subst e; exact ⟨h4.2.1.1, h4.2.1.2, h4.1⟩
      · rw [if_neg e] at hx'; exact h.away x hx'
    · have hy' : y ∈ (if x = d then givesC d asked (countsC l) else B.held x) := hy
      by_cases e : x = d
      · subst e
        rw [if_pos rfl] at hy'
        obtain ⟨_, h5, h6⟩ := givesC_mem hy'
        rw [h6]
        exact ⟨h5, addT_range _ _⟩
      · rw [if_neg e] at hy'; exact h.dom x y hy'
    · show (if x = d then givesC d asked (countsC l) else B.held x).Pairwise _
      split
      · exact givesC_apart d asked l
      · exact h.one x
theorem allFrom_length {B : Bk} (h : Good13 B) : ∀ n i, (allFrom B n i).length ≤ n * 24
  | 0, i => by simp [allFrom]
  | n + 1, i => by
    rw [allFrom, List.length_append]
    have := h.len ((i + 1 : Nat) : Int)
    have := allFrom_length h n (i + 1)
    omega
theorem allL_length {B : Bk} (h : Good13 B) : (allL B).length ≤ 384 := allFrom_length h 16 0
theorem heldL_length {B : Bk} (h : Good13 B) (now : Int) : (heldL B now).length ≤ 384 := by
  rw [heldL_all]
  exact Nat.le_trans (List.length_filter_le _ _) (allL_length h)
theorem allFrom_mem {B : Bk} {x : SH} : ∀ n i, x ∈ allFrom B n i → ∃ d : Nat, i < d ∧ d ≤ i + n ∧ x ∈ B.held (d : Int)
  | 0, i, h => by cases h
  | n + 1, i, h => by
    rw [allFrom, List.mem_append] at h
    rcases h with h | h
    · exact ⟨i + 1, by omega, by omega, h⟩
    · obtain ⟨d, h1, h2, h3⟩ := allFrom_mem n (i + 1) h
      exact ⟨d, by omega, by omega, h3⟩
theorem allFrom_apart {B : Bk} (h : Good13 B) : ∀ n i, (allFrom B n i).Pairwise (fun x y => sameI x.f0 y.f0 = false)
  | 0, i => List.Pairwise.nil
  | n + 1, i => by
    rw [allFrom]
    refine List.pairwise_append.2 ⟨h.one _, allFrom_apart h n (i + 1), fun x hx y hy => ?_⟩
    obtain ⟨d, h1, h2, h3⟩ := allFrom_mem n (i + 1) hy
    have e1 := (h.dom _ x hx).1
    have e2 := (h.dom _ y h3).1
    refine Bool.eq_false_iff.2 fun h4 => ?_
    rw [sameI_iff] at h4
    omega
/-- Of those behind a place whose ID is found there is but one. -/
theorem heldL_apart {B : Bk} (h : Good13 B) (now : Int) : (heldL B now).Pairwise (fun x y => sameI x.f0 y.f0 = false) := by
  rw [heldL_all]
  exact (allFrom_apart h 16 0).filter _
theorem heldL_until {B : Bk} (h : Good13 B) (now : Int) : ∀ x ∈ heldL B now, 0 ≤ x.f1 ∧ x.f1 ≤ 1099511627776 := fun x hx => by
  rw [heldL_all, List.mem_filter] at hx
  obtain ⟨d, _, _, h3⟩ := allFrom_mem 16 0 hx.1
  exact (h.dom _ x h3).2
end Go.Proofs.YtpdcmdofojckdaaDoor.P
