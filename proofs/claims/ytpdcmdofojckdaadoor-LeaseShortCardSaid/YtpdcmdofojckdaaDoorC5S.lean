/- Plain law: credentials are sorted, and counted, as the document says. No program in sight. -/
import Derived.Test.YtpdcmdofojckdaaDoorC5M
import Derived.Test.YtpdcmdofojckdaaDoorHSorted
import Derived.Test.YtpdcmdofojckdaaDoorP21
set_option linter.unusedVariables false
namespace Go.Proofs.YtpdcmdofojckdaaDoor.Pure
open Go.RowKit Go.Sort Go.Proofs.YtpdcmdofojckdaaDoor.P Go.Proofs.YtpdcmdofojckdaaDoorW.PrintWords Go.Proofs.YtpdcmdofojckdaaDoorW.PrintLast
/-! ### of whatever order: stability -/
section
variable {β : Type} {lt : β → β → Bool}
theorem filter_erase_in (p : β → Bool) : ∀ (l : List β) (b : Nat) (x : β), l[b]? = some x → p x = true → (∀ j y, j < b → l[j]? = some y → p y = false) → l.filter p = x :: (l.eraseIdx b).filter p
  | [], b, x, h, _, _ => by simp at h
  | a :: l, 0, x, h, hp, _ => by
    simp only [List.getElem?_cons_zero, Option.some.injEq] at h
    subst h
    rw [List.filter_cons_of_pos hp]; rfl
  | a :: l, b + 1, x, h, hp, hn => by
    have ha : p a = false := hn 0 a (by omega) rfl
    have h1 : l[b]? = some x := by simpa using h
    rw [List.filter_cons_of_neg (by simp [ha]), List.eraseIdx_cons_succ, List.filter_cons_of_neg (by simp [ha])]
    exact filter_erase_in p l b x h1 hp fun j y hj hy => hn (j + 1) y (by omega) (by simpa using hy)
theorem filter_erase_out (p : β → Bool) : ∀ (l : List β) (b : Nat) (x : β), l[b]? = some x → p x = false → (l.eraseIdx b).filter p = l.filter p
  | [], b, x, h, _ => by simp at h
  | a :: l, 0, x, h, hp => by
    simp only [List.getElem?_cons_zero, Option.some.injEq] at h
    subst h
    rw [List.filter_cons_of_neg (by simp [hp])]; rfl
  | a :: l, b + 1, x, h, hp => by
    have h1 : l[b]? = some x := by simpa using h
    rw [List.eraseIdx_cons_succ]
    have ih := filter_erase_out p l b x h1 hp
    by_cases ha : p a = true
    · rw [List.filter_cons_of_pos ha, List.filter_cons_of_pos ha, ih]
    · rw [List.filter_cons_of_neg ha, List.filter_cons_of_neg ha, ih]
/-- Those of one class stay in their order. -/
theorem selS_filter (h : SWO lt) (z : β) (p : β → Bool) (hp : ∀ x y, p x = true → p y = true → lt x y = false) : ∀ (f : Nat) (l : List β), l.length ≤ f → (selS lt z f l).filter p = l.filter p
  | 0, l, hf => by
    obtain rfl : l = [] := List.eq_nil_of_length_eq_zero (by omega)
    rfl
  | f + 1, l, hf => by
    unfold selS
    by_cases hl : l = []
    · subst hl; rfl
    · rw [if_neg hl]
      obtain ⟨h1, h2, h3⟩ := leastI_first h z hl
      obtain ⟨b, eb⟩ : ∃ b, leastI lt z l l.length 1 0 = b := ⟨_, rfl⟩
      rw [eb] at h1 h2 h3 ⊢
      have hx : l[b]? = some (l.getD b z) := by rw [List.getD_eq_getElem?_getD, List.getElem?_eq_getElem h1]; rfl
      have ih := selS_filter h z p hp f (l.eraseIdx b) (by rw [List.length_eraseIdx]; split <;> omega)
      by_cases hpx : p (l.getD b z) = true
      · rw [List.filter_cons_of_pos hpx, ih]
        refine (filter_erase_in p l b _ hx hpx fun j y hj hy => ?_).symm
        cases hpy : p y with
        | false => rfl
        | true =>
          have h4 := h3 j hj
          rw [show l.getD j z = y by rw [List.getD_eq_getElem?_getD, hy]; rfl, hp _ _ hpx hpy] at h4
          cases h4
      · rw [List.filter_cons_of_neg hpx, ih, filter_erase_out p l b _ hx (by simpa using hpx)]
theorem selS_sorted' (h : SWO lt) (z : β) : ∀ (f : Nat) (l : List β), l.length ≤ f → (selS lt z f l).Pairwise (fun x y => lt y x = false)
  | 0, l, hf => by simp [selS]
  | f + 1, l, hf => by
    unfold selS
    by_cases hl : l = []
    · rw [if_pos hl]; exact List.Pairwise.nil
    · rw [if_neg hl]
      obtain ⟨h1, h2, h3⟩ := leastI_first h z hl
      obtain ⟨b, eb⟩ : ∃ b, leastI lt z l l.length 1 0 = b := ⟨_, rfl⟩
      rw [eb] at h1 h2 h3 ⊢
      have hlen : (l.eraseIdx b).length ≤ f := by rw [List.length_eraseIdx]; split <;> omega
      refine List.Pairwise.cons (fun y hy => ?_) (selS_sorted' h z f _ hlen)
      have hy2 : y ∈ l := List.mem_of_mem_eraseIdx ((selS_perm h z f _ hlen).mem_iff.1 hy)
      obtain ⟨j, hj, rfl⟩ := List.getElem_of_mem hy2
      have := h2 j hj
      rwa [show l.getD j z = l[j] by rw [List.getD_eq_getElem?_getD, List.getElem?_eq_getElem hj]; rfl] at this
end
/-! ### credentials that count -/
abbrev CS := S40
/-- Of one ID. -/
def sameI (x y : CS) : Bool := decide (x.f0.f0 = y.f0.f0 ∧ x.f0.f1 = y.f0.f1)
theorem sameI_iff {x y : CS} : sameI x y = true ↔ x.f0.f0 = y.f0.f0 ∧ x.f0.f1 = y.f0.f1 := by unfold sameI; simp
theorem ltC_iff {x y : CS} : ltC x y = true ↔ x.f0.f0 < y.f0.f0 ∨ (x.f0.f0 = y.f0.f0 ∧ x.f0.f1 < y.f0.f1) := by unfold ltC; simp
theorem ltC_false {x y : CS} : ltC x y = false ↔ ¬ (x.f0.f0 < y.f0.f0 ∨ (x.f0.f0 = y.f0.f0 ∧ x.f0.f1 < y.f0.f1)) := by unfold ltC; simp
def mayC (x : CS) : Bool := credB x.f0.f0 x.f0.f1 x.f1 x.f2 x.f3 x.f4.f0 x.f4.f1 x.f5.f0 x.f5.f1
/-- The program's way: one behind the other, if it isn't of the last one's ID. -/
def ddO : Option CS → List CS → List CS
  | _, [] => []
  | o, c :: t => if mayC c = true ∧ (∀ a, o = some a → sameI a c = false) then c :: ddO (some c) t else ddO o t
/-- The document's way: those whose ID isn't there yet. -/
def nubC : List CS → List CS → List CS
  | out, [] => out
  | out, c :: t => if mayC c = true ∧ (∀ a ∈ out, sameI a c = false) then nubC (out ++ [c]) t else nubC out t
/-- The first that may be, of an ID. -/
def firstC (l : List CS) (x : CS) : Prop := (l.filter fun y => mayC y && sameI x y).head? = some x
theorem firstC_mem {l : List CS} {x : CS} (h : firstC l x) : x ∈ l ∧ mayC x = true := by
  have := List.mem_of_head? h
  rw [List.mem_filter] at this
  exact ⟨this.1, by simp only [Bool.and_eq_true] at this; exact this.2.1⟩
theorem firstC_yes {c x : CS} {t : List CS} (h : mayC c = true) (hs : sameI x c = true) : firstC (c :: t) x ↔ c = x := by
  unfold firstC
  rw [List.filter_cons_of_pos (by simp [h, hs])]
  simp
theorem firstC_no {c x : CS} {t : List CS} (h : ¬ (mayC c = true ∧ sameI x c = true)) : firstC (c :: t) x ↔ firstC t x := by
  unfold firstC
  rw [List.filter_cons_of_neg (by simpa using h)]
theorem mem_ddO : ∀ (S : List CS) (o : Option CS) (x : CS), S.Pairwise (fun x y => ltC y x = false) → (∀ a, o = some a → ∀ s ∈ S, ltC s a = false) → (x ∈ ddO o S ↔ firstC S x ∧ ∀ a, o = some a → sameI a x = false)
  | [], o, x, _, _ => by simp [ddO, firstC]
  | c :: t, o, x, hS, ho => by
    obtain ⟨hc, ht⟩ := List.pairwise_cons.1 hS
    rw [ddO]
    by_cases hm : mayC c = true
    · by_cases hq : ∀ a, o = some a → sameI a c = false
      · rw [if_pos ⟨hm, hq⟩, List.mem_cons, mem_ddO t (some c) x ht (fun a ha s hs => by cases ha; exact hc s hs)]
        by_cases hx : sameI x c = true
        · rw [firstC_yes hm hx]
          constructor
          · rintro (rfl | ⟨_, h2⟩)
            · exact ⟨rfl, hq⟩
            · have := h2 c rfl
              rw [sameI_iff] at hx
              exact absurd (sameI_iff.2 ⟨hx.1.symm, hx.2.symm⟩) (by rw [this]; exact Bool.false_ne_true)
          · rintro ⟨rfl, _⟩
            exact .inl rfl
        · rw [firstC_no (fun h => hx h.2)]
          constructor
          · rintro (rfl | ⟨h1, _⟩)
            · exact absurd (sameI_iff.2 ⟨rfl, rfl⟩) hx
            · refine ⟨h1, fun a ha => ?_⟩
              have h2 := ho a ha c List.mem_cons_self
              have h3 := hc x (firstC_mem h1).1
              have h4 := hq a ha
              have h5 : ¬ (sameI a c = true) := by rw [h4]; exact Bool.false_ne_true
              rw [sameI_iff] at h5 hx
              rw [ltC_false] at h2 h3
              refine Bool.eq_false_iff.2 fun h6 => ?_
              rw [sameI_iff] at h6
              omega
          · rintro ⟨h1, _⟩
            refine .inr ⟨h1, fun a ha => ?_⟩
            cases ha
            refine Bool.eq_false_iff.2 fun h6 => hx ?_
            rw [sameI_iff] at h6 ⊢
            omega
      · rw [if_neg (fun h => hq h.2), mem_ddO t o x ht (fun a ha s hs => ho a ha s (List.mem_cons_of_mem _ hs))]
        obtain ⟨a, ha, hac⟩ : ∃ a, o = some a ∧ sameI a c = true := Classical.byContradiction fun h => hq fun a ha => by
          cases h2 : sameI a c with
          | false => rfl
          | true => exact absurd ⟨a, ha, h2⟩ h
        by_cases hx : sameI x c = true
        · have h7 : sameI a x = true := by
            rw [sameI_iff] at hx hac ⊢
            omega
          have h8 : ¬ ∀ a, o = some a → sameI a x = false := fun h => by
            have := h a ha
            rw [h7] at this
            cases this
          exact ⟨fun h => absurd h.2 h8, fun h => absurd h.2 h8⟩
        · rw [firstC_no (fun h => hx h.2)]
    · rw [if_neg (fun h => hm h.1), mem_ddO t o x ht (fun a ha s hs => ho a ha s (List.mem_cons_of_mem _ hs)), firstC_no (fun h => hm h.1)]
theorem ddO_sorted : ∀ (S : List CS) (o : Option CS), S.Pairwise (fun x y => ltC y x = false) → (ddO o S).Pairwise (fun x y => ltC x y = true)
  | [], o, _ => List.Pairwise.nil
  | c :: t, o, hS => by
    obtain ⟨hc, ht⟩ := List.pairwise_cons.1 hS
    rw [ddO]
    split
    · refine List.Pairwise.cons (fun y hy => ?_) (ddO_sorted t (some c) ht)
      have h1 := (mem_ddO t (some c) y ht (fun a ha s hs => by cases ha; exact hc s hs)).1 hy
      have h2 := hc y (firstC_mem h1.1).1
      have h3 := h1.2 c rfl
      have h4 : ¬ (sameI c y = true) := by rw [h3]; exact Bool.false_ne_true
      rw [sameI_iff] at h4
      rw [ltC_false] at h2
      rw [ltC_iff]
      omega
    · exact ddO_sorted t o ht
theorem mem_nubC : ∀ (l out : List CS) (x : CS), x ∈ nubC out l ↔ x ∈ out ∨ ((∀ a ∈ out, sameI a x = false) ∧ firstC l x)
  | [], out, x => by simp [nubC, firstC]
  | c :: t, out, x => by
    rw [nubC]
    by_cases hm : mayC c = true
    · by_cases hq : ∀ a ∈ out, sameI a c = false
      · rw [if_pos ⟨hm, hq⟩, mem_nubC t (out ++ [c]) x]
        simp only [List.mem_append, List.mem_singleton]
        by_cases hx : sameI x c = true
        · rw [firstC_yes hm hx]
          have h1 : sameI c x = true := by rw [sameI_iff] at hx ⊢; omega
          constructor
          · rintro ((h | rfl) | ⟨h, _⟩)
            · exact .inl h
            · exact .inr ⟨hq, rfl⟩
            · rw [h c (.inr rfl)] at h1; cases h1
          · rintro (h | ⟨_, rfl⟩)
            · exact .inl (.inl h)
            · exact .inl (.inr rfl)
        · rw [firstC_no (fun h => hx h.2)]
          have h1 : sameI c x = false := Bool.eq_false_iff.2 fun h => hx (by rw [sameI_iff] at h ⊢; omega)
          constructor
          · rintro ((h | rfl) | ⟨h, h2⟩)
            · exact .inl h
            · exact absurd (sameI_iff.2 ⟨rfl, rfl⟩) hx
            · exact .inr ⟨fun a ha => h a (.inl ha), h2⟩
          · rintro (h | ⟨h, h2⟩)
            · exact .inl (.inl h)
            · exact .inr ⟨fun a ha => ha.elim (h a) (fun e => by rw [e]; exact h1), h2⟩
      · rw [if_neg (fun h => hq h.2), mem_nubC t out x]
        obtain ⟨a, ha, hac⟩ : ∃ a, a ∈ out ∧ sameI a c = true := Classical.byContradiction fun h => hq fun a ha => by
          cases h2 : sameI a c with
          | false => rfl
          | true => exact absurd ⟨a, ha, h2⟩ h
        by_cases hx : sameI x c = true
        · have h7 : sameI a x = true := by rw [sameI_iff] at hx hac ⊢; omega
          have h8 : ¬ ∀ a ∈ out, sameI a x = false := fun h => by
            have := h a ha
            rw [h7] at this
            cases this
          exact ⟨fun h => h.elim .inl fun h => absurd h.1 h8, fun h => h.elim .inl fun h => absurd h.1 h8⟩
        · rw [firstC_no (fun h => hx h.2)]
    · rw [if_neg (fun h => hm h.1), mem_nubC t out x, firstC_no (fun h => hm h.1)]
theorem nubC_apart : ∀ (l out : List CS), out.Pairwise (fun x y => sameI x y = false) → (nubC out l).Pairwise (fun x y => sameI x y = false)
  | [], out, h => h
  | c :: t, out, h => by
    rw [nubC]
    split
    case isTrue hc =>
      refine nubC_apart t _ (List.pairwise_append.2 ⟨h, List.pairwise_singleton _ _, fun a ha b hb => ?_⟩)
      rw [List.mem_singleton.1 hb]
      exact hc.2 a ha
    case isFalse => exact nubC_apart t out h
theorem firstC_sort (l : List CS) (x : CS) : firstC (sortC l) x ↔ firstC l x := by
  unfold firstC
  have : (sortC l).filter (fun y => mayC y && sameI x y) = l.filter (fun y => mayC y && sameI x y) :=
    selS_filter ltC_swo default _ (fun a b ha hb => by
      simp only [Bool.and_eq_true] at ha hb
      have h1 := sameI_iff.1 ha.2
      have h2 := sameI_iff.1 hb.2
      rw [ltC_false]
      omega) l.length l (Nat.le_refl _)
  rw [this]
/-- Both ways come to the same. -/
theorem counts_eq (l : List CS) : ddO none (sortC l) = sortC (nubC [] l) := by
  have hs := selS_sorted' ltC_swo default l.length l (Nat.le_refl _)
  have hsn := selS_sorted' ltC_swo default (nubC [] l).length (nubC [] l) (Nat.le_refl _)
  have hpn := selS_perm ltC_swo default (nubC [] l).length (nubC [] l) (Nat.le_refl _)
  have h1 := ddO_sorted (sortC l) none hs
  have hap := nubC_apart l [] List.Pairwise.nil
  have hap2 : (sortC (nubC [] l)).Pairwise (fun x y => sameI x y = false) := hpn.symm.pairwise hap (fun {x y} h => Bool.eq_false_iff.2 fun h2 => by
    rw [sameI_iff] at h2
    have h3 : sameI x y = true := sameI_iff.2 ⟨h2.1.symm, h2.2.symm⟩
    rw [h] at h3
    cases h3)
  have h2 : (sortC (nubC [] l)).Pairwise (fun x y => ltC x y = true) := (List.pairwise_and_iff.2 ⟨hsn, hap2⟩).imp fun {x y} h => by
    have h4 : ¬ (sameI x y = true) := by rw [h.2]; exact Bool.false_ne_true
    rw [sameI_iff] at h4
    have h5 := h.1
    rw [ltC_false] at h5
    rw [ltC_iff]
    omega
  have nd : ∀ {L : List CS}, L.Pairwise (fun x y => ltC x y = true) → L.Nodup := fun h => h.imp fun {x y} h e => by
    subst e
    rw [ltC_swo.irrefl] at h
    cases h
  refine List.Perm.eq_of_pairwise (le := fun x y => ltC x y = true) (fun a b _ _ h3 h4 => ?_) h1 h2 ((List.perm_ext_iff_of_nodup (nd h1) (nd h2)).2 fun x => ?_)
  · have := ltC_swo.trans _ _ _ h3 h4
    rw [ltC_swo.irrefl] at this
    cases this
  · rw [show x ∈ sortC (nubC [] l) ↔ x ∈ nubC [] l from hpn.mem_iff, mem_nubC, mem_ddO (sortC l) none x hs (fun a ha => by cases ha), firstC_sort]
    simp
theorem ddO_length : ∀ (S : List CS) (o : Option CS), (ddO o S).length ≤ S.length
  | [], o => by simp [ddO]
  | c :: t, o => by
    rw [ddO]
    split
    · have := ddO_length t (some c); simp; omega
    · have := ddO_length t o; simp; omega
/-! ### the printed functions -/
theorem sortC_length (l : List CS) : (sortC l).length = l.length := (selS_perm ltC_swo default l.length l (Nat.le_refl _)).length_eq
theorem before_eq (x y : CS) : liveryref05_Before.f x.f0.f0 x.f0.f1 y.f0.f0 y.f0.f1 = some (ltC x y) := by
  unfold liveryref05_Before.f ltC
  split
  · congr 1; apply decide_eq_decide.2; omega
  · congr 1; apply decide_eq_decide.2; omega
theorem w1 {i : Nat} (h : i < 4611686018427387904) : wrap64 ((i : Int) + 1) = ((i + 1 : Nat) : Int) := by unfold wrap64; omega
theorem rd_nat (l : List CS) (i : Nat) : rd_T40 l (i : Int) = l.getD i default := rfl
theorem sorted_l1 (x0 x3 : List CS) (hL : x0.length < 4611686018427387904) : ∀ (n i b k : Nat), x0.length - i = n → b < x0.length → i ≤ x0.length → n < k →
    liveryref05_Sorted.l1 k x0 x3 (b : Int) (i : Int) = liveryref05_Sorted.l1 (k - n) x0 x3 ((leastI ltC default x0 n i b : Nat) : Int) (x0.length : Int)
  | 0, i, b, k, hn, hb, hi, hk => by
    obtain rfl : i = x0.length := by omega
    rfl
  | n + 1, i, b, k, hn, hb, hi, hk => by
    obtain ⟨k, rfl⟩ : ∃ m, k = m + 1 := ⟨k - 1, by omega⟩
    have h1 : i < x0.length := by omega
    rw [show k + 1 - (n + 1) = k - n by omega, leastI, if_pos h1]
    rw [liveryref05_Sorted.l1, if_pos (by omega), if_pos (by omega), if_pos (by omega), if_pos (by omega), rd_nat, rd_nat, before_eq, Option.bind_some, w1 (by omega)]
    split
    · exact sorted_l1 x0 x3 hL n (i + 1) i k (by omega) h1 (by omega) (by omega)
    · exact sorted_l1 x0 x3 hL n (i + 1) b k (by omega) hb (by omega) (by omega)
theorem sorted_l0 : ∀ (n k : Nat) (x0 x3 : List CS), x0.length = n → n + x3.length ≤ 1000000 → (n + 1) * (n + 1) < k → liveryref05_Sorted.l0 k x0 x3 = some (x3 ++ selS ltC default n x0)
  | 0, k, x0, x3, hn, hl, hk => by
    obtain rfl : x0 = [] := List.eq_nil_of_length_eq_zero hn
    obtain ⟨k, rfl⟩ : ∃ m, k = m + 1 := ⟨k - 1, by omega⟩
    rw [liveryref05_Sorted.l0, if_neg (by simp)]
    simp [selS]
  | n + 1, k, x0, x3, hn, hl, hk => by
    have hk2 : n * n + 4 * n + 4 < k := by
      have : (n + 1 + 1) * (n + 1 + 1) = n * n + 4 * n + 4 := by
        simp only [Nat.add_mul, Nat.mul_add]; omega
      omega
    obtain ⟨k, rfl⟩ : ∃ m, k = m + 1 := ⟨k - 1, by omega⟩
    have hne : x0 ≠ [] := fun e => by rw [e] at hn; simp at hn
    have hnn : n ≤ n * n + n := Nat.le_add_left _ _
    rw [liveryref05_Sorted.l0, if_pos (by omega)]
    have h1 := sorted_l1 x0 x3 (by omega) n 1 0 k (by omega) (by omega) (by omega) (by omega)
    rw [show ((0 : Nat) : Int) = 0 from rfl, show ((1 : Nat) : Int) = 1 from rfl] at h1
    rw [h1]
    have hle : leastI ltC default x0 n 1 0 = leastI ltC default x0 x0.length 1 0 := by
      rw [hn]
      exact (leastI_fuel x0 n (n + 1) 1 0 (by omega) (by omega)).symm
    rw [hle]
    obtain ⟨hb, _, _⟩ := leastI_first ltC_swo default hne
    rw [show selS ltC default (n + 1) x0 = x0.getD (leastI ltC default x0 x0.length 1 0) default :: selS ltC default n (x0.eraseIdx (leastI ltC default x0 x0.length 1 0)) by rw [selS, if_neg hne]]
    generalize leastI ltC default x0 x0.length 1 0 = b at hb ⊢
    obtain ⟨m, hm⟩ : ∃ m, k - n = m + 1 := ⟨k - n - 1, by omega⟩
    have hmm : (n + 1) * (n + 1) < m := by
      have : (n + 1) * (n + 1) = n * n + 2 * n + 1 := by simp only [Nat.add_mul, Nat.mul_add]; omega
      omega
    have he : (x0.take b ++ x0.drop (b + 1)) = x0.eraseIdx b := (List.eraseIdx_eq_take_drop_succ x0 b).symm
    rw [hm, liveryref05_Sorted.l1, if_neg (by omega), if_pos (by omega), if_pos (by omega), if_pos (by omega), if_pos (by omega), Option.bind_some, w1 (by omega)]
    rw [show ((b : Nat) : Int).toNat = b by omega, show (((b + 1 : Nat) : Int)).toNat = b + 1 by omega]
    rw [if_pos (by simp only [List.length_nil, List.length_take]; omega), Option.bind_some, if_pos (by omega), if_pos (by omega), Option.bind_some, if_pos (by simp only [List.nil_append, List.length_take, List.length_drop]; omega), List.nil_append, he, rd_nat]
    have hlen : (x0.eraseIdx b).length = n := by rw [List.length_eraseIdx, if_pos hb]; omega
    rw [sorted_l0 n m (x0.eraseIdx b) _ hlen (by rw [List.length_append, List.length_singleton]; omega) hmm, List.append_assoc]
    rfl
where
  leastI_fuel (x0 : List CS) : ∀ (f g i b : Nat), x0.length - i ≤ f → f ≤ g → leastI ltC default x0 g i b = leastI ltC default x0 f i b
    | 0, 0, i, b, _, _ => rfl
    | 0, g + 1, i, b, h1, h2 => by
      show leastI ltC default x0 (g + 1) i b = b
      unfold leastI
      rw [if_neg (by omega)]
    | f + 1, g + 1, i, b, h1, h2 => by
      rw [leastI, leastI]
      split
      · exact leastI_fuel x0 f g (i + 1) _ (by omega) (by omega)
      · rfl
theorem ref05_Sorted_eq (k : Nat) (l : List CS) (hl : l.length ≤ 40) (hk : 1681 < k) : liveryref05_Sorted.f k l = some (sortC l) := by
  unfold liveryref05_Sorted.f
  have : (l.length + 1) * (l.length + 1) ≤ 41 * 41 := Nat.mul_le_mul (by omega) (by omega)
  rw [sorted_l0 l.length k l [] rfl (by simp; omega) (by omega)]
  rfl
end Go.Proofs.YtpdcmdofojckdaaDoor.Pure
