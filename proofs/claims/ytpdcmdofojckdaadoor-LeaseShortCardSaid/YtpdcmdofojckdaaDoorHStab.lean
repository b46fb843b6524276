/- Sorted lists of which equals stay in their order are one: the stable sort of at most 40, and the least ones again and again. Plain Lean. -/
import Derived.Test.YtpdcmdofojckdaaDoorHSym
set_option linter.unusedVariables false
set_option linter.unusedSimpArgs false
namespace Go.Sort
section
variable {β : Type} {lt : β → β → Bool}
def byTag (lt : β → β → Bool) (x y : β × Nat) : Bool := lt x.1 y.1 || (!lt y.1 x.1 && decide (x.2 < y.2))
theorem byTag_false {x y : β × Nat} : byTag lt x y = false ↔ lt x.1 y.1 = false ∧ (lt y.1 x.1 = true ∨ y.2 ≤ x.2) := by
  unfold byTag
  cases lt x.1 y.1 <;> cases lt y.1 x.1 <;> simp
theorem byTag_true {x y : β × Nat} : byTag lt x y = true ↔ lt x.1 y.1 = true ∨ (lt y.1 x.1 = false ∧ x.2 < y.2) := by
  unfold byTag
  cases lt x.1 y.1 <;> cases lt y.1 x.1 <;> simp
theorem byTag_swo (h : SWO lt) : SWO (byTag lt) where
  irrefl x := byTag_false.2 ⟨h.irrefl _, .inr (Nat.le_refl _)⟩
  trans x y z h1 h2 := by
    rw [byTag_true] at h1 h2 ⊢
    rcases h1 with h1 | ⟨h1, h1'⟩
    · rcases h2 with h2 | ⟨h2, h2'⟩
      · exact .inl (h.trans _ _ _ h1 h2)
      · refine .inl ?_
        cases hxz : lt x.1 z.1 with
        | true => rfl
        | false => have := h.ntrans _ _ _ hxz h2; rw [h1] at this; cases this
    · rcases h2 with h2 | ⟨h2, h2'⟩
      · refine .inl ?_
        cases hxz : lt x.1 z.1 with
        | true => rfl
        | false => have := h.ntrans _ _ _ h1 hxz; rw [h2] at this; cases this
      · exact .inr ⟨h.ntrans _ _ _ h2 h1, by omega⟩
  ntrans x y z h1 h2 := by
    rw [byTag_false] at h1 h2 ⊢
    obtain ⟨a1, b1⟩ := h1
    obtain ⟨a2, b2⟩ := h2
    refine ⟨h.ntrans _ _ _ a1 a2, ?_⟩
    rcases b1 with b1 | b1
    · refine .inl ?_
      cases hzx : lt z.1 x.1 with
      | true => rfl
      | false => have := h.ntrans _ _ _ a2 hzx; rw [b1] at this; cases this
    · rcases b2 with b2 | b2
      · refine .inl ?_
        cases hzx : lt z.1 x.1 with
        | true => rfl
        | false => have := h.ntrans _ _ _ hzx a1; rw [b2] at this; cases this
      · exact .inr (by omega)
theorem tag_unique (h : SWO lt) {l1 l2 l : List (β × Nat)} (hl : ∀ x ∈ l, ∀ y ∈ l, x.2 = y.2 → x = y) (p1 : l1.Perm l) (p2 : l2.Perm l) (s1 : l1.Pairwise (fun x y => byTag lt y x = false)) (s2 : l2.Pairwise (fun x y => byTag lt y x = false)) : l1 = l2 := by
  refine List.Perm.eq_of_pairwise (le := fun x y => byTag lt y x = false) ?_ s1 s2 (p1.trans p2.symm)
  intro a b ha hb h1 h2
  have ha' := p1.mem_iff.1 ha
  have hb' := p2.mem_iff.1 hb
  rw [byTag_false] at h1 h2
  refine hl a ha' b hb' ?_
  rcases h1.2 with h3 | h3
  · rw [h2.1] at h3; cases h3
  · rcases h2.2 with h4 | h4
    · rw [h1.1] at h4; cases h4
    · omega
def tags : Nat → List β → List (β × Nat)
  | _, [] => []
  | k, x :: l => (x, k) :: tags (k + 1) l
theorem tags_fst : ∀ (k : Nat) (l : List β), (tags k l).map Prod.fst = l
  | _, [] => rfl
  | k, x :: l => by simp [tags, tags_fst (k + 1) l]
theorem tags_length (k : Nat) (l : List β) : (tags k l).length = l.length := by
  have := congrArg List.length (tags_fst k l)
  simpa using this
theorem tags_ge : ∀ (k : Nat) (l : List β), ∀ x ∈ tags k l, k ≤ x.2
  | _, [], x, hx => by simp [tags] at hx
  | k, y :: l, x, hx => by
    rcases List.mem_cons.1 hx with rfl | hx
    · exact Nat.le_refl _
    · have := tags_ge (k + 1) l x hx; omega
theorem tags_rise : ∀ (k : Nat) (l : List β), (tags k l).Pairwise (fun x y => x.2 < y.2)
  | _, [] => List.Pairwise.nil
  | k, x :: l => List.Pairwise.cons (fun y hy => by have := tags_ge (k + 1) l y hy; simp only; omega) (tags_rise (k + 1) l)
theorem rise_inj {l : List (β × Nat)} (h : l.Pairwise (fun x y => x.2 < y.2)) : ∀ x ∈ l, ∀ y ∈ l, x.2 = y.2 → x = y := by
  induction l with
  | nil => intro x hx; simp at hx
  | cons z l ih =>
    have h1 := List.pairwise_cons.1 h
    intro x hx y hy e
    rcases List.mem_cons.1 hx with hx2 | hx2
    · rcases List.mem_cons.1 hy with hy2 | hy2
      · rw [hx2, hy2]
      · have := h1.1 y hy2; rw [hx2] at e; omega
    · rcases List.mem_cons.1 hy with hy2 | hy2
      · have := h1.1 x hx2; rw [hy2] at e; omega
      · exact ih h1.2 x hx2 y hy2 e
def leastI (lt : β → β → Bool) (z : β) (l : List β) : Nat → Nat → Nat → Nat
  | 0, _, b => b
  | f + 1, i, b => if i < l.length then leastI lt z l f (i + 1) (if lt (l.getD i z) (l.getD b z) = true then i else b) else b
theorem leastI_spec (h : SWO lt) (z : β) (l : List β) : ∀ (f i b : Nat), l.length - i ≤ f → b < i → i ≤ l.length → (∀ j, j < i → lt (l.getD j z) (l.getD b z) = false) → (∀ j, j < b → lt (l.getD b z) (l.getD j z) = true) →
    leastI lt z l f i b < l.length ∧ (∀ j, j < l.length → lt (l.getD j z) (l.getD (leastI lt z l f i b) z) = false) ∧ (∀ j, j < leastI lt z l f i b → lt (l.getD (leastI lt z l f i b) z) (l.getD j z) = true)
  | 0, i, b, hf, h1, h2, h3, h4 => by
    rw [leastI]
    exact ⟨by omega, fun j hj => h3 j (by omega), h4⟩
  | f + 1, i, b, hf, h1, h2, h3, h4 => by
    rw [leastI]
    by_cases hi : i < l.length
    · rw [if_pos hi]
      by_cases hc : lt (l.getD i z) (l.getD b z) = true
      · rw [if_pos hc]
        have key : ∀ j, j < i → lt (l.getD i z) (l.getD j z) = true := fun j hj => by
          cases hx : lt (l.getD i z) (l.getD j z) with
          | true => rfl
          | false => have := h.ntrans _ _ _ hx (h3 j hj); rw [hc] at this; cases this
        refine leastI_spec h z l f (i + 1) i (by omega) (by omega) (by omega) (fun j hj => ?_) key
        by_cases e : j = i
        · subst e; exact h.irrefl _
        · cases hx : lt (l.getD j z) (l.getD i z) with
          | false => rfl
          | true => have := h.trans _ _ _ (key j (by omega)) hx; rw [h.irrefl] at this; cases this
      · rw [if_neg hc]
        refine leastI_spec h z l f (i + 1) b (by omega) (by omega) (by omega) (fun j hj => ?_) h4
        by_cases e : j = i
        · subst e; simpa using hc
        · exact h3 j (by omega)
    · rw [if_neg hi]
      exact ⟨by omega, fun j hj => h3 j (by omega), h4⟩
def selS (lt : β → β → Bool) (z : β) : Nat → List β → List β
  | 0, _ => []
  | f + 1, l => if l = [] then [] else l.getD (leastI lt z l l.length 1 0) z :: selS lt z f (l.eraseIdx (leastI lt z l l.length 1 0))
theorem leastI_first (h : SWO lt) (z : β) {l : List β} (hl : l ≠ []) : leastI lt z l l.length 1 0 < l.length ∧ (∀ j, j < l.length → lt (l.getD j z) (l.getD (leastI lt z l l.length 1 0) z) = false) ∧ (∀ j, j < leastI lt z l l.length 1 0 → lt (l.getD (leastI lt z l l.length 1 0) z) (l.getD j z) = true) := by
  have h0 : 0 < l.length := List.length_pos_iff.2 hl
  have hz : ∀ j, j < 1 → lt (l.getD j z) (l.getD 0 z) = false := fun j hj => by
    obtain rfl : j = 0 := by omega
    exact h.irrefl _
  exact leastI_spec h z l l.length 1 0 (by omega) (by omega) (by omega) hz (fun j hj => by omega)
theorem cons_erase_perm : ∀ (l : List β) (k : Nat) (h : k < l.length), (l[k] :: l.eraseIdx k).Perm l
  | [], k, h => by simp at h
  | x :: l, 0, h => by simp
  | x :: l, k + 1, h => by
    simp only [List.getElem_cons_succ, List.eraseIdx_cons_succ]
    exact (List.Perm.swap _ _ _).trans (List.Perm.cons _ (cons_erase_perm l k (by simpa using h)))
theorem selS_perm (h : SWO lt) (z : β) : ∀ (f : Nat) (l : List β), l.length ≤ f → (selS lt z f l).Perm l
  | 0, l, hf => by
    have : l = [] := List.eq_nil_of_length_eq_zero (by omega)
    subst this
    exact List.Perm.refl _
  | f + 1, l, hf => by
    rw [selS]
    by_cases hl : l = []
    · rw [if_pos hl, hl]
    · rw [if_neg hl]
      obtain ⟨h1, _, _⟩ := leastI_first h z hl
      obtain ⟨k, ek⟩ : ∃ k, leastI lt z l l.length 1 0 = k := ⟨_, rfl⟩
      rw [ek] at h1 ⊢
      have h2 := selS_perm h z f (l.eraseIdx k) (by rw [List.length_eraseIdx, if_pos h1]; omega)
      have h3 : l.getD k z = l[k] := by rw [List.getD_eq_getElem?_getD, List.getElem?_eq_getElem h1]; rfl
      rw [h3]
      exact (List.Perm.cons _ h2).trans (cons_erase_perm l k h1)
theorem selS_sorted (h : SWO lt) (z : β × Nat) : ∀ (f : Nat) (l : List (β × Nat)), l.length ≤ f → l.Pairwise (fun x y => x.2 < y.2) → (selS (fun x y => lt x.1 y.1) z f l).Pairwise (fun x y => byTag lt y x = false)
  | 0, _, _, _ => List.Pairwise.nil
  | f + 1, l, hf, hr => by
    have h' : SWO (fun x y : β × Nat => lt x.1 y.1) := ⟨fun x => h.irrefl _, fun x y z => h.trans _ _ _, fun x y z => h.ntrans _ _ _⟩
    rw [selS]
    by_cases hl : l = []
    · rw [if_pos hl]; exact List.Pairwise.nil
    · rw [if_neg hl]
      obtain ⟨h1, h2, h3⟩ := leastI_first h' z hl
      obtain ⟨k, ek⟩ : ∃ k, leastI (fun x y : β × Nat => lt x.1 y.1) z l l.length 1 0 = k := ⟨_, rfl⟩
      rw [ek] at h1 h2 h3 ⊢
      have hlen : (l.eraseIdx k).length ≤ f := by rw [List.length_eraseIdx, if_pos h1]; omega
      refine List.Pairwise.cons (fun y hy => ?_) (selS_sorted h z f _ hlen (hr.sublist (List.eraseIdx_sublist l k)))
      have hy2 : y ∈ l.eraseIdx k := (selS_perm h' z f _ hlen).mem_iff.1 hy
      obtain ⟨j, hj, hjk, rfl⟩ : ∃ j, ∃ hj : j < l.length, j ≠ k ∧ l[j] = y := by
        rw [List.mem_eraseIdx_iff_getElem] at hy2
        obtain ⟨j, hj, h4, h5⟩ := hy2
        exact ⟨j, hj, h4, h5⟩
      have e1 : l.getD j z = l[j] := by rw [List.getD_eq_getElem?_getD, List.getElem?_eq_getElem hj]; rfl
      have e2 : l.getD k z = l[k] := by rw [List.getD_eq_getElem?_getD, List.getElem?_eq_getElem h1]; rfl
      have g2 := h2 j hj
      rw [e1, e2] at g2
      rw [e2, byTag_false]
      refine ⟨g2, ?_⟩
      rcases Nat.lt_or_ge j k with hlt | hge
      · have g3 := h3 j hlt
        rw [e1, e2] at g3
        exact .inl g3
      · have := (List.pairwise_iff_getElem.1 hr) k j h1 hj (by omega)
        exact .inr (by omega)
theorem leastI_map {γ : Type} (g : γ → β) (z : γ) (l : List γ) : ∀ (f i b : Nat), leastI lt (g z) (l.map g) f i b = leastI (fun x y => lt (g x) (g y)) z l f i b
  | 0, _, _ => rfl
  | f + 1, i, b => by
    have e : ∀ j, (l.map g).getD j (g z) = g (l.getD j z) := fun j => by
      rw [List.getD_eq_getElem?_getD, List.getD_eq_getElem?_getD, List.getElem?_map]
      cases l[j]? <;> rfl
    rw [leastI, leastI, List.length_map, e, e]
    by_cases hi : i < l.length
    · rw [if_pos hi, if_pos hi]
      exact leastI_map g z l f _ _
    · rw [if_neg hi, if_neg hi]
theorem eraseIdx_map' {γ : Type} (g : γ → β) : ∀ (l : List γ) (k : Nat), (l.map g).eraseIdx k = (l.eraseIdx k).map g
  | [], _ => rfl
  | x :: l, 0 => rfl
  | x :: l, k + 1 => by simp [List.eraseIdx_cons_succ, eraseIdx_map' g l k]
theorem selS_map {γ : Type} (g : γ → β) (z : γ) : ∀ (f : Nat) (l : List γ), selS lt (g z) f (l.map g) = (selS (fun x y => lt (g x) (g y)) z f l).map g
  | 0, _ => rfl
  | f + 1, l => by
    rw [selS, selS]
    by_cases hl : l = []
    · rw [if_pos (by rw [hl]; rfl), if_pos hl]; rfl
    · rw [if_neg (by simpa using hl), if_neg hl, List.length_map, leastI_map g z l, eraseIdx_map' g l, selS_map g z f, List.map_cons]
      congr 1
      rw [List.getD_eq_getElem?_getD, List.getD_eq_getElem?_getD, List.getElem?_map]
      cases l[leastI (fun x y => lt (g x) (g y)) z l l.length 1 0]? <;> rfl
end
section
variable {β : Type} [Inhabited β] {lt : β → β → Bool}
theorem stab_is_sel (h : SWO lt) (l : List β) (hl : l.length ≤ 40) : ((stabS (fun x y : β × Nat => lt x.1 y.1) l.length (tags 0 l).toArray).toList).map Prod.fst = selS lt default l.length l := by
  have hlen := tags_length 0 l
  have hsz : (tags 0 l).toArray.size = l.length := by simpa using hlen
  have hrise := tags_rise 0 l
  have hget : ∀ i, i < l.length → ∃ hi : i < (tags 0 l).length, (tags 0 l).toArray[i]! = (tags 0 l)[i] := fun i hi => ⟨by omega, by rw [getElem!_pos _ i (by simpa [hlen] using hi)]; simp⟩
  have hc : Compat (fun x y : β × Nat => lt x.1 y.1) (byTag lt) 0 l.length (tags 0 l).toArray := fun i j _ hij hj => by
    obtain ⟨hi', ei⟩ := hget i (by omega)
    obtain ⟨hj', ej⟩ := hget j hj
    rw [ei, ej]
    have := (List.pairwise_iff_getElem.1 hrise) i j hi' hj' hij
    unfold byTag
    have hd : decide (((tags 0 l)[j]).2 < ((tags 0 l)[i]).2) = false := decide_eq_false (by omega)
    rw [hd, Bool.and_false, Bool.or_false]
  obtain ⟨hp, hs⟩ := stabS_spec (byTag_swo h) hl (by omega) hc
  obtain ⟨d', ed⟩ : ∃ d', stabS (fun x y : β × Nat => lt x.1 y.1) l.length (tags 0 l).toArray = d' := ⟨_, rfl⟩
  rw [ed] at hp hs ⊢
  have hp1 : d'.size = l.length := by rw [hp.1, hsz]
  have hperm : d'.toList.Perm (tags 0 l) := by
    have h3 := hp.2.2
    have e1 : d'.extract 0 l.length = d' := by rw [← hp1]; exact Array.extract_size
    have e2 : (tags 0 l).toArray.extract 0 l.length = (tags 0 l).toArray := by rw [← hsz]; exact Array.extract_size
    rw [e1, e2] at h3
    simpa using h3
  have hsort : d'.toList.Pairwise (fun x y => byTag lt y x = false) := by
    rw [List.pairwise_iff_getElem]
    intro i j hi hj hij
    have hi' : i < d'.size := by simpa using hi
    have hj' : j < d'.size := by simpa using hj
    have := hs i j (Nat.zero_le _) hij (by omega)
    rw [getElem!_pos d' j hj', getElem!_pos d' i hi'] at this
    simpa using this
  have h' : SWO (fun x y : β × Nat => lt x.1 y.1) := ⟨fun x => h.irrefl _, fun x y z => h.trans _ _ _, fun x y z => h.ntrans _ _ _⟩
  have e := tag_unique h (rise_inj hrise) hperm (selS_perm h' (default, 0) l.length (tags 0 l) (by omega)) hsort (selS_sorted h (default, 0) l.length (tags 0 l) (by omega) hrise)
  rw [e]
  have := selS_map (lt := lt) Prod.fst ((default, 0) : β × Nat) l.length (tags 0 l)
  rw [tags_fst] at this
  exact this.symm
end
end Go.Sort
