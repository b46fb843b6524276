/- A stable sort by runs and merges in place, in plain Lean: rotate, symMerge. No program in sight. -/
import Derived.Sort.LotA
set_option linter.unusedVariables false
set_option linter.unusedSimpArgs false
namespace Go.Sort
section
variable {α : Type} [Inhabited α]
/-- n places from a on, exchanged with those from b on. -/
def swapR (a b : Nat) : Nat → Array α → Array α
  | 0, d => d
  | n + 1, d => swp (swapR a b n d) (a + n) (b + n)
theorem swapR_size (a b : Nat) : ∀ (n : Nat) (d : Array α), (swapR a b n d).size = d.size
  | 0, _ => rfl
  | n + 1, d => by rw [swapR, size_swp, swapR_size a b n d]
theorem swapR_get (a b : Nat) : ∀ (n : Nat) (d : Array α), a + n ≤ b → b + n ≤ d.size → ∀ k, (swapR a b n d)[k]! = if a ≤ k ∧ k < a + n then d[b + (k - a)]! else if b ≤ k ∧ k < b + n then d[a + (k - b)]! else d[k]!
  | 0, d, _, _, k => by rw [if_neg (by omega), if_neg (by omega)]; rfl
  | n + 1, d, h1, h2, k => by
    have ih := swapR_get a b n d (by omega) (by omega)
    have hs := swapR_size a b n d
    rw [swapR]
    by_cases e1 : k = a + n
    · subst e1
      rw [swp_left _ _ _ (by omega) (by omega), ih]
      (repeat' split) <;> first | (exfalso; omega) | rfl | (congr 1; omega)
    · by_cases e2 : k = b + n
      · subst e2
        rw [swp_right _ _ _ (by omega), ih]
        (repeat' split) <;> first | (exfalso; omega) | rfl | (congr 1; omega)
      · rw [swp_other _ _ _ _ e1 e2, ih]
        (repeat' split) <;> first | (exfalso; omega) | rfl | (congr 1; omega)
theorem swapR_perm (a b A B : Nat) (hA : A ≤ a) : ∀ (n : Nat) (d : Array α), a + n ≤ b → b + n ≤ B → B ≤ d.size → PermIn A B d (swapR a b n d)
  | 0, d, _, _, _ => permIn_refl _ _ _
  | n + 1, d, h1, h2, h3 => permIn_trans _ _ _ _ _ (swapR_perm a b A B hA n d (by omega) (by omega) h3) (swp_permIn _ A B (a + n) (b + n) (by omega) (by omega) (by omega) (by omega) (by rw [swapR_size]; exact h3))
/-- The two parts ahead of m and behind it (i and j long) are exchanged. -/
def rotR (m : Nat) : Nat → Nat → Nat → Array α → Array α
  | 0, _, _, d => d
  | f + 1, i, j, d => if i = j then swapR (m - i) m i d else if j < i then rotR m f (i - j) j (swapR (m - i) m j d) else rotR m f i (j - i) (swapR (m - i) (m + j - i) i d)
theorem rotR_size (m : Nat) : ∀ (f i j : Nat) (d : Array α), (rotR m f i j d).size = d.size
  | 0, _, _, _ => rfl
  | f + 1, i, j, d => by
    rw [rotR]
    split
    · exact swapR_size _ _ _ _
    · split
      · rw [rotR_size m f, swapR_size]
      · rw [rotR_size m f, swapR_size]
theorem rotR_perm (m A B : Nat) : ∀ (f i j : Nat) (d : Array α), A + i ≤ m → m + j ≤ B → B ≤ d.size → 0 < i → 0 < j → PermIn A B d (rotR m f i j d)
  | 0, _, _, _, _, _, _, _, _ => permIn_refl _ _ _
  | f + 1, i, j, d, h1, h2, h3, hi, hj => by
    rw [rotR]
    split
    · exact swapR_perm _ _ _ _ (by omega) _ _ (by omega) (by omega) h3
    · split
      · exact permIn_trans _ _ _ _ _ (swapR_perm _ _ _ _ (by omega) _ _ (by omega) (by omega) h3) (rotR_perm m A B f _ _ _ (by omega) (by omega) (by rw [swapR_size]; exact h3) (by omega) hj)
      · exact permIn_trans _ _ _ _ _ (swapR_perm _ _ _ _ (by omega) _ _ (by omega) (by omega) h3) (rotR_perm m A B f _ _ _ (by omega) (by omega) (by rw [swapR_size]; exact h3) hi (by omega))
theorem rotR_get (m : Nat) : ∀ (f i j : Nat) (d : Array α), i + j ≤ f → i ≤ m → m + j ≤ d.size → 0 < i → 0 < j → ∀ k, (rotR m f i j d)[k]! = if m - i ≤ k ∧ k < m - i + j then d[m + (k - (m - i))]! else if m - i + j ≤ k ∧ k < m + j then d[m - i + (k - (m - i + j))]! else d[k]!
  | 0, i, j, d, hf, _, _, hi, _, k => by omega
  | f + 1, i, j, d, hf, h1, h2, hi, hj, k => by
    rw [rotR]
    by_cases e : i = j
    · subst e
      rw [if_pos rfl, swapR_get _ _ _ _ (by omega) (by omega)]
      (repeat' split) <;> first | (exfalso; omega) | rfl | (congr 1; omega)
    · rw [if_neg e]
      by_cases c : j < i
      · rw [if_pos c, rotR_get m f _ _ _ (by omega) (by omega) (by rw [swapR_size]; omega) (by omega) hj]
        have hg := swapR_get (m - i) m j d (by omega) (by omega)
        simp only [hg]
        (repeat' split) <;> first | (exfalso; omega) | rfl | (congr 1; omega)
      · rw [if_neg c, rotR_get m f _ _ _ (by omega) h1 (by rw [swapR_size]; omega) hi (by omega)]
        have hg := swapR_get (m - i) (m + j - i) i d (by omega) (by omega)
        simp only [hg]
        (repeat' split) <;> first | (exfalso; omega) | rfl | (congr 1; omega)
/-- One element moves up, n places. -/
def shUp (a : Nat) : Nat → Array α → Array α
  | 0, d => d
  | n + 1, d => swp (shUp a n d) (a + n) (a + n + 1)
theorem shUp_size (a : Nat) : ∀ (n : Nat) (d : Array α), (shUp a n d).size = d.size
  | 0, _ => rfl
  | n + 1, d => by rw [shUp, size_swp, shUp_size a n d]
theorem shUp_get (a : Nat) : ∀ (n : Nat) (d : Array α), a + n < d.size → ∀ k, (shUp a n d)[k]! = if a ≤ k ∧ k < a + n then d[k + 1]! else if k = a + n then d[a]! else d[k]!
  | 0, d, _, k => by
    rw [if_neg (by omega)]
    by_cases e : k = a + 0
    · rw [if_pos e, e]; rfl
    · rw [if_neg e]; rfl
  | n + 1, d, h, k => by
    have ih := shUp_get a n d (by omega)
    have hs := shUp_size a n d
    rw [shUp]
    by_cases e1 : k = a + n
    · subst e1
      rw [swp_left _ _ _ (by omega) (by omega), ih]
      (repeat' split) <;> first | (exfalso; omega) | rfl | (congr 1; omega)
    · by_cases e2 : k = a + n + 1
      · subst e2
        rw [swp_right _ _ _ (by omega), ih]
        (repeat' split) <;> first | (exfalso; omega) | rfl | (congr 1; omega)
      · rw [swp_other _ _ _ _ e1 e2, ih]
        (repeat' split) <;> first | (exfalso; omega) | rfl | (congr 1; omega)
theorem shUp_perm (a A B : Nat) (hA : A ≤ a) : ∀ (n : Nat) (d : Array α), a + n < B → B ≤ d.size → PermIn A B d (shUp a n d)
  | 0, d, _, _ => permIn_refl _ _ _
  | n + 1, d, h1, h2 => permIn_trans _ _ _ _ _ (shUp_perm a A B hA n d (by omega) h2) (swp_permIn _ A B (a + n) (a + n + 1) (by omega) (by omega) (by omega) (by omega) (by rw [shUp_size]; exact h2))
/-- One element moves down, n places. -/
def shDn (m : Nat) : Nat → Array α → Array α
  | 0, d => d
  | n + 1, d => swp (shDn m n d) (m - n) (m - n - 1)
theorem shDn_size (m : Nat) : ∀ (n : Nat) (d : Array α), (shDn m n d).size = d.size
  | 0, _ => rfl
  | n + 1, d => by rw [shDn, size_swp, shDn_size m n d]
theorem shDn_get (m : Nat) : ∀ (n : Nat) (d : Array α), n ≤ m → m < d.size → ∀ k, (shDn m n d)[k]! = if m - n < k ∧ k ≤ m then d[k - 1]! else if k = m - n then d[m]! else d[k]!
  | 0, d, _, _, k => by
    rw [if_neg (by omega)]
    by_cases e : k = m - 0
    · rw [if_pos e, e]; rfl
    · rw [if_neg e]; rfl
  | n + 1, d, h1, h2, k => by
    have ih := shDn_get m n d (by omega) h2
    have hs := shDn_size m n d
    rw [shDn]
    by_cases e1 : k = m - n
    · subst e1
      rw [swp_left _ _ _ (by omega) (by omega), ih]
      (repeat' split) <;> first | (exfalso; omega) | rfl | (congr 1; omega)
    · by_cases e2 : k = m - n - 1
      · subst e2
        rw [swp_right _ _ _ (by omega), ih]
        (repeat' split) <;> first | (exfalso; omega) | rfl | (congr 1; omega)
      · rw [swp_other _ _ _ _ e1 e2, ih]
        (repeat' split) <;> first | (exfalso; omega) | rfl | (congr 1; omega)
theorem shDn_perm (m A B : Nat) (hB : m < B) : ∀ (n : Nat) (d : Array α), A + n ≤ m → B ≤ d.size → PermIn A B d (shDn m n d)
  | 0, d, _, _ => permIn_refl _ _ _
  | n + 1, d, h1, h2 => permIn_trans _ _ _ _ _ (shDn_perm m A B hB n d (by omega) h2) (swp_permIn _ A B (m - n) (m - n - 1) (by omega) (by omega) (by omega) (by omega) (by rw [shDn_size]; exact h2))
end
/-- The first place (i to j) at which p does not hold, by halves. -/
def bsR (p : Nat → Bool) : Nat → Nat → Nat → Nat
  | 0, i, _ => i
  | f + 1, i, j => if i < j then (if p ((i + j) / 2) = true then bsR p f ((i + j) / 2 + 1) j else bsR p f i ((i + j) / 2)) else i
theorem bsR_spec (p : Nat → Bool) (lo hi : Nat) (hm : ∀ c c', lo ≤ c → c ≤ c' → c' < hi → p c' = true → p c = true) : ∀ (f i j : Nat), j - i ≤ f → lo ≤ i → i ≤ j → j ≤ hi → (∀ c, lo ≤ c → c < i → p c = true) → (∀ c, j ≤ c → c < hi → p c = false) →
    lo ≤ bsR p f i j ∧ bsR p f i j ≤ hi ∧ (∀ c, lo ≤ c → c < bsR p f i j → p c = true) ∧ (∀ c, bsR p f i j ≤ c → c < hi → p c = false)
  | 0, i, j, hf, h1, h2, h3, h4, h5 => ⟨h1, by rw [bsR]; omega, h4, fun c hc => h5 c (by rw [bsR] at hc; omega)⟩
  | f + 1, i, j, hf, h1, h2, h3, h4, h5 => by
    rw [bsR]
    by_cases hij : i < j
    · rw [if_pos hij]
      by_cases hp : p ((i + j) / 2) = true
      · rw [if_pos hp]
        exact bsR_spec p lo hi hm f _ _ (by omega) (by omega) (by omega) h3 (fun c hc hlt => hm c _ hc (by omega) (by omega) hp) h5
      · rw [if_neg hp]
        refine bsR_spec p lo hi hm f _ _ (by omega) h1 (by omega) (by omega) h4 (fun c hc hlt => ?_)
        cases hpc : p c with
        | false => rfl
        | true => exact absurd (hm _ c (by omega) hc hlt hpc) hp
    · rw [if_neg hij]
      exact ⟨h1, by omega, h4, fun c hc => h5 c (by omega)⟩
section
variable {α : Type} [Inhabited α]
/-- Where symMerge parts: the search's beginning and end; what it finds. -/
def symLo (a m b : Nat) : Nat := if m > (a + b) / 2 then (a + b) / 2 + m - b else a
def symHi (a m b : Nat) : Nat := if m > (a + b) / 2 then (a + b) / 2 else m
def symAt (lt : α → α → Bool) (a m b : Nat) (d : Array α) : Nat := bsR (fun c => !lt d[(a + b) / 2 + m - 1 - c]! d[c]!) (symHi a m b - symLo a m b) (symLo a m b) (symHi a m b)
def symRot (m start stop : Nat) (d : Array α) : Array α := if start < m ∧ m < stop then rotR m (stop - start) (m - start) (stop - m) d else d
def symM (lt : α → α → Bool) : Nat → Nat → Nat → Nat → Array α → Array α
  | 0, _, _, _, d => d
  | f + 1, a, m, b, d =>
    if m - a = 1 then shUp a (bsR (fun h => lt d[h]! d[a]!) (b - m) m b - 1 - a) d
    else if b - m = 1 then shDn m (m - bsR (fun h => !lt d[m]! d[h]!) (m - a) a m) d
    else
      (fun s : Nat => (fun d1 : Array α => (fun d2 : Array α => if (a + b) / 2 < (a + b) / 2 + m - s ∧ (a + b) / 2 + m - s < b then symM lt f ((a + b) / 2) ((a + b) / 2 + m - s) b d2 else d2)
        (if a < s ∧ s < (a + b) / 2 then symM lt f a s ((a + b) / 2) d1 else d1)) (symRot m s ((a + b) / 2 + m - s) d)) (symAt lt a m b d)
theorem symM_size (lt : α → α → Bool) : ∀ (f a m b : Nat) (d : Array α), (symM lt f a m b d).size = d.size
  | 0, _, _, _, _ => rfl
  | f + 1, a, m, b, d => by
    rw [symM]
    split
    · exact shUp_size _ _ _
    · split
      · exact shDn_size _ _ _
      · simp only
        have hr : ∀ s e, (symRot m s e d).size = d.size := fun s e => by
          unfold symRot
          split
          · exact rotR_size _ _ _ _ _
          · rfl
        split
        · rw [symM_size lt f]
          split
          · rw [symM_size lt f, hr]
          · exact hr _ _
        · split
          · rw [symM_size lt f, hr]
          · exact hr _ _
/-- What a merge is asked: both parts rise (by lt'), and lt says of right and left what lt' says. -/
structure SymOk (lt lt' : α → α → Bool) (a m b : Nat) (d : Array α) : Prop where
  l : SortedIn lt' a m d
  r : SortedIn lt' m b d
  x : ∀ i j, a ≤ i → i < m → m ≤ j → j < b → lt d[j]! d[i]! = lt' d[j]! d[i]!
variable {lt lt' : α → α → Bool}
omit [Inhabited α] in
theorem SWO.asym' (h : SWO lt') {x y : α} (hxy : lt' x y = true) : lt' y x = false := by
  cases hyx : lt' y x with
  | false => rfl
  | true => have := h.trans x y x hxy hyx; rw [h.irrefl] at this; exact this.symm ▸ rfl
theorem SortedIn.le (h : SWO lt') {a b : Nat} {d : Array α} (hs : SortedIn lt' a b d) {i j : Nat} (h1 : a ≤ i) (h2 : i ≤ j) (h3 : j < b) : lt' d[j]! d[i]! = false := by
  rcases Nat.lt_or_ge i j with hlt | hge
  · exact hs i j h1 hlt h3
  · have : i = j := by omega
    subst this
    exact h.irrefl _
/-- Both parts of a row, and each of the one against each of the other. -/
theorem sorted_join {a m b : Nat} {d : Array α} (h1 : SortedIn lt' a m d) (h2 : SortedIn lt' m b d) (h3 : ∀ i j, a ≤ i → i < m → m ≤ j → j < b → lt' d[j]! d[i]! = false) : SortedIn lt' a b d := fun i j hi hij hj => by
  by_cases c1 : j < m
  · exact h1 i j hi hij c1
  · by_cases c2 : i < m
    · exact h3 i j hi c2 (by omega) hj
    · exact h2 i j (by omega) hij hj
theorem symM_one {a m b : Nat} {d : Array α} (h : SWO lt') (hok : SymOk lt lt' a m b d) (ham : m = a + 1) (hmb : m < b) (hb : b ≤ d.size) :
    PermIn a b d (shUp a (bsR (fun h => lt d[h]! d[a]!) (b - m) m b - 1 - a) d) ∧ SortedIn lt' a b (shUp a (bsR (fun h => lt d[h]! d[a]!) (b - m) m b - 1 - a) d) := by
  have hx : ∀ j, m ≤ j → j < b → lt d[j]! d[a]! = lt' d[j]! d[a]! := fun j h1 h2 => hok.x a j (Nat.le_refl _) (by omega) h1 h2
  obtain ⟨s1, s2, s3, s4⟩ := bsR_spec (fun h => lt d[h]! d[a]!) m b (fun c c' h1 h2 h3 h4 => by
    have h5 : lt' d[c']! d[a]! = true := by rw [← hx c' (by omega) h3]; exact h4
    show lt d[c]! d[a]! = true
    rw [hx c h1 (by omega)]
    cases hc : lt' d[c]! d[a]! with
    | true => rfl
    | false =>
      have := h.ntrans _ _ _ (hok.r.le h (i := c) (j := c') h1 h2 h3) hc
      rw [h5] at this
      exact this.symm) (b - m) m b (Nat.le_refl _) (Nat.le_refl _) (by omega) (Nat.le_refl _) (fun c h1 h2 => by omega) (fun c h1 h2 => by omega)
  obtain ⟨s, es⟩ : ∃ s, bsR (fun h => lt d[h]! d[a]!) (b - m) m b = s := ⟨_, rfl⟩
  rw [es] at s1 s2 s3 s4 ⊢
  have hn : a + (s - 1 - a) < b := by omega
  refine ⟨shUp_perm a a b (Nat.le_refl _) _ d hn hb, fun i j hi hij hj => ?_⟩
  have hg := shUp_get a (s - 1 - a) d (by omega)
  rw [hg, hg]
  have e : a + (s - 1 - a) = s - 1 := by omega
  rw [e]
  by_cases ci : i < s - 1
  · rw [if_pos (by omega : a ≤ i ∧ i < s - 1)]
    have hi1 := s3 (i + 1) (by omega) (by omega)
    have hi2 : lt' d[i + 1]! d[a]! = true := by rw [← hx (i + 1) (by omega) (by omega)]; exact hi1
    by_cases cj : j < s - 1
    · rw [if_pos (by omega : a ≤ j ∧ j < s - 1)]
      exact hok.r.le h (by omega) (by omega) (by omega)
    · rw [if_neg (by omega : ¬ (a ≤ j ∧ j < s - 1))]
      by_cases cj2 : j = s - 1
      · rw [if_pos cj2]
        exact h.asym' hi2
      · rw [if_neg cj2]
        exact hok.r.le h (by omega) (by omega) hj
  · rw [if_neg (by omega : ¬ (a ≤ i ∧ i < s - 1)), if_neg (by omega : ¬ (a ≤ j ∧ j < s - 1)), if_neg (by omega : ¬ j = s - 1)]
    by_cases ci2 : i = s - 1
    · rw [if_pos ci2]
      have := s4 j (by omega) hj
      rw [← hx j (by omega) hj]
      exact this
    · rw [if_neg ci2]
      exact hok.r.le h (by omega) (by omega) hj
theorem symM_last {a m b : Nat} {d : Array α} (h : SWO lt') (hok : SymOk lt lt' a m b d) (ham : a < m) (hmb : b = m + 1) (hb : b ≤ d.size) :
    PermIn a b d (shDn m (m - bsR (fun h => !lt d[m]! d[h]!) (m - a) a m) d) ∧ SortedIn lt' a b (shDn m (m - bsR (fun h => !lt d[m]! d[h]!) (m - a) a m) d) := by
  have hx : ∀ i, a ≤ i → i < m → lt d[m]! d[i]! = lt' d[m]! d[i]! := fun i h1 h2 => hok.x i m h1 h2 (Nat.le_refl _) (by omega)
  obtain ⟨s1, s2, s3, s4⟩ := bsR_spec (fun h => !lt d[m]! d[h]!) a m (fun c c' h1 h2 h3 h4 => by
    have h4' : lt d[m]! d[c']! = false := by simpa using h4
    rw [hx c' (by omega) h3] at h4'
    show (!lt d[m]! d[c]!) = true
    rw [hx c h1 (by omega), h.ntrans _ _ _ h4' (hok.l.le h h1 h2 h3)]
    rfl) (m - a) a m (Nat.le_refl _) (Nat.le_refl _) (by omega) (Nat.le_refl _) (fun c h1 h2 => by omega) (fun c h1 h2 => by omega)
  obtain ⟨s, es⟩ : ∃ s, bsR (fun h => !lt d[m]! d[h]!) (m - a) a m = s := ⟨_, rfl⟩
  rw [es] at s1 s2 s3 s4 ⊢
  refine ⟨shDn_perm m a b (by omega) _ d (by omega) hb, fun i j hi hij hj => ?_⟩
  have hg := shDn_get m (m - s) d (by omega) (by omega)
  rw [hg, hg]
  have e : m - (m - s) = s := by omega
  rw [e]
  by_cases ci : i < s
  · rw [if_neg (by omega : ¬ (s < i ∧ i ≤ m)), if_neg (by omega : ¬ i = s)]
    have hi1 := s3 i hi ci
    have hi2 : lt' d[m]! d[i]! = false := by rw [← hx i hi (by omega)]; simpa using hi1
    by_cases cj : j < s
    · rw [if_neg (by omega : ¬ (s < j ∧ j ≤ m)), if_neg (by omega : ¬ j = s)]
      exact hok.l.le h hi (by omega) (by omega)
    · by_cases cj2 : j = s
      · rw [if_neg (by omega : ¬ (s < j ∧ j ≤ m)), if_pos cj2]
        exact hi2
      · rw [if_pos (by omega : s < j ∧ j ≤ m)]
        exact hok.l.le h hi (by omega) (by omega)
  · rw [if_pos (by omega : s < j ∧ j ≤ m)]
    by_cases ci2 : i = s
    · rw [if_neg (by omega : ¬ (s < i ∧ i ≤ m)), if_pos ci2]
      have := s4 (j - 1) (by omega) (by omega)
      have h7 : lt d[m]! d[j - 1]! = true := by simpa using this
      rw [hx (j - 1) (by omega) (by omega)] at h7
      exact h.asym' h7
    · rw [if_pos (by omega : s < i ∧ i ≤ m)]
      exact hok.l.le h (by omega) (by omega) (by omega)
/-- What the search finds, and what lies where behind the turning. -/
theorem symAt_spec {a m b : Nat} {d : Array α} (h : SWO lt') (hok : SymOk lt lt' a m b d) (ham : a < m) (hmb : m < b) (hb : b ≤ d.size) :
    symLo a m b ≤ symAt lt a m b d ∧ symAt lt a m b d ≤ symHi a m b ∧
    (∀ c, symLo a m b ≤ c → c < symAt lt a m b d → lt' d[(a + b) / 2 + m - 1 - c]! d[c]! = false) ∧
    (∀ c, symAt lt a m b d ≤ c → c < symHi a m b → lt' d[(a + b) / 2 + m - 1 - c]! d[c]! = true) := by
  have hb1 : ∀ c, symLo a m b ≤ c → c < symHi a m b → a ≤ c ∧ c < m ∧ m ≤ (a + b) / 2 + m - 1 - c ∧ (a + b) / 2 + m - 1 - c < b := by
    intro c h1 h2
    unfold symLo at h1
    unfold symHi at h2
    split at h1 <;> split at h2 <;> omega
  have hx : ∀ c, symLo a m b ≤ c → c < symHi a m b → lt d[(a + b) / 2 + m - 1 - c]! d[c]! = lt' d[(a + b) / 2 + m - 1 - c]! d[c]! := fun c h1 h2 => by
    obtain ⟨g1, g2, g3, g4⟩ := hb1 c h1 h2
    exact hok.x c _ g1 g2 g3 g4
  have hle : symLo a m b ≤ symHi a m b := by
    unfold symLo symHi
    split <;> omega
  obtain ⟨s1, s2, s3, s4⟩ := bsR_spec (fun c => !lt d[(a + b) / 2 + m - 1 - c]! d[c]!) (symLo a m b) (symHi a m b) (fun c c' h1 h2 h3 h4 => by
    have h4' : lt d[(a + b) / 2 + m - 1 - c']! d[c']! = false := by simpa using h4
    rw [hx c' (by omega) h3] at h4'
    show (!lt d[(a + b) / 2 + m - 1 - c]! d[c]!) = true
    obtain ⟨g1, g2, g3, g4⟩ := hb1 c h1 (by omega)
    obtain ⟨k1, k2, k3, k4⟩ := hb1 c' (by omega) h3
    rw [hx c h1 (by omega), h.ntrans _ _ _ (h.ntrans _ _ _ (hok.r.le h k3 (by omega) g4) h4') (hok.l.le h g1 h2 k2)]
    rfl) (symHi a m b - symLo a m b) (symLo a m b) (symHi a m b) (Nat.le_refl _) (Nat.le_refl _) hle (Nat.le_refl _) (fun c h1 h2 => by omega) (fun c h1 h2 => by omega)
  refine ⟨s1, s2, fun c h1 h2 => ?_, fun c h1 h2 => ?_⟩
  · have := s3 c h1 h2
    rw [← hx c h1 (Nat.lt_of_lt_of_le h2 s2)]
    simpa using this
  · have := s4 c h1 h2
    rw [← hx c (Nat.le_trans s1 h1) h2]
    simpa using this
theorem symRot_size (m s e : Nat) (d : Array α) : (symRot m s e d).size = d.size := by
  unfold symRot
  split
  · exact rotR_size _ _ _ _ _
  · rfl
theorem symM_spec (h : SWO lt') : ∀ (f a m b : Nat) (d : Array α), b - a ≤ f → a < m → m < b → b ≤ d.size → SymOk lt lt' a m b d → PermIn a b d (symM lt f a m b d) ∧ SortedIn lt' a b (symM lt f a m b d)
  | 0, a, m, b, d, hf, h1, h2, _, _ => by omega
  | f + 1, a, m, b, d, hf, h1, h2, hb, hok => by
    rw [symM]
    by_cases c1 : m - a = 1
    · rw [if_pos c1]
      exact symM_one h hok (by omega) h2 hb
    rw [if_neg c1]
    by_cases c2 : b - m = 1
    · rw [if_pos c2]
      exact symM_last h hok h1 (by omega) hb
    rw [if_neg c2]
    obtain ⟨s1, s2, s3, s4⟩ := symAt_spec h hok h1 h2 hb
    obtain ⟨s, es⟩ : ∃ s, symAt lt a m b d = s := ⟨_, rfl⟩
    rw [es] at s1 s2 s3 s4 ⊢
    simp only
    obtain ⟨mid, emid⟩ : ∃ mid, (a + b) / 2 = mid := ⟨_, rfl⟩
    have hcs : (mid < m ∧ symLo a m b = mid + m - b ∧ symHi a m b = mid) ∨ (m ≤ mid ∧ symLo a m b = a ∧ symHi a m b = m) := by
      unfold symLo symHi
      rw [emid]
      by_cases c : m > mid
      · rw [if_pos c, if_pos c]; exact .inl ⟨c, rfl, rfl⟩
      · rw [if_neg c, if_neg c]; exact .inr ⟨by omega, rfl, rfl⟩
    rw [emid] at s3 s4 ⊢
    have hma : a < mid := by omega
    have hmb : mid < b := by omega
    obtain ⟨en, een⟩ : ∃ en, mid + m - s = en := ⟨_, rfl⟩
    rw [een]
    have hs1 : a ≤ s ∧ s ≤ m ∧ s ≤ mid := by omega
    have he1 : m ≤ en ∧ en ≤ b ∧ mid ≤ en := by omega
    -- the turning
    have hd1s := symRot_size m s en d
    have hp1 : PermIn a b d (symRot m s en d) := by
      unfold symRot
      split
      · exact rotR_perm m a b _ _ _ d (by omega) (by omega) hb (by omega) (by omega)
      · exact permIn_refl _ _ _
    have hg1 : ∀ k, (symRot m s en d)[k]! = if s ≤ k ∧ k < mid then d[m + (k - s)]! else if mid ≤ k ∧ k < en then d[s + (k - mid)]! else d[k]! := by
      intro k
      unfold symRot
      split
      · rw [rotR_get m _ _ _ d (by omega) (by omega) (by omega) (by omega) (by omega)]
        (repeat' split) <;> first | (exfalso; omega) | rfl | (congr 1; omega)
      · (repeat' split) <;> first | (exfalso; omega) | rfl | (congr 1; omega)
    obtain ⟨d1, ed1⟩ : ∃ d1, symRot m s en d = d1 := ⟨_, rfl⟩
    rw [ed1] at hd1s hp1 hg1 ⊢
    have hl1 : SortedIn lt' a s d1 := fun i j hi hij hj => by
      rw [hg1, hg1, if_neg (by omega), if_neg (by omega), if_neg (by omega), if_neg (by omega)]
      exact hok.l i j hi hij (by omega)
    have hl2 : SortedIn lt' s mid d1 := fun i j hi hij hj => by
      rw [hg1, hg1, if_pos (by omega), if_pos (by omega)]
      exact hok.r _ _ (by omega) (by omega) (by omega)
    have hr1 : SortedIn lt' mid en d1 := fun i j hi hij hj => by
      rw [hg1, hg1, if_neg (by omega), if_pos (by omega), if_neg (by omega), if_pos (by omega)]
      exact hok.l _ _ (by omega) (by omega) (by omega)
    have hr2 : SortedIn lt' en b d1 := fun i j hi hij hj => by
      rw [hg1, hg1, if_neg (by omega), if_neg (by omega), if_neg (by omega), if_neg (by omega)]
      exact hok.r _ _ (by omega) (by omega) (by omega)
    have hcross : ∀ i j, a ≤ i → i < mid → mid ≤ j → j < b → lt' d1[j]! d1[i]! = false := by
      intro i j hi him hj hjb
      rw [hg1, hg1]
      by_cases ci : i < s
      · rw [if_neg (by omega : ¬ (s ≤ j ∧ j < mid)), if_neg (by omega : ¬ (s ≤ i ∧ i < mid)), if_neg (by omega : ¬ (mid ≤ i ∧ i < en))]
        by_cases cj : j < en
        · rw [if_pos (by omega : mid ≤ j ∧ j < en)]
          exact hok.l.le h hi (by omega) (by omega)
        · rw [if_neg (by omega : ¬ (mid ≤ j ∧ j < en))]
          -- left's first part, right's last
          have hlt : symLo a m b < s := by omega
          have h5 := s3 (s - 1) (by omega) (by omega)
          have e5 : mid + m - 1 - (s - 1) = en := by omega
          rw [e5] at h5
          exact h.ntrans _ _ _ (h.ntrans _ _ _ (hok.r.le h (i := en) (j := j) (by omega) (by omega) hjb) h5) (hok.l.le h hi (by omega) (by omega))
      · rw [if_neg (by omega : ¬ (s ≤ j ∧ j < mid)), if_pos (by omega : s ≤ i ∧ i < mid)]
        by_cases cj : j < en
        · rw [if_pos (by omega : mid ≤ j ∧ j < en)]
          have hlt : s < symHi a m b := by omega
          have h5 := h.asym' (s4 s (Nat.le_refl _) hlt)
          have e5 : mid + m - 1 - s = en - 1 := by omega
          rw [e5] at h5
          exact h.ntrans _ _ _ (h.ntrans _ _ _ (hok.l.le h (i := s) (j := s + (j - mid)) (by omega) (by omega) (by omega)) h5) (hok.r.le h (i := m + (i - s)) (j := en - 1) (by omega) (by omega) (by omega))
        · rw [if_neg (by omega : ¬ (mid ≤ j ∧ j < en))]
          exact hok.r.le h (by omega) (by omega) (by omega)
    -- the first half
    have hA : PermIn a mid d1 (if a < s ∧ s < mid then symM lt f a s mid d1 else d1) ∧ SortedIn lt' a mid (if a < s ∧ s < mid then symM lt f a s mid d1 else d1) := by
      split
      · rename_i hc
        refine symM_spec h f a s mid d1 (by omega) hc.1 hc.2 (by omega) ⟨hl1, hl2, fun i j hi1 hi2 hj1 hj2 => ?_⟩
        rw [hg1 j, hg1 i, if_pos (by omega), if_neg (by omega), if_neg (by omega)]
        exact hok.x i _ hi1 (by omega) (by omega) (by omega)
      · refine ⟨permIn_refl _ _ _, ?_⟩
        by_cases e : s = a
        · subst e; exact hl2
        · have : s = mid := by omega
          subst this; exact hl1
    obtain ⟨d2, ed2⟩ : ∃ d2, (if a < s ∧ s < mid then symM lt f a s mid d1 else d1) = d2 := ⟨_, rfl⟩
    rw [ed2] at hA ⊢
    have hsz2 : d2.size = d1.size := hA.1.1
    have hg2 : ∀ k, mid ≤ k → d2[k]! = d1[k]! := fun k hk => hA.1.2.1 k (.inr hk)
    have hB : PermIn mid b d2 (if mid < en ∧ en < b then symM lt f mid en b d2 else d2) ∧ SortedIn lt' mid b (if mid < en ∧ en < b then symM lt f mid en b d2 else d2) := by
      have hr1' : SortedIn lt' mid en d2 := fun i j hi hij hj => by rw [hg2 i hi, hg2 j (by omega)]; exact hr1 i j hi hij hj
      have hr2' : SortedIn lt' en b d2 := fun i j hi hij hj => by rw [hg2 i (by omega), hg2 j (by omega)]; exact hr2 i j hi hij hj
      split
      · rename_i hc
        refine symM_spec h f mid en b d2 (by omega) hc.1 hc.2 (by omega) ⟨hr1', hr2', fun i j hi1 hi2 hj1 hj2 => ?_⟩
        rw [hg2 i hi1, hg2 j (by omega), hg1 j, hg1 i, if_neg (by omega), if_neg (by omega), if_neg (by omega), if_pos (by omega)]
        exact hok.x _ j (by omega) (by omega) (by omega) (by omega)
      · refine ⟨permIn_refl _ _ _, ?_⟩
        by_cases e : en = mid
        · rw [e] at hr2'; exact hr2'
        · have : en = b := by omega
          rw [this] at hr1'; exact hr1'
    obtain ⟨d3, ed3⟩ : ∃ d3, (if mid < en ∧ en < b then symM lt f mid en b d2 else d2) = d3 := ⟨_, rfl⟩
    rw [ed3] at hB ⊢
    have hsz3 : d3.size = d2.size := hB.1.1
    refine ⟨permIn_trans _ _ _ _ _ (permIn_trans _ _ _ _ _ hp1 (permIn_mono d1 d2 a mid a b (Nat.le_refl _) (by omega) (by omega) hA.1)) (permIn_mono d2 d3 mid b a b (by omega) (Nat.le_refl _) (by omega) hB.1), ?_⟩
    have hg3 : ∀ k, k < mid → d3[k]! = d2[k]! := fun k hk => hB.1.2.1 k (.inl hk)
    refine sorted_join (fun i j hi hij hj => by rw [hg3 i (by omega), hg3 j hj]; exact hA.2 i j hi hij hj) hB.2 ?_
    -- each of the first half against each of the other
    have hq1 : ∀ j, mid ≤ j → j < b → ∀ i, a ≤ i → i < mid → lt' d2[j]! d2[i]! = false := fun j hj hjb =>
      permIn_all d1 d2 a mid (fun x => lt' d2[j]! x = false) (by omega) hA.1 (fun i hi him => by rw [hg2 j hj]; exact hcross i j hi him hj hjb)
    intro i j hi him hj hjb
    rw [hg3 i him]
    exact permIn_all d2 d3 mid b (fun y => lt' y d2[i]! = false) (by omega) hB.1 (fun j hj hjb => hq1 j hj hjb i hi him) j hj hjb
end
section
variable {α : Type} [Inhabited α] {lt lt' : α → α → Bool}
theorem insInner_size (a : Nat) : ∀ (j : Nat) (d : Array α), (insInner lt a j d).size = d.size
  | 0, _ => rfl
  | j + 1, d => by
    rw [insInner]
    split
    · rw [insInner_size a j, size_swp]
    · rfl
theorem insInner_perm (a i b : Nat) (hib : i < b) : ∀ (j : Nat) (d : Array α), a ≤ j → j ≤ i → b ≤ d.size → PermIn a b d (insInner lt a j d)
  | 0, _, _, _, _ => permIn_refl _ _ _
  | j + 1, d, h1, h2, h3 => by
    rw [insInner]
    split
    · rename_i hc
      simp only [Bool.and_eq_true, decide_eq_true_eq] at hc
      exact permIn_trans _ _ _ _ _ (swp_permIn d a b (j + 1) j (by omega) (by omega) (by omega) (by omega) h3) (insInner_perm a i b hib j _ (by omega) (by omega) (by rw [size_swp]; exact h3))
    · exact permIn_refl _ _ _
theorem insInner_congr (a : Nat) : ∀ (j : Nat) (d : Array α), j < d.size → (∀ i, a ≤ i → i < j → lt d[j]! d[i]! = lt' d[j]! d[i]!) → insInner lt a j d = insInner lt' a j d
  | 0, _, _, _ => rfl
  | j + 1, d, hs, h => by
    rw [insInner, insInner]
    by_cases c : a < j + 1
    · have e := h j (by omega) (by omega)
      rw [e]
      by_cases c2 : (decide (j + 1 > a) && lt' d[j + 1]! d[j]!) = true
      · rw [if_pos c2, if_pos c2]
        refine insInner_congr a j _ (by rw [size_swp]; omega) (fun i h1 h2 => ?_)
        rw [swp_right _ _ _ (by omega), swp_other _ _ _ _ (by omega) (by omega)]
        exact h i h1 (by omega)
      · rw [if_neg c2, if_neg c2]
    · rw [if_neg (by simp [c]), if_neg (by simp [c])]
/-- Of later ones against earlier ones lt says what lt' says. -/
def Compat (lt lt' : α → α → Bool) (a b : Nat) (d : Array α) : Prop := ∀ i j, a ≤ i → i < j → j < b → lt d[j]! d[i]! = lt' d[j]! d[i]!
theorem insOuter_congr (a b : Nat) : ∀ (k i : Nat) (d : Array α), b - i ≤ k → a < i → b ≤ d.size → (∀ p j, a ≤ p → p < j → i ≤ j → j < b → lt d[j]! d[p]! = lt' d[j]! d[p]!) → insOuter lt a b i d = insOuter lt' a b i d
  | 0, i, d, hk, _, _, _ => by
    rw [insOuter.eq_1 lt, insOuter.eq_1 lt', if_neg (by omega), if_neg (by omega)]
  | k + 1, i, d, hk, hi, hb, h => by
    rw [insOuter.eq_1 lt, insOuter.eq_1 lt']
    by_cases c : i < b
    · rw [if_pos c, if_pos c, insInner_congr a i d (by omega) (fun p h1 h2 => h p i h1 h2 (Nat.le_refl _) c)]
      have hp := insInner_perm (lt := lt') a i (i + 1) (Nat.lt_succ_self _) i d (by omega) (Nat.le_refl _) (by omega)
      refine insOuter_congr a b k (i + 1) _ (by omega) (by omega) (by rw [insInner_size]; exact hb) (fun p j h1 h2 h3 h4 => ?_)
      have e : (insInner lt' a i d)[j]! = d[j]! := hp.2.1 j (.inr h3)
      rw [e]
      by_cases cp : p < i + 1
      · exact permIn_all d _ a (i + 1) (fun x => lt d[j]! x = lt' d[j]! x) (by omega) hp (fun q hq1 hq2 => h q j hq1 (by omega) (by omega) h4) p h1 cp
      · have e2 : (insInner lt' a i d)[p]! = d[p]! := hp.2.1 p (.inr (by omega))
        rw [e2]
        exact h p j h1 h2 (by omega) h4
    · rw [if_neg c, if_neg c]
theorem ins_congr {a b : Nat} {d : Array α} (hb : b ≤ d.size) (h : Compat lt lt' a b d) : insertionSort lt d a b = insertionSort lt' d a b :=
  insOuter_congr a b (b - (a + 1)) (a + 1) d (by omega) (by omega) hb (fun p j h1 h2 h3 h4 => h p j h1 h2 h4)
theorem ins_spec (h : SWO lt') {a b : Nat} {d : Array α} (hab : a ≤ b) (hb : b ≤ d.size) (hc : Compat lt lt' a b d) : PermIn a b d (insertionSort lt d a b) ∧ SortedIn lt' a b (insertionSort lt d a b) := by
  rw [ins_congr hb hc]
  exact insertionSort_holds h d a b hab hb
/-- The stable sort, of at most 40 elements. -/
def stabS (lt : α → α → Bool) (n : Nat) (d : Array α) : Array α :=
  if n < 20 then insertionSort lt d 0 n else
  if n = 20 then insertionSort lt (insertionSort lt d 0 20) 20 20 else
  if n < 40 then symM lt n 0 20 n (insertionSort lt (insertionSort lt d 0 20) 20 n) else
  symM lt n 0 20 n (insertionSort lt (insertionSort lt (insertionSort lt d 0 20) 20 40) 40 n)
theorem ins_none (lt : α → α → Bool) (d : Array α) (a : Nat) : insertionSort lt d a a = d := by
  rw [insertionSort, insOuter, if_neg (by omega)]
theorem stabS_spec (h : SWO lt') {n : Nat} {d : Array α} (hn : n ≤ 40) (hs : n ≤ d.size) (hc : Compat lt lt' 0 n d) : PermIn 0 n d (stabS lt n d) ∧ SortedIn lt' 0 n (stabS lt n d) := by
  have two : 20 < n → PermIn 0 n d (symM lt n 0 20 n (insertionSort lt (insertionSort lt d 0 20) 20 n)) ∧ SortedIn lt' 0 n (symM lt n 0 20 n (insertionSort lt (insertionSort lt d 0 20) 20 n)) := by
    intro h20
    obtain ⟨p1, s1⟩ := ins_spec (lt := lt) h (a := 0) (b := 20) (d := d) (by omega) (by omega) (fun i j h1 h2 h3 => hc i j h1 h2 (by omega))
    obtain ⟨d1, e1⟩ : ∃ d1, insertionSort lt d 0 20 = d1 := ⟨_, rfl⟩
    rw [e1] at p1 s1 ⊢
    have g1 : ∀ k, 20 ≤ k → d1[k]! = d[k]! := fun k hk => p1.2.1 k (.inr hk)
    have hsz1 : d1.size = d.size := p1.1
    obtain ⟨p2, s2⟩ := ins_spec (lt := lt) h (a := 20) (b := n) (d := d1) (by omega) (by omega) (fun i j h1 h2 h3 => by rw [g1 i h1, g1 j (by omega)]; exact hc i j (by omega) h2 h3)
    obtain ⟨d2, e2⟩ : ∃ d2, insertionSort lt d1 20 n = d2 := ⟨_, rfl⟩
    rw [e2] at p2 s2 ⊢
    have g2 : ∀ k, k < 20 → d2[k]! = d1[k]! := fun k hk => p2.2.1 k (.inl hk)
    have hsz2 : d2.size = d1.size := p2.1
    have hx1 : ∀ j, 20 ≤ j → j < n → ∀ i, 0 ≤ i → i < 20 → lt d1[j]! d1[i]! = lt' d1[j]! d1[i]! := fun j hj hjn =>
      permIn_all d d1 0 20 (fun x => lt d1[j]! x = lt' d1[j]! x) (by omega) p1 (fun i _ hi => by rw [g1 j hj]; exact hc i j (by omega) (by omega) hjn)
    have hx2 : ∀ i, i < 20 → ∀ j, 20 ≤ j → j < n → lt d2[j]! d1[i]! = lt' d2[j]! d1[i]! := fun i hi =>
      permIn_all d1 d2 20 n (fun y => lt y d1[i]! = lt' y d1[i]!) (by omega) p2 (fun j hj hjn => hx1 j hj hjn i (Nat.zero_le _) hi)
    obtain ⟨p3, s3⟩ := symM_spec (lt := lt) h n 0 20 n d2 (by omega) (by omega) h20 (by omega) ⟨fun i j h1 h2 h3 => by rw [g2 i (by omega), g2 j h3]; exact s1 i j h1 h2 h3, s2, fun i j h1 h2 h3 h4 => by rw [g2 i h2]; exact hx2 i h2 j h3 h4⟩
    exact ⟨permIn_trans _ _ _ _ _ (permIn_trans _ _ _ _ _ (permIn_mono d d1 0 20 0 n (Nat.le_refl _) (by omega) hs p1) (permIn_mono d1 d2 20 n 0 n (by omega) (Nat.le_refl _) (by omega) p2)) p3, s3⟩
  unfold stabS
  by_cases c1 : n < 20
  · rw [if_pos c1]
    exact ins_spec h (by omega) hs hc
  rw [if_neg c1]
  by_cases c2 : n = 20
  · rw [if_pos c2, ins_none]
    subst c2
    exact ins_spec h (by omega) hs hc
  rw [if_neg c2]
  by_cases c3 : n < 40
  · rw [if_pos c3]
    exact two (by omega)
  · rw [if_neg c3]
    have : n = 40 := by omega
    subst this
    rw [ins_none]
    exact two (by omega)
end
end Go.Sort
