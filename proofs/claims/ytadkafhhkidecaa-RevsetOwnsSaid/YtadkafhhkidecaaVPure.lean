/- The plain law of layer 10: vectors as lists, with no program in sight. -/
import Derived.Test.YtadkafhhkidecaaHVLives
import Derived.Test.YtadkafhhkidecaaHPlain
import Derived.Test.YtadkafhhkidecaaP3
import Derived.Test.YtadkafhhkidecaaP5
import Derived.Test.YtadkafhhkidecaaP5
import Derived.Test.YtadkafhhkidecaaP11
import Derived.Test.YtadkafhhkidecaaP2
import Derived.Test.YtadkafhhkidecaaP1
namespace Go.Proofs.Ytadkafhhkidecaa.P
open Go.RowKit Go.Proofs.YtadkafhhkidecaaW.PrintWords Go.Proofs.YtadkafhhkidecaaW.PrintLast Go.Proofs.YtadkafhhkidecaaW.PrintMore
set_option linter.unusedVariables false
set_option linter.unusedSimpArgs false

theorem ref10_Same (k : Nat) (a b : List Int) (hm : a.length ≤ 9223372036854775806) (hk : a.length < k) : liveryref10_Same.f k a b = some (decide (a = b)) := by
  unfold liveryref10_Same.f
  by_cases hl : a.length = b.length
  · rw [if_pos (by omega)]
    have := same_loop a b hl hm (fun k i => liveryref10_Same.l0 k a b i) (fun k i => by simp only [liveryref10_Same.l0]) a.length k 0 (by omega) (by omega) (by omega)
    simpa using this
  · rw [if_neg (by omega)]
    simp only [Option.some.injEq]
    exact (decide_eq_false (fun e => hl (by rw [e]))).symm
theorem sl_Equal (k : Nat) (a b : List Int) (hm : a.length ≤ 9223372036854775806) (hk : a.length < k) : slices_Equal_int_int.f k a b = some (decide (a = b)) := by
  unfold slices_Equal_int_int.f
  by_cases hl : a.length = b.length
  · rw [if_pos (by omega)]
    have := same_loop a b hl hm (fun k i => slices_Equal_int_int.l0 k a b (a.length : Int) i) (fun k i => by
      simp only [slices_Equal_int_int.l0]
      by_cases h : i < (a.length : Int)
      · simp only [if_pos h]
      · simp only [if_neg h]) a.length k 0 (by omega) (by omega) (by omega)
    simpa using this
  · rw [if_neg (by omega)]
    simp only [Option.some.injEq]
    exact (decide_eq_false (fun e => hl (by rw [e]))).symm
/-! ### What is told of each domain -/
theorem getV_eq (l : List Int) (d : Int) (h1 : 1 ≤ d) (h2 : d ≤ 16) (h3 : d ≤ l.length) : getV l d = mx 0 (mn (rd l (d - 1)) 1099511627776) := by
  unfold getV
  rw [if_neg (by omega), if_neg (by unfold mn; split <;> omega)]
theorem getV_out (l : List Int) (d : Int) (h : d < 1 ∨ 16 < d ∨ (l.length : Int) < d) : getV l d = 0 := by
  unfold getV
  by_cases h1 : d < 1
  · rw [if_pos h1]
  · rw [if_neg h1, if_pos (by unfold mn; split <;> omega)]
theorem ref_Get (k : Nat) (l : List Int) (d : Int) (hk : 0 < k) : liveryref10_Get.f k l d = some (getV l d) := by
  obtain ⟨k, rfl⟩ : ∃ m, k = m + 1 := ⟨k - 1, by omega⟩
  unfold liveryref10_Get.f
  simp only [liveryref10_Get.j0]
  by_cases h1 : d < 1
  · rw [if_pos h1, getV_out l d (.inl h1)]; rfl
  · rw [if_neg h1]
    by_cases h2 : d > 16
    · rw [if_pos h2, getV_out l d (.inr (.inl h2))]; rfl
    · rw [if_neg h2]
      by_cases h3 : d > (l.length : Int)
      · rw [if_pos (by simpa using h3), getV_out l d (.inr (.inr h3))]
      · rw [if_neg (by simpa using h3), w64 (by omega) (by omega), if_pos (by omega), if_pos (by omega), getV_eq l d (by omega) (by omega) (by omega)]
        unfold mx mn
        repeat' split
        all_goals first | rfl | (congr 1; omega) | (exfalso; omega)
theorem bare_loop (of : Int → Int) (hof : ∀ d, 0 ≤ of d) : ∀ (n k : Nat), n ≤ 16 → n < k → liveryref10_bare.l0 k (rowOf of 16) (n : Int) = some ((rowOf of 16).take (lastPos of n)) := by
  intro n
  induction n with
  | zero =>
    intro k _ hk
    obtain ⟨k, rfl⟩ : ∃ m, k = m + 1 := ⟨k - 1, by omega⟩
    simp [liveryref10_bare.l0, lastPos, rowOf_length]
  | succ n ih =>
    intro k hn hk
    obtain ⟨k, rfl⟩ : ∃ m, k = m + 1 := ⟨k - 1, by omega⟩
    have hl := rowOf_length of 16
    simp only [liveryref10_bare.l0]
    rw [if_pos (by omega), w64 (by omega) (by omega), if_pos (by omega), if_pos (by rw [hl]; omega)]
    have e : rd (rowOf of 16) (((n + 1 : Nat) : Int) - 1) = of ((n : Int) + 1) := by
      rw [show (((n + 1 : Nat) : Int) - 1) = (n : Int) by omega, rd_nat _ _ (by rw [hl]; omega)]
      simp [rowOf]
    rw [e]
    have hp := hof ((n : Int) + 1)
    by_cases h0 : of ((n : Int) + 1) = 0
    · rw [if_pos h0, show (((n + 1 : Nat) : Int) - 1) = (n : Int) by omega, ih k (by omega) (by omega), lastPos, if_neg (by omega)]
    · rw [if_neg h0, if_pos (by omega), if_pos (by rw [hl]; omega), lastPos, if_pos (by omega), Int.toNat_natCast]
theorem ref_bare (of : Int → Int) (hof : ∀ d, 0 ≤ of d) (k : Nat) (hk : 16 < k) : liveryref10_bare.f k (rowOf of 16) = some (bareOf of) := by
  unfold liveryref10_bare.f bareOf
  rw [rowOf_length]
  exact bare_loop of hof 16 k (by omega) hk
/-- A loop that tells of each domain in turn, and takes the noughts off. -/
theorem row_loop (of : Int → Int) (hof : ∀ d, 0 ≤ of d) (F : Nat → List Int → Int → Option (List Int))
    (hF : ∀ k (x : List Int) (i : Int), 17 < k → x.length < 17592186044416 → 1 ≤ i → F (k + 1) x i = if i ≤ 16 then F k (x ++ [of i]) (wrap64 (i + 1)) else (liveryref10_bare.f k x).bind fun t => some t) :
    ∀ (d k i : Nat), 16 - i = d → i ≤ 16 → d + 20 < k → F k (rowOf of i) ((i : Int) + 1) = some (bareOf of) := by
  intro d
  induction d with
  | zero =>
    intro k i hd hi hk
    obtain ⟨k, rfl⟩ : ∃ m, k = m + 1 := ⟨k - 1, by omega⟩
    obtain rfl : i = 16 := by omega
    rw [hF k _ _ (by omega) (by rw [rowOf_length]; omega) (by omega), if_neg (by omega), ref_bare of hof k (by omega)]
    rfl
  | succ d ih =>
    intro k i hd hi hk
    obtain ⟨k, rfl⟩ : ∃ m, k = m + 1 := ⟨k - 1, by omega⟩
    rw [hF k _ _ (by omega) (by rw [rowOf_length]; omega) (by omega), if_pos (by omega), w64 (by omega) (by omega), ← rowOf_succ]
    have := ih k (i + 1) (by omega) (by omega) (by omega)
    rw [Int.natCast_add] at this
    exact this
theorem rowOf_zero (of : Int → Int) : rowOf of 0 = [] := rfl
theorem ref_Bare (k : Nat) (l : List Int) (hk : 40 < k) : liveryref10_Bare.f k l = some (bareOf (getV l)) := by
  have := row_loop (getV l) (fun d => (getV_range l d).1) (fun k x i => liveryref10_Bare.l0 k l x i) (fun k x i h1 h2 h3 => by
    simp only [liveryref10_Bare.l0]
    rw [ref_Get k l i (by omega)]
    simp only [Option.bind_some]
    rw [if_pos h2]) 16 k 0 (by omega) (by omega) (by omega)
  simpa [liveryref10_Bare.f, rowOf_zero] using this
/-- With: what is told. -/
def withV (l : List Int) (a1 a2 : Int) : Int → Int := fun d => if d = a1 then mx 0 (mn a2 1099511627776) else getV l d
theorem withV_range (l : List Int) (a1 a2 d : Int) : 0 ≤ withV l a1 a2 d ∧ withV l a1 a2 d ≤ 1099511627776 := by
  unfold withV
  have := getV_range l d
  unfold mx mn
  repeat' split
  all_goals omega
/-- Join: what is told. -/
def joinV (a b : List Int) : Int → Int := fun d => mx (getV a d) (getV b d)
theorem joinV_range (a b : List Int) (d : Int) : 0 ≤ joinV a b d ∧ joinV a b d ≤ 1099511627776 := by
  unfold joinV
  have h1 := getV_range a d
  have h2 := getV_range b d
  unfold mx
  split <;> omega
theorem ref_Join (k : Nat) (a b : List Int) (hk : 40 < k) : liveryref10_Join.f k a b = some (bareOf (joinV a b)) := by
  have := row_loop (joinV a b) (fun d => (joinV_range a b d).1) (fun k x i => liveryref10_Join.l0 k a b x i) (fun k x i h1 h2 h3 => by
    simp only [liveryref10_Join.l0]
    rw [ref_Get k a i (by omega), ref_Get k b i (by omega)]
    simp only [Option.bind_some]
    by_cases hi : i ≤ 16
    · rw [if_pos hi, if_pos hi]
      by_cases e : getV b i > getV a i
      · rw [if_pos e, if_pos h2, joinV, mx, if_pos e]
      · rw [if_neg e, if_pos h2, joinV, mx, if_neg (by omega)]
    · rw [if_neg hi, if_neg hi]) 16 k 0 (by omega) (by omega) (by omega)
  simpa [liveryref10_Join.f, rowOf_zero] using this
theorem bareOf_le (of : Int → Int) : (bareOf of).length ≤ 16 := by rw [bareOf_length]; exact lastPos_le of 16
theorem take20 (l : List Int) : (l.take 20).length ≤ 20 := by rw [List.length_take]; omega
/-! ### Bare vectors and what they tell -/
theorem lastPos_congr (f g : Int → Int) : ∀ n : Nat, (∀ i : Nat, i < n → f ((i : Int) + 1) = g ((i : Int) + 1)) → lastPos f n = lastPos g n
  | 0, _ => rfl
  | n + 1, h => by rw [lastPos, lastPos, h n (by omega), lastPos_congr f g n (fun i hi => h i (by omega))]
theorem rowOf_congr (f g : Int → Int) (n : Nat) (h : ∀ i : Nat, i < n → f ((i : Int) + 1) = g ((i : Int) + 1)) : rowOf f n = rowOf g n := by
  unfold rowOf
  exact List.map_congr_left fun i hi => h i (List.mem_range.1 hi)
theorem bareOf_congr (f g : Int → Int) (h : ∀ d : Int, 1 ≤ d → d ≤ 16 → f d = g d) : bareOf f = bareOf g := by
  have h' : ∀ i : Nat, i < 16 → f ((i : Int) + 1) = g ((i : Int) + 1) := fun i hi => h _ (by omega) (by omega)
  rw [bareOf, bareOf, rowOf_congr f g 16 h', lastPos_congr f g 16 h']
/-- Behind the last one there is nothing. -/
theorem lastPos_zero (of : Int → Int) (hof : ∀ d, 0 ≤ of d) : ∀ (n i : Nat), lastPos of n ≤ i → i < n → of ((i : Int) + 1) = 0
  | 0, _, _, h => by omega
  | n + 1, i, h, hi => by
    rw [lastPos] at h
    split at h
    · omega
    · rename_i hz
      have := hof ((n : Int) + 1)
      by_cases e : i = n
      · subst e; omega
      · exact lastPos_zero of hof n i h (by omega)
theorem getV_bareOf (of : Int → Int) (hof : ∀ d, 0 ≤ of d ∧ of d ≤ 1099511627776) (d : Int) (h1 : 1 ≤ d) (h2 : d ≤ 16) : getV (bareOf of) d = of d := by
  have hl := bareOf_length of
  have hp := lastPos_le of 16
  by_cases h : d ≤ ((bareOf of).length : Int)
  · rw [getV_eq _ d h1 h2 h]
    obtain ⟨i, hi⟩ : ∃ i : Nat, d = (i : Int) + 1 := ⟨(d - 1).toNat, by omega⟩
    subst hi
    have hi2 : i < (bareOf of).length := by omega
    rw [show ((i : Int) + 1 - 1) = (i : Int) by omega, rd_nat _ i hi2]
    have e : (bareOf of)[i] = of ((i : Int) + 1) := by simp [bareOf, rowOf]
    rw [e]
    have := hof ((i : Int) + 1)
    unfold mx mn
    repeat' split
    all_goals omega
  · rw [getV_out _ d (.inr (.inr (by omega)))]
    obtain ⟨i, hi⟩ : ∃ i : Nat, d = (i : Int) + 1 := ⟨(d - 1).toNat, by omega⟩
    subst hi
    exact (lastPos_zero of (fun d => (hof d).1) 16 i (by omega) (by omega)).symm
theorem bareOf_inj (f g : Int → Int) (hf : ∀ d, 0 ≤ f d ∧ f d ≤ 1099511627776) (hg : ∀ d, 0 ≤ g d ∧ g d ≤ 1099511627776) : bareOf f = bareOf g ↔ ∀ d : Int, 1 ≤ d → d ≤ 16 → f d = g d := by
  constructor
  · intro h d h1 h2
    rw [← getV_bareOf f hf d h1 h2, ← getV_bareOf g hg d h1 h2, h]
  · exact bareOf_congr f g
/-- One vector says no less than another one. -/
def geV (a b : List Int) : Prop := ∀ d : Int, 1 ≤ d → d ≤ 16 → getV b d ≤ getV a d
theorem covers_iff (a b : List Int) : bareOf (joinV a b) = bareOf (getV a) ↔ geV a b := by
  rw [bareOf_inj _ _ (joinV_range a b) (getV_range a)]
  constructor
  · intro h d h1 h2
    have := h d h1 h2
    unfold joinV mx at this
    split at this <;> omega
  · intro h d h1 h2
    have := h d h1 h2
    unfold joinV mx
    split <;> omega
theorem joinV_eq (a b : List Int) : vector_Join.f a b = some (bareOf (joinV a b)) := rfl
theorem lives_eq : liverylaw10_lives.f = some true := rfl
theorem same_refl (k : Nat) (of : Int → Int) (hk : 40 < k) : liveryref10_Same.f k (bareOf of) (bareOf of) = some true := by
  rw [ref10_Same k _ _ (by have := bareOf_le of; omega) (by have := bareOf_le of; omega)]; simp
end Go.Proofs.Ytadkafhhkidecaa.P
