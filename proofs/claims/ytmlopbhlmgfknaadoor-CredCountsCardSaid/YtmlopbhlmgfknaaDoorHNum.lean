/- Plain facts on the bytes of a number. -/
import Derived.Lib.BitFns
import Derived.Laws.MathBits
namespace Go.Proofs.YtmlopbhlmgfknaaDoor.P
def numLen (n : Nat) : Nat := (Lib.bitLen n + 7) / 8
def digsF : Nat → Nat → List Int
  | 0, _ => []
  | f + 1, n => if n = 0 then [] else digsF f (n / 256) ++ [((n % 256 : Nat) : Int)]
def digs (n : Nat) : List Int := digsF n n
theorem digsF_fuel : ∀ (f g n : Nat), n ≤ f → n ≤ g → digsF f n = digsF g n := by
  intro f
  induction f with
  | zero => intro g n h _; obtain rfl : n = 0 := by omega
            cases g <;> simp [digsF]
  | succ f ih =>
    intro g n h1 h2
    cases g with
    | zero => obtain rfl : n = 0 := by omega
              simp [digsF]
    | succ g =>
      simp only [digsF]
      split
      · rfl
      · rw [ih g (n / 256) (by omega) (by omega)]
theorem numLen_zero : numLen 0 = 0 := by decide
theorem numLen_small : ∀ n : Fin 256, n.val ≠ 0 → numLen n.val = 1 := by decide +kernel
theorem numLen_succ (n : Nat) (h0 : n ≠ 0) (h : n < 18446744073709551616) : numLen n = numLen (n / 256) + 1 := by
  by_cases h2 : n < 256
  · have e : n / 256 = 0 := by omega
    rw [e, numLen_zero, numLen_small ⟨n, h2⟩ h0]
  · unfold numLen
    rw [Lib.bitLen_shift8 n (by omega) h]
    omega
theorem digs_zero : digs 0 = [] := rfl
theorem digs_succ (n : Nat) (h0 : n ≠ 0) : digs n = digs (n / 256) ++ [((n % 256 : Nat) : Int)] := by
  obtain ⟨m, rfl⟩ : ∃ m, n = m + 1 := ⟨n - 1, by omega⟩
  unfold digs
  rw [digsF, if_neg h0, digsF_fuel m ((m + 1) / 256) ((m + 1) / 256) (by omega) (Nat.le_refl _)]
theorem digs_length : ∀ (f n : Nat), n ≤ f → n < 18446744073709551616 → (digs n).length = numLen n := by
  intro f
  induction f with
  | zero => intro n hn _; obtain rfl : n = 0 := by omega
            rw [digs_zero, numLen_zero]; rfl
  | succ f ih =>
    intro n hn h
    by_cases h0 : n = 0
    · subst h0; rw [digs_zero, numLen_zero]; rfl
    · rw [digs_succ n h0, numLen_succ n h0 h, List.length_append, ih (n / 256) (by omega) (by omega)]; rfl
theorem numLen_le : ∀ (k n : Nat), n < 256 ^ k → n < 18446744073709551616 → numLen n ≤ k := by
  intro k
  induction k with
  | zero => intro n h _; obtain rfl : n = 0 := by simpa using h
            rw [numLen_zero]; exact Nat.le_refl _
  | succ k ih =>
    intro n h h64
    by_cases h0 : n = 0
    · subst h0; rw [numLen_zero]; omega
    · rw [numLen_succ n h0 h64]
      have := ih (n / 256) (by rw [Nat.pow_succ] at h; omega) (by omega)
      omega
theorem numLen_lt : ∀ (k n : Nat), n < 18446744073709551616 → k < numLen n → n / 256 ^ k ≠ 0 := by
  intro k
  induction k with
  | zero => intro n _ h e
            simp at e; subst e; rw [numLen_zero] at h; omega
  | succ k ih =>
    intro n h64 h e
    by_cases h0 : n = 0
    · subst h0; rw [numLen_zero] at h; omega
    · rw [numLen_succ n h0 h64] at h
      refine ih (n / 256) (by omega) (by omega) ?_
      rw [Nat.pow_succ', ← Nat.div_div_eq_div_mul] at e
      exact e
theorem div_numLen (n : Nat) (h64 : n < 18446744073709551616) : n / 256 ^ numLen n = 0 := by
  have key : ∀ (f n : Nat), n ≤ f → n < 18446744073709551616 → n / 256 ^ numLen n = 0 := by
    intro f
    induction f with
    | zero => intro n hn _; obtain rfl : n = 0 := by omega
              simp
    | succ f ih =>
      intro n hn h
      by_cases h0 : n = 0
      · subst h0; simp
      · rw [numLen_succ n h0 h, Nat.pow_succ', ← Nat.div_div_eq_div_mul]
        exact ih _ (by omega) (by omega)
  exact key n n (Nat.le_refl _) h64
theorem digs_step (n i : Nat) (h64 : n < 18446744073709551616) (h : i < numLen n) :
    digs (n / 256 ^ i) = digs (n / 256 ^ (i + 1)) ++ [((n / 256 ^ i % 256 : Nat) : Int)] := by
  rw [digs_succ _ (numLen_lt i n h64 h), Nat.pow_succ, Nat.div_div_eq_div_mul]
def numB (a : Int) : List Int := (numLen a.toNat : Int) :: digs a.toNat
theorem numB_length (a : Int) (h : a ≤ 9223372036854775807) : (numB a).length ≤ 9 := by
  have h1 := digs_length a.toNat a.toNat (Nat.le_refl _) (by omega)
  have h2 := numLen_le 8 a.toNat (by omega) (by omega)
  simp only [numB, List.length_cons]
  omega
theorem digs_le8 (n : Nat) (h : n ≤ 9223372036854775807) : (digs n).length ≤ 8 := by
  rw [digs_length n n (Nat.le_refl _) (by omega)]
  exact numLen_le 8 n (by omega) (by omega)
theorem div_le (n d : Nat) (h : n ≤ 9223372036854775807) : n / d ≤ 9223372036854775807 := Nat.le_trans (Nat.div_le_self n d) h
theorem shr_byte (m k : Int) (h0 : 0 ≤ m) (hk : 0 ≤ k) : m / 2 ^ (8 * k).toNat % 256 = ((m.toNat / 256 ^ k.toNat % 256 : Nat) : Int) := by
  obtain ⟨a, rfl⟩ := Int.eq_ofNat_of_zero_le h0
  obtain ⟨b, rfl⟩ := Int.eq_ofNat_of_zero_le hk
  have e : (8 * (b : Int)).toNat = 8 * b := by omega
  have e2 : ((2 : Int) ^ (8 * b)) = ((256 ^ b : Nat) : Int) := by rw [Int.pow_mul]; simp
  rw [e, Int.toNat_natCast, Int.toNat_natCast, e2]
  simp
end Go.Proofs.YtmlopbhlmgfknaaDoor.P
