/- Texts of this claim, laid into one. -/
import Derived.Lib.BitFns
import Derived.Laws.MathBits
import Derived.Test.YtmfmoddaejoekaaWMore
import Derived.Test.YtmfmoddaejoekaaProg
section
/- Plain facts on the bytes of a number. -/
namespace Go.Proofs.Ytmfmoddaejoekaa.P
/-- How many bytes a number has. -/
def numLen (n : Nat) : Nat := (Lib.bitLen n + 7) / 8
/-- A number's bytes, the greatest first; f: how many at most. -/
def digsF : Nat → Nat → List Int
 | 0, _ => []
 | f + 1, n => if n = 0 then [] else digsF f (n / 256) ++ [((n % 256 : Nat) : Int)]
def digs (n : Nat) : List Int := digsF n n
theorem digsF_fuel : ∀ (f g n : Nat), n ≤ f → n ≤ g → digsF f n = digsF g n := by
 intro f
 induction f with
 | zero => intro g n h _; obtain rfl : n = 0 := by omega
           cases g <;> simp [digsF]
 | succ f ih =>
  intro g n h1 h2
  cases g with
  | zero => obtain rfl : n = 0 := by omega
            simp [digsF]
  | succ g =>
   simp only [digsF]
   split
   ·rfl
   ·rw [ih g (n / 256) (by omega) (by omega)]
theorem numLen_zero : numLen 0 = 0 := by decide
theorem numLen_small : ∀ n : Fin 256, n.val ≠ 0 → numLen n.val = 1 := by decide +kernel
theorem numLen_succ (n : Nat) (h0 : n ≠ 0) (h : n < 18446744073709551616) : numLen n = numLen (n / 256) + 1 := by
 by_cases h2 : n < 256
 ·have e : n / 256 = 0 := by omega
  rw [e, numLen_zero, numLen_small ⟨n, h2⟩ h0]
 ·unfold numLen
  rw [Lib.bitLen_shift8 n (by omega) h]
  omega
theorem digs_zero : digs 0 = [] := rfl
theorem digs_succ (n : Nat) (h0 : n ≠ 0) : digs n = digs (n / 256) ++ [((n % 256 : Nat) : Int)] := by
 obtain ⟨m, rfl⟩ : ∃ m, n = m + 1 := ⟨n - 1, by omega⟩
 unfold digs
 rw [digsF, if_neg h0, digsF_fuel m ((m + 1) / 256) ((m + 1) / 256) (by omega) (Nat.le_refl _)]
theorem digs_length : ∀ (f n : Nat), n ≤ f → n < 18446744073709551616 → (digs n).length = numLen n := by
 intro f
 induction f with
 | zero => intro n hn _; obtain rfl : n = 0 := by omega
           rw [digs_zero, numLen_zero]; rfl
 | succ f ih =>
  intro n hn h
  by_cases h0 : n = 0
  ·subst h0; rw [digs_zero, numLen_zero]; rfl
  ·rw [digs_succ n h0, numLen_succ n h0 h, List.length_append, ih (n / 256) (by omega) (by omega)]; rfl
theorem numLen_le : ∀ (k n : Nat), n < 256 ^ k → n < 18446744073709551616 → numLen n ≤ k := by
 intro k
 induction k with
 | zero => intro n h _; obtain rfl : n = 0 := by simpa using h
           rw [numLen_zero]; exact Nat.le_refl _
 | succ k ih =>
  intro n h h64
  by_cases h0 : n = 0
  ·subst h0; rw [numLen_zero]; omega
  ·rw [numLen_succ n h0 h64]
   have := ih (n / 256) (by rw [Nat.pow_succ] at h; omega) (by omega)
   omega
theorem numLen_lt : ∀ (k n : Nat), n < 18446744073709551616 → k < numLen n → n / 256 ^ k ≠ 0 := by
 intro k
 induction k with
 | zero => intro n _ h e
           simp at e; subst e; rw [numLen_zero] at h; omega
 | succ k ih =>
  intro n h64 h e
  by_cases h0 : n = 0
  ·subst h0; rw [numLen_zero] at h; omega
  ·rw [numLen_succ n h0 h64] at h
   refine ih (n / 256) (by omega) (by omega) ?_
   rw [Nat.pow_succ', ← Nat.div_div_eq_div_mul] at e
   exact e
theorem div_numLen (n : Nat) (h64 : n < 18446744073709551616) : n / 256 ^ numLen n = 0 := by
 have key : ∀ (f n : Nat), n ≤ f → n < 18446744073709551616 → n / 256 ^ numLen n = 0 := by
  intro f
  induction f with
  | zero => intro n hn _; obtain rfl : n = 0 := by omega
            simp
  | succ f ih =>
   intro n hn h
   by_cases h0 : n = 0
   ·subst h0; simp
   ·rw [numLen_succ n h0 h, Nat.pow_succ', ← Nat.div_div_eq_div_mul]
    exact ih _ (by omega) (by omega)
 exact key n n (Nat.le_refl _) h64
/-- One byte more. -/
theorem digs_step (n i : Nat) (h64 : n < 18446744073709551616) (h : i < numLen n) :
  digs (n / 256 ^ i) = digs (n / 256 ^ (i + 1)) ++ [((n / 256 ^ i % 256 : Nat) : Int)] := by
 rw [digs_succ _ (numLen_lt i n h64 h), Nat.pow_succ, Nat.div_div_eq_div_mul]
/-- A number, as it is put. -/
def numB (a : Int) : List Int := (numLen a.toNat : Int) :: digs a.toNat
theorem numB_length (a : Int) (h : a ≤ 9223372036854775807) : (numB a).length ≤ 9 := by
 have h1 := digs_length a.toNat a.toNat (Nat.le_refl _) (by omega)
 have h2 := numLen_le 8 a.toNat (by omega) (by omega)
 simp only [numB, List.length_cons]
 omega
theorem digs_byte : ∀ (f n : Nat), n ≤ f → ∀ x ∈ digs n, 0 ≤ x ∧ x ≤ 255 := by
 intro f
 induction f with
 | zero => intro n hn x hx; obtain rfl : n = 0 := by omega
           rw [digs_zero] at hx; cases hx
 | succ f ih =>
  intro n hn x hx
  by_cases h0 : n = 0
  ·subst h0; rw [digs_zero] at hx; cases hx
  ·rw [digs_succ n h0, List.mem_append] at hx
   rcases hx with hx | hx
   ·exact ih _ (by omega) x hx
   ·simp at hx; omega
theorem digs_le8 (n : Nat) (h : n ≤ 9223372036854775807) : (digs n).length ≤ 8 := by
 rw [digs_length n n (Nat.le_refl _) (by omega)]
 exact numLen_le 8 n (by omega) (by omega)
theorem div_le (n d : Nat) (h : n ≤ 9223372036854775807) : n / d ≤ 9223372036854775807 := Nat.le_trans (Nat.div_le_self n d) h
theorem shr_byte (m k : Int) (h0 : 0 ≤ m) (hk : 0 ≤ k) : m / 2 ^ (8 * k).toNat % 256 = ((m.toNat / 256 ^ k.toNat % 256 : Nat) : Int) := by
 obtain ⟨a, rfl⟩ := Int.eq_ofNat_of_zero_le h0
 obtain ⟨b, rfl⟩ := Int.eq_ofNat_of_zero_le hk
 have e : (8 * (b : Int)).toNat = 8 * b := by omega
 have e2 : ((2 : Int) ^ (8 * b)) = ((256 ^ b : Nat) : Int) := by rw [Int.pow_mul]; simp
 rw [e, Int.toNat_natCast, Int.toNat_natCast, e2]
 simp
end Go.Proofs.Ytmfmoddaejoekaa.P
end
section
/- Small general lemmas over the words, for contracts that are typed by hand. -/
namespace Go.Proofs.Ytmfmoddaejoekaa.P
open Go.RowKit Go.Proofs.YtmfmoddaejoekaaW.PrintWords Go.Proofs.YtmfmoddaejoekaaW.PrintLast Go.Proofs.YtmfmoddaejoekaaW.PrintMore
set_option linter.unusedVariables false
set_option linter.unusedSimpArgs false

theorem hinfo5 : (Try.prog.info? 5).map (fun i => (i.zero, i.size, i.bytes)) = some (some (.int .u8 0), 1, 1) := by kernel_rfl

theorem C_cells {k : IntKind} {w : World} {A : Option Addr} {n : Nat} {l : List Int} (h : (Kd.int k).C w A n l) : ∀ b, A = some b → ∀ j u, (nums k l)[j]? = some u → w.cell? (b.add j) = some u := by
 intro b hA j u hu
 have hj : j < l.length := by
  have := (List.getElem?_eq_some_iff.1 hu).1
  simpa [nums] using this
 have hn := h.1
 obtain ⟨ad, e, hc⟩ := Kd.at_int h (j : Int) (by omega) (by omega)
 rw [hA] at e
 cases e
 rw [Int.toNat_natCast] at hc
 rw [hc]
 have : (nums k l)[j]? = some (.int k (rd l j)) := by
  simp only [nums, List.getElem?_map, List.getElem?_eq_getElem hj, Option.map_some, rd, Int.toNat_natCast, List.getD_eq_getElem?_getD, Option.getD_some]
 rw [this] at hu
 exact hu
theorem C_none {k : IntKind} {w : World} {n : Nat} {l : List Int} (h : (Kd.int k).C w none n l) : n = 0 := by
 rcases Nat.eq_zero_or_pos n with h0 | h0
 ·exact h0
 ·obtain ⟨ad, e, _⟩ := h.2.2 h0
  cases e
theorem C_max {k : IntKind} {w : World} {A : Option Addr} {n : Nat} {l : List Int} (h : (Kd.int k).C w A n l) : n ≤ 9223372036854775807 := h.2.1
theorem R_of_ownsRow {k : IntKind} {e : Nat} {w : World} {base : Nat} {v : Value} {xs : List Int} (h : w.ownsRow base e 1 v xs.length (nums k xs)) : (Kd.int k).R e w base (fun _ => True) v xs :=
 Kd.R_of_own (enc := Value.int k) (h1 := fun _ => rfl) h (fun _ _ => trivial)

def Plain (W : World) (v : Value) : Prop := ∀ ad n c, v = .slice (some ad) n c → ∃ g cs t, ad = ⟨g, 0, none⟩ ∧ W.heap[g]? = some (.cells cs t (0, 0))
end Go.Proofs.Ytmfmoddaejoekaa.P
end
section
/- Plain facts on lists that are held against each other. -/
namespace Go.Proofs.Ytmfmoddaejoekaa.P
open Go.RowKit Go.Proofs.YtmfmoddaejoekaaW.PrintWords Go.Proofs.YtmfmoddaejoekaaW.PrintLast Go.Proofs.YtmfmoddaejoekaaW.PrintMore
set_option linter.unusedVariables false
set_option linter.unusedSimpArgs false
theorem rd_nat (l : List Int) (i : Nat) (h : i < l.length) : rd l (i : Int) = l[i] := by
 simp [rd, List.getD_eq_getElem?_getD, List.getElem?_eq_getElem h]
theorem w64 {x : Int} (h0 : -9223372036854775808 ≤ x) (h1 : x ≤ 9223372036854775807) : wrap64 x = x := by unfold wrap64; omega
/-- A loop that holds two lists of one length against each other. -/
theorem same_loop (a b : List Int) (hl : a.length = b.length) (hm : a.length ≤ 9223372036854775806) (F : Nat → Int → Option Bool)
  (hF : ∀ k i, F (k + 1) i = if i < (a.length : Int) then (if 0 ≤ i then (if i < (b.length : Int) then (if rd a i = rd b i then F k (wrap64 (i + 1)) else some false) else none) else none) else some true) :
  ∀ (d k i : Nat), a.length - i = d → i ≤ a.length → d < k → F k (i : Int) = some (decide (a.drop i = b.drop i)) := by
 intro d
 induction d with
 | zero =>
  intro k i hd hi hk
  obtain ⟨k, rfl⟩ : ∃ m, k = m + 1 := ⟨k - 1, by omega⟩
  rw [hF, if_neg (by omega), List.drop_eq_nil_of_le (by omega), List.drop_eq_nil_of_le (by omega)]
  simp
 | succ d ih =>
  intro k i hd hi hk
  obtain ⟨k, rfl⟩ : ∃ m, k = m + 1 := ⟨k - 1, by omega⟩
  have h1 : i < a.length := by omega
  have h2 : i < b.length := by omega
  rw [hF, if_pos (by omega), if_pos (by omega), if_pos (by omega), rd_nat a i h1, rd_nat b i h2, List.drop_eq_getElem_cons h1, List.drop_eq_getElem_cons h2, w64 (by omega) (by omega)]
  by_cases e : a[i] = b[i]
  ·rw [if_pos e]
   have := ih k (i + 1) (by omega) (by omega) (by omega)
   rw [Int.natCast_add] at this
   rw [show ((i : Int) + 1) = (i : Int) + ((1 : Nat) : Int) by simp, this]
   have e3 : (a[i] :: a.drop (i + 1) = b[i] :: b.drop (i + 1)) ↔ (a.drop (i + 1) = b.drop (i + 1)) := by
    rw [e]; exact ⟨fun h => (List.cons.inj h).2, fun h => by rw [h]⟩
   exact congrArg some (decide_eq_decide.2 e3.symm)
  ·rw [if_neg e]
   exact congrArg some (decide_eq_false (fun h => e (List.cons.inj h).1)).symm

end Go.Proofs.Ytmfmoddaejoekaa.P
end
section
/- The plain law of cursors: what is read at a place of bytes. -/
namespace Go.Proofs.Ytmfmoddaejoekaa.P
open Go.RowKit Go.Proofs.YtmfmoddaejoekaaW.PrintWords Go.Proofs.YtmfmoddaejoekaaW.PrintLast Go.Proofs.YtmfmoddaejoekaaW.PrintMore
set_option linter.unusedVariables false
set_option linter.unusedSimpArgs false

def okB (l : List Int) : Bool := l.all fun x => decide (0 ≤ x ∧ x ≤ 255)
theorem okB_mem {l : List Int} (h : okB l = true) : ∀ x ∈ l, 0 ≤ x ∧ x ≤ 255 := by
 intro x hx
 have := List.all_eq_true.1 h x hx
 simpa using this
theorem okB_of {l : List Int} (h : ∀ x ∈ l, 0 ≤ x ∧ x ≤ 255) : okB l = true := by
 unfold okB
 rw [List.all_eq_true]
 intro x hx
 simpa using h x hx
theorem okB_drop {l : List Int} (h : okB l = true) (n : Nat) : okB (l.drop n) = true := okB_of fun x hx => okB_mem h x (List.mem_of_mem_drop hx)
theorem okB_take {l : List Int} (h : okB l = true) (n : Nat) : okB (l.take n) = true := okB_of fun x hx => okB_mem h x (List.mem_of_mem_take hx)
def val : Int → List Int → Int
 | n, [] => n
 | n, d :: t => val (256 * n + d) t
def lookB : List Int → Int × Int × Int
 | [] => (0, 0, 3)
 | k :: t => if 8 < k then (0, 0, 2) else if (t.length : Int) < k then (0, 0, 3) else if (0 < k ∧ t.getD 0 0 = 0) ∨ (k = 8 ∧ 127 < t.getD 0 0) then (0, 0, 2) else (val 0 (t.take k.toNat), k + 1, 0)
theorem w64' {x : Int} (h0 : -9223372036854775808 ≤ x) (h1 : x ≤ 9223372036854775807) : wrap64 x = x := by unfold wrap64; omega
theorem wraps_i64 (n : Int) (h0 : 0 ≤ n) (h1 : n < 2 ^ 63) : IntKind.i64.wrap n = n := by rw [IntKind.wrap_i64]; omega
theorem or_byte (x d : Int) (h0 : 0 ≤ x) (h1 : x ≤ 36028797018963967) (h2 : 0 ≤ d) (h3 : d ≤ 255) : Go.bits .or .i64 (wrap64 (x * 256)) (wrap64 d) = 256 * x + d := by
 rw [w64' (by omega) (by omega), w64' (by omega) (by omega)]
 have := bits_join .i64 63 (by decide) wraps_i64 8 (x * 256) d (by omega) (by omega) (by omega) (by omega) (by omega) (by omega)
 rw [this]; omega
def cap : Nat → Int
 | 0 => 1
 | n + 1 => 256 * cap n
theorem cap_pos : ∀ n, 0 < cap n
 | 0 => by decide
 | n + 1 => by have := cap_pos n; unfold cap; omega
theorem val_range : ∀ (l : List Int) (n m : Int), (∀ x ∈ l, 0 ≤ x ∧ x ≤ 255) → 0 ≤ n → n < m → 0 ≤ val n l ∧ val n l < m * cap l.length
 | [], n, m, _, h0, h1 => by simp [val, cap]; omega
 | d :: t, n, m, h, h0, h1 => by
  have hd := h d (by simp)
  have ih := val_range t (256 * n + d) (256 * m) (fun x hx => h x (by simp [hx])) (by omega) (by omega)
  simp only [val, List.length_cons, cap]
  rw [show m * (256 * cap t.length) = 256 * m * cap t.length by rw [← Int.mul_assoc, Int.mul_comm m 256]]
  exact ih
theorem val_snoc : ∀ (l : List Int) (n d : Int), val n (l ++ [d]) = 256 * val n l + d
 | [], n, d => rfl
 | x :: t, n, d => by simp only [List.cons_append, val]; exact val_snoc t _ d
theorem val_take (l : List Int) (i : Nat) (h : i < l.length) : val 0 (l.take (i + 1)) = 256 * val 0 (l.take i) + l[i] := by
 rw [List.take_succ_eq_append_getElem h, val_snoc]
theorem val_small (l : List Int) (hb : ∀ x ∈ l, 0 ≤ x ∧ x ≤ 255) (hl : l.length ≤ 8) (h8 : l.length = 8 → l.getD 0 0 ≤ 127) (i : Nat) (hi : i < l.length) : 0 ≤ val 0 (l.take i) ∧ val 0 (l.take i) ≤ 36028797018963967 := by
 have hbt : ∀ x ∈ l.take i, 0 ≤ x ∧ x ≤ 255 := fun x hx => hb x (List.mem_of_mem_take hx)
 by_cases h6 : i ≤ 6
 ·have h := val_range (l.take i) 0 1 hbt (by omega) (by omega)
  have e : (l.take i).length = i := by rw [List.length_take]; omega
  rw [e] at h
  have hc : cap i ≤ 281474976710656 := by
   have : i = 0 ∨ i = 1 ∨ i = 2 ∨ i = 3 ∨ i = 4 ∨ i = 5 ∨ i = 6 := by omega
   rcases this with rfl | rfl | rfl | rfl | rfl | rfl | rfl <;> decide
  omega
 ·obtain rfl : i = 7 := by omega
  cases l with
  | nil => simp at hi
  | cons x t =>
   have hx := hb x (by simp)
   have hx2 := h8 (by simp at hi hl ⊢; omega)
   simp only [List.getD_cons_zero] at hx2
   have e : (x :: t).take 7 = x :: t.take 6 := rfl
   rw [e]
   simp only [val]
   have h := val_range (t.take 6) (256 * 0 + x) 128 (fun y hy => hb y (by simp [List.mem_of_mem_take hy])) (by omega) (by omega)
   have e2 : (t.take 6).length = 6 := by rw [List.length_take]; simp at hi; omega
   rw [e2] at h
   have : cap 6 = 281474976710656 := by decide
   omega
theorem lookB_nil : lookB [] = (0, 0, 3) := rfl
theorem lookB_bad {x : Int} {t : List Int} (h : 8 < x) : lookB (x :: t) = (0, 0, 2) := by simp only [lookB]; rw [if_pos h]
theorem lookB_short {x : Int} {t : List Int} (h : ¬ 8 < x) (h2 : (t.length : Int) < x) : lookB (x :: t) = (0, 0, 3) := by simp only [lookB]; rw [if_neg h, if_pos h2]
theorem lookB_no {x : Int} {t : List Int} (h : ¬ 8 < x) (h2 : ¬ (t.length : Int) < x) (h3 : (0 < x ∧ t.getD 0 0 = 0) ∨ (x = 8 ∧ 127 < t.getD 0 0)) : lookB (x :: t) = (0, 0, 2) := by simp only [lookB]; rw [if_neg h, if_neg h2, if_pos h3]
theorem lookB_yes {x : Int} {t : List Int} (h : ¬ 8 < x) (h2 : ¬ (t.length : Int) < x) (h3 : ¬ ((0 < x ∧ t.getD 0 0 = 0) ∨ (x = 8 ∧ 127 < t.getD 0 0))) : lookB (x :: t) = (val 0 (t.take x.toNat), x + 1, 0) := by simp only [lookB]; rw [if_neg h, if_neg h2, if_neg h3]
end Go.Proofs.Ytmfmoddaejoekaa.P
end
