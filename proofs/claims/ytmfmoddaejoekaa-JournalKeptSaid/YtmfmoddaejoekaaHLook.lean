/- Texts of this claim, laid into one. -/
import Derived.Test.YtmfmoddaejoekaaWMore
import Derived.Test.YtmfmoddaejoekaaHNum
import Derived.Test.YtmfmoddaejoekaaProg
section
/- Small general lemmas over the words, for contracts that are typed by hand. -/
namespace Go.Proofs.Ytmfmoddaejoekaa.P
open Go.RowKit Go.Proofs.YtmfmoddaejoekaaW.PrintWords Go.Proofs.YtmfmoddaejoekaaW.PrintLast Go.Proofs.YtmfmoddaejoekaaW.PrintMore
set_option linter.unusedVariables false
set_option linter.unusedSimpArgs false

theorem hinfo5 : (Try.prog.info? 5).map (fun i => (i.zero, i.size, i.bytes)) = some (some (.int .u8 0), 1, 1) := by kernel_rfl

theorem C_cells {k : IntKind} {w : World} {A : Option Addr} {n : Nat} {l : List Int} (h : (Kd.int k).C w A n l) : ∀ b, A = some b → ∀ j u, (nums k l)[j]? = some u → w.cell? (b.add j) = some u := by
  intro b hA j u hu
  have hj : j < l.length := by
    have := (List.getElem?_eq_some_iff.1 hu).1
    simpa [nums] using this
  have hn := h.1
  obtain ⟨ad, e, hc⟩ := Kd.at_int h (j : Int) (by omega) (by omega)
  rw [hA] at e
  cases e
  rw [Int.toNat_natCast] at hc
  rw [hc]
  have : (nums k l)[j]? = some (.int k (rd l j)) := by
    simp only [nums, List.getElem?_map, List.getElem?_eq_getElem hj, Option.map_some, rd, Int.toNat_natCast, List.getD_eq_getElem?_getD, Option.getD_some]
  rw [this] at hu
  exact hu
theorem C_none {k : IntKind} {w : World} {n : Nat} {l : List Int} (h : (Kd.int k).C w none n l) : n = 0 := by
  rcases Nat.eq_zero_or_pos n with h0 | h0
  · exact h0
  · obtain ⟨ad, e, _⟩ := h.2.2 h0
    cases e
theorem C_max {k : IntKind} {w : World} {A : Option Addr} {n : Nat} {l : List Int} (h : (Kd.int k).C w A n l) : n ≤ 9223372036854775807 := h.2.1
theorem R_of_ownsRow {k : IntKind} {e : Nat} {w : World} {base : Nat} {v : Value} {xs : List Int} (h : w.ownsRow base e 1 v xs.length (nums k xs)) : (Kd.int k).R e w base (fun _ => True) v xs :=
  Kd.R_of_own (enc := Value.int k) (h1 := fun _ => rfl) h (fun _ _ => trivial)

def Plain (W : World) (v : Value) : Prop := ∀ ad n c, v = .slice (some ad) n c → ∃ g cs t, ad = ⟨g, 0, none⟩ ∧ W.heap[g]? = some (.cells cs t (0, 0))
end Go.Proofs.Ytmfmoddaejoekaa.P
end
section
/- The plain law of cursors: what is read at a place of bytes. -/
namespace Go.Proofs.Ytmfmoddaejoekaa.P
open Go.RowKit Go.Proofs.YtmfmoddaejoekaaW.PrintWords Go.Proofs.YtmfmoddaejoekaaW.PrintLast Go.Proofs.YtmfmoddaejoekaaW.PrintMore
set_option linter.unusedVariables false
set_option linter.unusedSimpArgs false

def okB (l : List Int) : Bool := l.all fun x => decide (0 ≤ x ∧ x ≤ 255)
theorem okB_mem {l : List Int} (h : okB l = true) : ∀ x ∈ l, 0 ≤ x ∧ x ≤ 255 := by
  intro x hx
  have := List.all_eq_true.1 h x hx
  simpa using this
theorem okB_of {l : List Int} (h : ∀ x ∈ l, 0 ≤ x ∧ x ≤ 255) : okB l = true := by
  unfold okB
  rw [List.all_eq_true]
  intro x hx
  simpa using h x hx
theorem okB_drop {l : List Int} (h : okB l = true) (n : Nat) : okB (l.drop n) = true := okB_of fun x hx => okB_mem h x (List.mem_of_mem_drop hx)
theorem okB_take {l : List Int} (h : okB l = true) (n : Nat) : okB (l.take n) = true := okB_of fun x hx => okB_mem h x (List.mem_of_mem_take hx)
def val : Int → List Int → Int
  | n, [] => n
  | n, d :: t => val (256 * n + d) t
def lookB : List Int → Int × Int × Int
  | [] => (0, 0, 3)
  | k :: t => if 8 < k then (0, 0, 2) else if (t.length : Int) < k then (0, 0, 3) else if (0 < k ∧ t.getD 0 0 = 0) ∨ (k = 8 ∧ 127 < t.getD 0 0) then (0, 0, 2) else (val 0 (t.take k.toNat), k + 1, 0)
theorem w64' {x : Int} (h0 : -9223372036854775808 ≤ x) (h1 : x ≤ 9223372036854775807) : wrap64 x = x := by unfold wrap64; omega
theorem wraps_i64 (n : Int) (h0 : 0 ≤ n) (h1 : n < 2 ^ 63) : IntKind.i64.wrap n = n := by rw [IntKind.wrap_i64]; omega
theorem or_byte (x d : Int) (h0 : 0 ≤ x) (h1 : x ≤ 36028797018963967) (h2 : 0 ≤ d) (h3 : d ≤ 255) : Go.bits .or .i64 (wrap64 (x * 256)) (wrap64 d) = 256 * x + d := by
  rw [w64' (by omega) (by omega), w64' (by omega) (by omega)]
  have := bits_join .i64 63 (by decide) wraps_i64 8 (x * 256) d (by omega) (by omega) (by omega) (by omega) (by omega) (by omega)
  rw [this]; omega
def cap : Nat → Int
  | 0 => 1
  | n + 1 => 256 * cap n
theorem cap_pos : ∀ n, 0 < cap n
  | 0 => by decide
  | n + 1 => by have := cap_pos n; unfold cap; omega
theorem val_range : ∀ (l : List Int) (n m : Int), (∀ x ∈ l, 0 ≤ x ∧ x ≤ 255) → 0 ≤ n → n < m → 0 ≤ val n l ∧ val n l < m * cap l.length
  | [], n, m, _, h0, h1 => by simp [val, cap]; omega
  | d :: t, n, m, h, h0, h1 => by
    have hd := h d (by simp)
    have ih := val_range t (256 * n + d) (256 * m) (fun x hx => h x (by simp [hx])) (by omega) (by omega)
    simp only [val, List.length_cons, cap]
    rw [show m * (256 * cap t.length) = 256 * m * cap t.length by rw [← Int.mul_assoc, Int.mul_comm m 256]]
    exact ih
theorem val_snoc : ∀ (l : List Int) (n d : Int), val n (l ++ [d]) = 256 * val n l + d
  | [], n, d => rfl
  | x :: t, n, d => by simp only [List.cons_append, val]; exact val_snoc t _ d
theorem val_take (l : List Int) (i : Nat) (h : i < l.length) : val 0 (l.take (i + 1)) = 256 * val 0 (l.take i) + l[i] := by
  rw [List.take_succ_eq_append_getElem h, val_snoc]
theorem val_small (l : List Int) (hb : ∀ x ∈ l, 0 ≤ x ∧ x ≤ 255) (hl : l.length ≤ 8) (h8 : l.length = 8 → l.getD 0 0 ≤ 127) (i : Nat) (hi : i < l.length) : 0 ≤ val 0 (l.take i) ∧ val 0 (l.take i) ≤ 36028797018963967 := by
  have hbt : ∀ x ∈ l.take i, 0 ≤ x ∧ x ≤ 255 := fun x hx => hb x (List.mem_of_mem_take hx)
  by_cases h6 : i ≤ 6
  · have h := val_range (l.take i) 0 1 hbt (by omega) (by omega)
    have e : (l.take i).length = i := by rw [List.length_take]; omega
    rw [e] at h
    have hc : cap i ≤ 281474976710656 := by
      have : i = 0 ∨ i = 1 ∨ i = 2 ∨ i = 3 ∨ i = 4 ∨ i = 5 ∨ i = 6 := by omega
      rcases this with rfl | rfl | rfl | rfl | rfl | rfl | rfl <;> decide
    omega
  · obtain rfl : i = 7 := by omega
    cases l with
    | nil => simp at hi
    | cons x t =>
      have hx := hb x (by simp)
      have hx2 := h8 (by simp at hi hl ⊢; omega)
      simp only [List.getD_cons_zero] at hx2
      have e : (x :: t).take 7 = x :: t.take 6 := rfl
      rw [e]
      simp only [val]
      have h := val_range (t.take 6) (256 * 0 + x) 128 (fun y hy => hb y (by simp [List.mem_of_mem_take hy])) (by omega) (by omega)
      have e2 : (t.take 6).length = 6 := by rw [List.length_take]; simp at hi; omega
      rw [e2] at h
      have : cap 6 = 281474976710656 := by decide
      omega
theorem lookB_nil : lookB [] = (0, 0, 3) := rfl
theorem lookB_bad {x : Int} {t : List Int} (h : 8 < x) : lookB (x :: t) = (0, 0, 2) := by simp only [lookB]; rw [if_pos h]
theorem lookB_short {x : Int} {t : List Int} (h : ¬ 8 < x) (h2 : (t.length : Int) < x) : lookB (x :: t) = (0, 0, 3) := by simp only [lookB]; rw [if_neg h, if_pos h2]
theorem lookB_no {x : Int} {t : List Int} (h : ¬ 8 < x) (h2 : ¬ (t.length : Int) < x) (h3 : (0 < x ∧ t.getD 0 0 = 0) ∨ (x = 8 ∧ 127 < t.getD 0 0)) : lookB (x :: t) = (0, 0, 2) := by simp only [lookB]; rw [if_neg h, if_neg h2, if_pos h3]
theorem lookB_yes {x : Int} {t : List Int} (h : ¬ 8 < x) (h2 : ¬ (t.length : Int) < x) (h3 : ¬ ((0 < x ∧ t.getD 0 0 = 0) ∨ (x = 8 ∧ 127 < t.getD 0 0))) : lookB (x :: t) = (val 0 (t.take x.toNat), x + 1, 0) := by simp only [lookB]; rw [if_neg h, if_neg h2, if_neg h3]
end Go.Proofs.Ytmfmoddaejoekaa.P
end
