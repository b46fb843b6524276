/- The plain law of layer 3: what is put is read again, what is cut is too short, no other bytes say the same. -/
import Derived.Test.YtpnmmkoiemeodaaDoorWPut
import Derived.Test.YtpnmmkoiemeodaaDoorHCursorR
namespace Go.Proofs.YtpnmmkoiemeodaaDoor.P
open Go.RowKit Go.Proofs.YtpnmmkoiemeodaaDoorW.PrintWords Go.Proofs.YtpnmmkoiemeodaaDoorW.PrintLast Go.Proofs.YtpnmmkoiemeodaaDoorW.PrintMore
set_option linter.unusedVariables false
set_option linter.unusedSimpArgs false
theorem val_digs : ∀ (f n : Nat), n ≤ f → val 0 (digs n) = (n : Int) := by
  intro f
  induction f with
  | zero => intro n hn; obtain rfl : n = 0 := by omega
            rfl
  | succ f ih =>
    intro n hn
    by_cases h : n = 0
    · subst h; rfl
    · rw [digs_succ n h, val_snoc, ih (n / 256) (by omega)]; omega
theorem getD_append_left (l m : List Int) (h : l ≠ []) : (l ++ m).getD 0 0 = l.getD 0 0 := by
  cases l with
  | nil => exact absurd rfl h
  | cons x t => rfl
theorem digs_ne (n : Nat) (h : n ≠ 0) : digs n ≠ [] := by rw [digs_succ n h]; simp
theorem digs_first : ∀ (f n : Nat), n ≤ f → n ≠ 0 → (digs n).getD 0 0 ≠ 0 := by
  intro f
  induction f with
  | zero => intro n hn h; omega
  | succ f ih =>
    intro n hn h
    rw [digs_succ n h]
    by_cases h2 : n / 256 = 0
    · rw [h2, digs_zero]; simp; omega
    · rw [getD_append_left _ _ (digs_ne _ h2)]; exact ih _ (by omega) h2
theorem digs_top (n : Nat) (hn : n ≤ 9223372036854775807) (h8 : (digs n).length = 8) : (digs n).getD 0 0 ≤ 127 := by
  have hv := val_digs n n (Nat.le_refl _)
  have hb := digs_byte n n (Nat.le_refl _)
  generalize digs n = l at *
  match l, h8 with
  | x :: t, h8 =>
    have hx := hb x (by simp)
    have := val_ge t (256 * 0 + x) (fun y hy => hb y (by simp [hy])) (by omega)
    rw [show t.length = 7 by simpa using h8] at this
    simp only [val] at hv
    simp only [List.getD_cons_zero]
    have hc : cap 7 = 72057594037927936 := by decide
    rw [hc] at this
    omega
theorem lookB_numB (a : Int) (z : List Int) (h0 : 0 ≤ a) (h1 : a ≤ 9223372036854775807) : lookB (numB a ++ z) = (a, ((numB a).length : Int), 0) := by
  obtain ⟨n, rfl⟩ : ∃ n : Nat, a = (n : Int) := ⟨a.toNat, by omega⟩
  have hl := digs_length n n (Nat.le_refl _) (by omega)
  have h8 := digs_le8 n (by omega)
  unfold numB
  rw [Int.toNat_natCast, List.cons_append]
  rw [lookB_yes (by omega) (by rw [List.length_append]; omega) ?_]
  · rw [Int.toNat_natCast, List.take_left' (by omega), val_digs n n (Nat.le_refl _), List.length_cons, hl]
    simp
  · rintro (⟨h2, h3⟩ | ⟨h2, h3⟩)
    · have hn : n ≠ 0 := by rintro rfl; rw [numLen_zero] at h2; omega
      rw [getD_append_left _ _ (digs_ne n hn)] at h3
      exact digs_first n n (Nat.le_refl _) hn h3
    · have hn : n ≠ 0 := by rintro rfl; rw [numLen_zero] at h2; omega
      rw [getD_append_left _ _ (digs_ne n hn)] at h3
      have := digs_top n (by omega) (by omega)
      omega
theorem digs_val : ∀ (f : Nat) (l : List Int), l.length ≤ f → (∀ x ∈ l, 0 ≤ x ∧ x ≤ 255) → (l ≠ [] → l.getD 0 0 ≠ 0) → digs (val 0 l).toNat = l := by
  intro f
  induction f with
  | zero => intro l hl _ _; have e : l = [] := List.length_eq_zero_iff.1 (by omega)
            subst e; rfl
  | succ f ih =>
    intro l hl hb h0
    by_cases he : l = []
    · subst he; rfl
    · obtain ⟨m, d, rfl⟩ : ∃ m d, l = m ++ [d] := ⟨l.dropLast, l.getLast he, (List.dropLast_concat_getLast he).symm⟩
      have hd := hb d (by simp)
      have hm : ∀ x ∈ m, 0 ≤ x ∧ x ≤ 255 := fun x hx => hb x (by simp [hx])
      have hr := (val_range m 0 1 hm (by omega) (by omega)).1
      have hi := ih m (by simp at hl; omega) hm (fun hne => by rw [← getD_append_left m [d] hne]; exact h0 he)
      rw [val_snoc]
      by_cases hme : m = []
      · subst hme
        have hd0 : d ≠ 0 := by simpa using h0 he
        simp only [val, List.nil_append]
        rw [digs_succ _ (by omega), show (256 * 0 + d).toNat / 256 = 0 by omega, digs_zero]
        simp; omega
      · have hv : val 0 m ≠ 0 := by
          intro hz
          rw [hz] at hi
          exact hme (by rw [← hi]; rfl)
        rw [digs_succ _ (by omega), show (256 * val 0 m + d).toNat / 256 = (val 0 m).toNat by omega, hi]
        congr 1
        simp; omega
theorem lookB_only (b : List Int) (n u : Int) (hb : okB b = true) (h : lookB b = (n, u, 0)) : 0 ≤ n ∧ n ≤ 9223372036854775807 ∧ b.take u.toNat = numB n ∧ u = ((numB n).length : Int) ∧ u ≤ (b.length : Int) := by
  have hok := lookB_ok b hb (by rw [h])
  rw [h] at hok
  simp only at hok
  have key : b.take u.toNat = numB n := by
    cases b with
    | nil => rw [lookB_nil] at h; cases h
    | cons k t =>
      by_cases h8 : 8 < k
      · rw [lookB_bad h8] at h; cases h
      · by_cases hs : (t.length : Int) < k
        · rw [lookB_short h8 hs] at h; cases h
        · by_cases hn : (0 < k ∧ t.getD 0 0 = 0) ∨ (k = 8 ∧ 127 < t.getD 0 0)
          · rw [lookB_no h8 hs hn] at h; cases h
          · rw [lookB_yes h8 hs hn] at h
            injection h with e1 e2
            injection e2 with e2 _
            subst e1; subst e2
            have hk := okB_mem hb k (by simp)
            have ht : ∀ x ∈ t.take k.toNat, 0 ≤ x ∧ x ≤ 255 := fun x hx => okB_mem hb x (by simp [List.mem_of_mem_take hx])
            have hd : digs (val 0 (t.take k.toNat)).toNat = t.take k.toNat := by
              refine digs_val _ _ (Nat.le_refl _) ht (fun hne => ?_)
              have hk0 : 0 < k := by
                by_cases hk0 : 0 < k
                · exact hk0
                · exact absurd (by rw [show k.toNat = 0 by omega, List.take_zero]) hne
              have := fun h => hn (.inl ⟨hk0, h⟩)
              cases t with
              | nil => simp at hne
              | cons y t =>
                obtain ⟨m, hm⟩ : ∃ m, k.toNat = m + 1 := ⟨k.toNat - 1, by omega⟩
                rw [hm, List.take_succ_cons]
                simpa using this
            rw [show (k + 1).toNat = k.toNat + 1 by omega, List.take_succ_cons]
            unfold numB
            have hl : (t.take k.toNat).length = k.toNat := by rw [List.length_take]; omega
            rw [hd, ← digs_length _ _ (Nat.le_refl _) (by omega), hd, hl]
            congr 1; omega
  refine ⟨hok.1, hok.2.1, key, ?_, hok.2.2.2⟩
  have := congrArg List.length key
  rw [List.length_take] at this
  omega
theorem strOf_bytesOf (s : ByteArray) : strOfNums (bytesOf s) = s := by
  have : (List.map (fun n : Int => UInt8.ofNat n.toNat) (bytesOf s)) = s.data.toList := by
    unfold bytesOf
    rw [List.map_map]
    refine (List.map_congr_left (g := id) (fun x _ => ?_)).trans (List.map_id _)
    simp
  unfold strOfNums
  rw [this]
theorem bytes_strOf (l : List Int) (h : ∀ x ∈ l, 0 ≤ x ∧ x ≤ 255) : bytesOf (strOfNums l) = l := by
  unfold bytesOf strOfNums
  show List.map _ (List.map _ l) = l
  rw [List.map_map]
  refine (List.map_congr_left (g := id) (fun x hx => ?_)).trans (List.map_id _)
  have := h x hx
  simp only [Function.comp, id]
  rw [UInt8.toNat_ofNat']
  omega
theorem okB_append {a b : List Int} (ha : okB a = true) (hb : okB b = true) : okB (a ++ b) = true := okB_of fun x hx => (List.mem_append.1 hx).elim (okB_mem ha x) (okB_mem hb x)
theorem okB_numB (a : Int) (h : a ≤ 9223372036854775807) : okB (numB a) = true := okB_of fun x hx => by
  have hl := digs_length a.toNat a.toNat (Nat.le_refl _) (by omega)
  have h8 := digs_le8 a.toNat (by omega)
  unfold numB at hx
  rcases List.mem_cons.1 hx with h | h
  · subst h; omega
  · exact digs_byte _ _ (Nat.le_refl _) x h
theorem okB_bytesOf (s : ByteArray) : okB (bytesOf s) = true := okB_of fun x hx => by
  unfold bytesOf at hx
  obtain ⟨y, _, rfl⟩ := List.mem_map.1 hx
  have := y.toNat_lt
  omega
theorem okB_textB (s : ByteArray) (h : s.size ≤ 1000000) : okB (textB s) = true := okB_append (okB_numB _ (by omega)) (okB_bytesOf s)
theorem numAt_look (b : List Int) (q : Nat) (least most n u e1 : Int) (hb : okB b = true) (hq : q ≤ b.length) (hm : b.length ≤ 1000000000) (hl : lookB (b.drop q) = (n, u, e1)) :
    numAt b (q : Int) 0 least most = if e1 = 0 then (if n < least then (0, (q : Int), 2) else if most < n then (0, (q : Int), 2) else (n, (q : Int) + u, 0)) else (0, (q : Int), e1) := by
  have hk := lookB_ok (b.drop q) (okB_drop hb q)
  rw [hl, List.length_drop] at hk
  simp only at hk
  unfold numAt
  rw [if_pos rfl, Int.toNat_natCast, hl]
  simp only
  by_cases he : e1 = 0
  · have := hk he
    rw [if_pos he, if_pos he, w64 (by omega) (by omega)]
  · rw [if_neg he, if_neg he]
theorem numAt_err (b : List Int) (p e least most : Int) (h : e ≠ 0) : numAt b p e least most = (0, p, e) := by unfold numAt; rw [if_neg h]
theorem textAt_err (b : List Int) (p e most : Int) (h : e ≠ 0) : textAt b p e most = (ByteArray.empty, p, e) := by unfold textAt; rw [numAt_err b p e 0 most h]; simp only; rw [if_neg h]
end Go.Proofs.YtpnmmkoiemeodaaDoor.P
