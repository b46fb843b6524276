/- The plain law of layer 5: what is put is read, and what is read is put as just those bytes. -/
import Derived.Test.YtpnmmkoiemeodaaDoorC5R
namespace Go.Proofs.YtpnmmkoiemeodaaDoor.P
open Go.RowKit Go.Proofs.YtpnmmkoiemeodaaDoorW.PrintWords Go.Proofs.YtpnmmkoiemeodaaDoorW.PrintLast Go.Proofs.YtpnmmkoiemeodaaDoorW.PrintMore
set_option linter.unusedVariables false
set_option linter.unusedSimpArgs false
/-! ### what is put is read -/
/-- At the place q, text t stands, and z behind it. -/
def AtB (b : List Int) (q : Nat) (z : List Int) : Prop := b.drop q = z ∧ q ≤ b.length
theorem AtB.next {b : List Int} {q : Nat} {t z : List Int} (h : AtB b q (t ++ z)) : AtB b (q + t.length) z := by
  obtain ⟨h1, h2⟩ := h
  have hl : (b.drop q).length = t.length + z.length := by rw [h1, List.length_append]
  rw [List.length_drop] at hl
  exact ⟨by rw [← List.drop_drop, h1, List.drop_left], by omega⟩
theorem num_fwd {b : List Int} {q : Nat} {z : List Int} {n : Int} (lo hi : Int) (hb : okB b = true) (hm : b.length ≤ 1000000) (h : AtB b q (numB n ++ z)) (h0 : 0 ≤ n) (h1 : n ≤ 1000000) (h2 : lo ≤ n) (h3 : n ≤ hi) :
    numAt b (q : Int) 0 lo hi = (n, ((q + (numB n).length : Nat) : Int), 0) := by
  have := numAt_look b q lo hi n ((numB n).length : Int) 0 hb h.2 (by omega) (by rw [h.1]; exact lookB_numB n z h0 (by omega))
  rw [if_pos rfl, if_neg (by omega), if_neg (by omega)] at this
  rw [this]
  refine Prod.ext rfl (Prod.ext ?_ rfl)
  show (q : Int) + ((numB n).length : Int) = ((q + (numB n).length : Nat) : Int)
  omega
theorem textB_len' (s : ByteArray) : (textB s).length = (numB (s.size : Int)).length + s.size := by simp only [textB, List.length_append, bytesOf_length]
theorem text_fwd {b : List Int} {q : Nat} {z : List Int} {s : ByteArray} (hb : okB b = true) (hm : b.length ≤ 1000000) (h : AtB b q (textB s ++ z)) (hs : s.size ≤ 8) :
    textAt b (q : Int) 0 8 = (s, ((q + (textB s).length : Nat) : Int), 0) := by
  have ha : AtB b q (numB (s.size : Int) ++ (bytesOf s ++ z)) := by rw [← List.append_assoc]; exact h
  have h4 := AtB.next ha
  have h5 := AtB.next h4
  have hl : (b.drop (q + (numB (s.size : Int)).length)).length = s.size + z.length := by rw [h4.1, List.length_append, bytesOf_length]
  rw [List.length_drop] at hl
  have h42 := h4.2
  have := textAt_look b q 8 (s.size : Int) ((numB (s.size : Int)).length : Int) 0 hb h.2 (by omega) (by rw [ha.1]; exact lookB_numB _ _ (by omega) (by omega))
  rw [if_pos rfl, if_neg (by omega), if_neg (by omega)] at this
  rw [this]
  have e2 : (b.drop ((q : Int) + ((numB (s.size : Int)).length : Int)).toNat).take ((s.size : Int)).toNat = bytesOf s := by
    rw [show ((q : Int) + ((numB (s.size : Int)).length : Int)).toNat = q + (numB (s.size : Int)).length by omega, h4.1, Int.toNat_natCast, List.take_left' (by rw [bytesOf_length])]
  rw [e2, strOf_bytesOf]
  refine Prod.ext rfl (Prod.ext ?_ rfl)
  have := textB_len' s
  show (q : Int) + ((numB (s.size : Int)).length : Int) + (s.size : Int) = ((q + (textB s).length : Nat) : Int)
  omega
theorem name_fwd {b : List Int} {q : Nat} {z : List Int} {s : ByteArray} (hb : okB b = true) (hm : b.length ≤ 1000000) (h : AtB b q (textB s ++ z)) (hs : mayB s = true) :
    nameAt b (q : Int) 0 = (s, ((q + (textB s).length : Nat) : Int), 0) := by
  unfold nameAt
  rw [text_fwd hb hm h (may_size hs)]
  simp only
  rw [if_pos hs]
theorem dom_num (o : ByteArray) (h : 0 < numR o) : domB (numR o) = o := by
  have := numR_le o
  unfold domB
  rw [if_pos (by omega)]
  exact (numR_back o (by omega)).symm
theorem roleB_parts {o n : ByteArray} (h : roleB o n = true) : 0 < numR o ∧ mayB n = true := by
  unfold roleB at h
  simpa only [Bool.and_eq_true, decide_eq_true_eq] using h
theorem role_fwd {b : List Int} {q : Nat} {z : List Int} {o n : ByteArray} (hb : okB b = true) (hm : b.length ≤ 1000000) (h : AtB b q (roleP o n ++ z)) (hr : roleB o n = true) :
    roleAt b (q : Int) 0 = (o, n, ((q + (roleP o n).length : Nat) : Int), 0) := by
  obtain ⟨h1, h2⟩ := roleB_parts hr
  have hle := numR_le o
  have ha : AtB b q (numB (numR o) ++ (textB n ++ z)) := by rw [← List.append_assoc]; exact h
  unfold roleAt
  rw [num_fwd 1 16 hb hm ha (by omega) (by omega) (by omega) (by omega)]
  simp only
  rw [name_fwd hb hm (AtB.next ha) h2, dom_num o h1]
  simp only [roleP, List.length_append, Nat.add_assoc]
theorem readC_put (d q : Int) (n : ByteArray) (c : Int) (w ao an bo bn : ByteArray) (h : credB d q n c w ao an bo bn = true) (hb : okB (putC d q n c w ao an bo bn) = true) (hm : (putC d q n c w ao an bo bn).length ≤ 1000000) :
    readC (putC d q n c w ao an bo bn) 0 0 = (d, q, n, c, w, ao, an, bo, bn, ((putC d q n c w ao an bo bn).length : Int), 0) := by
  have hs := cred_small h
  obtain ⟨b, eb⟩ : ∃ b, b = putC d q n c w ao an bo bn := ⟨_, rfl⟩
  rw [← eb] at hb hm ⊢
  have a0 : AtB b 0 (numB d ++ (numB q ++ (textB n ++ (numB c ++ (bodyP c w ao an bo bn ++ []))))) := ⟨by rw [List.drop_zero, eb, List.append_nil]; rfl, Nat.zero_le _⟩
  have a1 := AtB.next a0
  have a2 := AtB.next a1
  have a3 := AtB.next a2
  have a4 := AtB.next a3
  have a5 := AtB.next a4
  have hend : b.length = 0 + (numB d).length + (numB q).length + (textB n).length + (numB c).length + (bodyP c w ao an bo bn).length := by
    rw [eb]; simp only [putC, List.length_append]; omega
  unfold credB at h
  simp only [Bool.and_eq_true, decide_eq_true_eq] at h
  obtain ⟨⟨hd, hn⟩, hk⟩ := h
  unfold readC headC
  have n1 := num_fwd 1 16 hb hm a0 (by omega) (by omega) (by omega) (by omega)
  have n2 := num_fwd 1 4000 hb hm a1 (by omega) (by omega) (by omega) (by omega)
  have n3 := name_fwd hb hm a2 hn
  have n4 := num_fwd 1 4 hb hm a3 (by omega) (by omega) (by omega) (by omega)
  rw [show ((0 : Nat) : Int) = 0 from rfl] at n1
  simp only [n1, n2, n3, n4]
  unfold restC bodyP at *
  by_cases k1 : c = 1
  · rw [if_pos k1] at hk a4 hend ⊢
    simp only [Bool.and_eq_true, eB_iff] at hk
    obtain ⟨⟨h2, rfl, rfl⟩, rfl, rfl⟩ := hk
    rw [name_fwd hb hm a4 h2]
    simp only [finR, if_true, hend]
  rw [if_neg k1] at hk a4 hend ⊢
  by_cases k2 : c = 2
  · rw [if_pos k2] at hk a4 hend
    rw [if_neg (show ¬ c = 3 by omega), if_neg (show ¬ c = 4 by omega), if_pos k2]
    simp only [Bool.and_eq_true, eB_iff] at hk
    obtain ⟨⟨h3, rfl, rfl⟩, rfl⟩ := hk
    rw [role_fwd hb hm a4 h3]
    simp only [finR, if_true, hend]
  rw [if_neg k2] at hk a4 hend
  by_cases k3 : c = 3
  · rw [if_pos k3] at hk a4 hend ⊢
    simp only [Bool.and_eq_true, eB_iff] at hk
    obtain ⟨⟨⟨rfl, h5⟩, rfl, h7⟩, rfl⟩ := hk
    rw [List.append_assoc] at a4
    have a6 := AtB.next a4
    rw [name_fwd hb hm a4 h5]
    simp only
    rw [name_fwd hb hm a6 h7]
    simp only [finR, if_true, hend, List.length_append]
    refine Prod.ext rfl (Prod.ext rfl (Prod.ext rfl (Prod.ext rfl (Prod.ext rfl (Prod.ext rfl (Prod.ext rfl (Prod.ext rfl (Prod.ext rfl (Prod.ext ?_ rfl)))))))))
    first | omega | (simp only; omega)
  rw [if_neg k3] at hk a4 hend ⊢
  by_cases k4 : c = 4
  · rw [if_pos k4] at hk ⊢
    simp only [Bool.and_eq_true, eB_iff] at hk
    obtain ⟨⟨h5, h6⟩, rfl⟩ := hk
    rw [List.append_assoc] at a4
    have a6 := AtB.next a4
    rw [role_fwd hb hm a4 h5]
    simp only
    rw [role_fwd hb hm a6 h6]
    simp only [finR, if_true, hend, List.length_append]
    refine Prod.ext rfl (Prod.ext rfl (Prod.ext rfl (Prod.ext rfl (Prod.ext rfl (Prod.ext rfl (Prod.ext rfl (Prod.ext rfl (Prod.ext rfl (Prod.ext ?_ rfl)))))))))
    first | omega | (simp only; omega)
  · rw [if_neg k4] at hk
    cases hk
theorem putC_len (d q : Int) (n : ByteArray) (c : Int) (w ao an bo bn : ByteArray) (h : credB d q n c w ao an bo bn = true) : (putC d q n c w ao an bo bn).length ≤ 1000 := by
  obtain ⟨hd, hc, h1, h2, h3, h4, h5, h6⟩ := cred_small h
  have b1 := numB_length d (by omega)
  have b2 := numB_length q (by omega)
  have b3 := textB_len n h1
  have b4 := numB_length c (by omega)
  have b5 := textB_len w h2
  have b6 := textB_len an h4
  have b7 := textB_len bn h6
  have g1 := numR_le ao
  have g2 := numR_le bo
  have b8 := numB_length (numR ao) (by omega)
  have b9 := numB_length (numR bo) (by omega)
  unfold putC bodyP roleP
  simp only [List.length_append]
  repeat' split
  all_goals ((try simp only [List.length_append]); omega)
theorem okB_putC (d q : Int) (n : ByteArray) (c : Int) (w ao an bo bn : ByteArray) (h : credB d q n c w ao an bo bn = true) : okB (putC d q n c w ao an bo bn) = true := by
  obtain ⟨hd, hc, h1, h2, h3, h4, h5, h6⟩ := cred_small h
  have g1 := numR_le ao
  have g2 := numR_le bo
  have t1 := okB_textB n (by omega)
  have t2 := okB_textB w (by omega)
  have t3 := okB_textB an (by omega)
  have t4 := okB_textB bn (by omega)
  have r1 : okB (roleP ao an) = true := okB_append (okB_numB _ (by omega)) t3
  have r2 : okB (roleP bo bn) = true := okB_append (okB_numB _ (by omega)) t4
  refine okB_append (okB_numB _ (by omega)) (okB_append (okB_numB _ (by omega)) (okB_append t1 (okB_append (okB_numB _ (by omega)) ?_)))
  unfold bodyP
  repeat' split
  · exact t2
  · exact r1
  · exact okB_append t3 t4
  · exact okB_append r1 r2
/-! ### what is read is put as just those bytes -/
theorem num_bytes (b : List Int) (p lo hi : Int) (hb : okB b = true) (hl : b.length ≤ 1000000) (h0 : 0 ≤ p) (h1 : p ≤ (b.length : Int)) (h : (numAt b p 0 lo hi).2.2 = 0) :
    b.take (numAt b p 0 lo hi).2.1.toNat = b.take p.toNat ++ numB (numAt b p 0 lo hi).1 := by
  obtain ⟨q, rfl⟩ : ∃ q : Nat, p = (q : Int) := ⟨p.toNat, by omega⟩
  obtain ⟨⟨n, u, e1⟩, hlk⟩ : ∃ x, lookB (b.drop q) = x := ⟨_, rfl⟩
  have e := numAt_look b q lo hi n u e1 hb (by omega) (by omega) hlk
  rw [e] at h ⊢
  by_cases he : e1 = 0
  · subst he
    rw [if_pos rfl] at h ⊢
    obtain ⟨_, _, k2, k3, k4⟩ := lookB_only (b.drop q) n u (okB_drop hb q) hlk
    rw [List.length_drop] at k4
    by_cases c1 : n < lo
    · rw [if_pos c1] at h; simp at h
    · rw [if_neg c1] at h ⊢
      by_cases c2 : hi < n
      · rw [if_pos c2] at h; simp at h
      · rw [if_neg c2] at h ⊢
        simp only
        rw [show ((q : Int) + u).toNat = q + u.toNat by omega, Int.toNat_natCast, List.take_add, k2]
  · rw [if_neg he] at h
    exact absurd h he
theorem text_bytes (b : List Int) (p : Int) (hb : okB b = true) (hl : b.length ≤ 1000000) (h0 : 0 ≤ p) (h1 : p ≤ (b.length : Int)) (h : (textAt b p 0 8).2.2 = 0) :
    b.take (textAt b p 0 8).2.1.toNat = b.take p.toNat ++ textB (textAt b p 0 8).1 := by
  obtain ⟨q, rfl⟩ : ∃ q : Nat, p = (q : Int) := ⟨p.toNat, by omega⟩
  obtain ⟨⟨n, u, e1⟩, hlk⟩ : ∃ x, lookB (b.drop q) = x := ⟨_, rfl⟩
  have e := textAt_look b q 8 n u e1 hb (by omega) (by omega) hlk
  rw [e] at h ⊢
  by_cases he : e1 = 0
  · subst he
    rw [if_pos rfl] at h ⊢
    obtain ⟨k0, _, k2, k3, k4⟩ := lookB_only (b.drop q) n u (okB_drop hb q) hlk
    rw [List.length_drop] at k4
    by_cases c1 : 8 < n
    · rw [if_pos c1] at h; simp at h
    · rw [if_neg c1] at h ⊢
      by_cases c2 : (b.length : Int) - (q : Int) - u < n
      · rw [if_pos c2] at h; simp at h
      · rw [if_neg c2] at h ⊢
        simp only
        have hl2 : ((b.drop ((q : Int) + u).toNat).take n.toNat).length = n.toNat := by rw [List.length_take, List.length_drop]; omega
        have hbs := bytes_strOf ((b.drop ((q : Int) + u).toNat).take n.toNat) (fun y hy => okB_mem hb y (List.mem_of_mem_drop (List.mem_of_mem_take hy)))
        unfold textB
        rw [hbs, strOfNums_size, hl2, show ((n.toNat : Nat) : Int) = n by omega, ← k2, show ((q : Int) + u + n).toNat = (q + u.toNat) + n.toNat by omega, Int.toNat_natCast, show ((q : Int) + u).toNat = q + u.toNat by omega, List.take_add, List.take_add, List.append_assoc]
  · rw [if_neg he] at h
    exact absurd h he
theorem name_bytes (b : List Int) (p : Int) (hb : okB b = true) (hl : b.length ≤ 1000000) (h0 : 0 ≤ p) (h1 : p ≤ (b.length : Int)) (h : (nameAt b p 0).2.2 = 0) :
    mayB (nameAt b p 0).1 = true ∧ b.take (nameAt b p 0).2.1.toNat = b.take p.toNat ++ textB (nameAt b p 0).1 := by
  unfold nameAt at h ⊢
  by_cases hm : mayB (textAt b p 0 8).1 = true
  · rw [if_pos hm] at h ⊢
    exact ⟨hm, text_bytes b p hb hl h0 h1 h⟩
  · rw [if_neg hm] at h
    simp only at h
    split at h
    · omega
    · rename_i hne; exact absurd h hne
theorem name_err (b : List Int) (p e : Int) (h : e ≠ 0) : (nameAt b p e).2.2 ≠ 0 := by
  unfold nameAt
  rw [textAt_err b p e 8 h]
  simp only
  split
  · exact h
  · simp only [if_neg h]; exact h
theorem role_err (b : List Int) (p e : Int) (h : e ≠ 0) : (roleAt b p e).2.2.2 ≠ 0 := by
  unfold roleAt
  rw [numAt_err b p e 1 16 h]
  exact name_err b p e h
theorem num_dom (d : Int) (h1 : 1 ≤ d) (h2 : d ≤ 16) : numR (domB d) = d := by
  unfold domB
  rw [if_pos ⟨h1, h2⟩]
  have := numR_dn ⟨d.toNat, by omega⟩ (by show d.toNat ≠ 0; omega)
  simp only at this
  omega
theorem role_bytes (b : List Int) (p : Int) (hb : okB b = true) (hl : b.length ≤ 1000000) (h0 : 0 ≤ p) (h1 : p ≤ (b.length : Int)) (h : (roleAt b p 0).2.2.2 = 0) :
    roleB (roleAt b p 0).1 (roleAt b p 0).2.1 = true ∧ b.take (roleAt b p 0).2.2.1.toNat = b.take p.toNat ++ roleP (roleAt b p 0).1 (roleAt b p 0).2.1 := by
  unfold roleAt at h ⊢
  have hp := numAt_place b p 0 1 16 hb h0 h1 (by omega)
  simp only at h ⊢
  by_cases he : (numAt b p 0 1 16).2.2 = 0
  · have hk := numAt_ok b p 1 16 hb h0 h1 (by omega) he
    have hn := num_bytes b p 1 16 hb hl h0 h1 he
    rw [he] at h ⊢
    obtain ⟨q1, q2⟩ := name_bytes b _ hb hl hp.1 hp.2 h
    have hd := num_dom _ hk.1 hk.2.1
    refine ⟨?_, ?_⟩
    · unfold roleB
      rw [hd, q1, decide_eq_true (by omega)]; rfl
    · rw [q2, hn, roleP, hd, List.append_assoc]
  · exact absurd h (name_err b _ _ he)
theorem finR_zero {d q : Int} {n : ByteArray} {k : Int} {w ao an bo bn : ByteArray} {p e : Int} {d' q' : Int} {n' : ByteArray} {k' : Int} {w' ao' an' bo' bn' : ByteArray} {p' e' : Int}
    (h : finR d q n k w ao an bo bn p e = (d', q', n', k', w', ao', an', bo', bn', p', e')) :
    (e' = 0 ∧ e = 0 ∧ (d, q, n, k, w, ao, an, bo, bn, p) = (d', q', n', k', w', ao', an', bo', bn', p')) ∨ (e' ≠ 0 ∧ (d', q', n', k', w', ao', an', bo', bn') = (0, 0, (⟨#[]⟩ : ByteArray), 0, (⟨#[]⟩ : ByteArray), (⟨#[]⟩ : ByteArray), (⟨#[]⟩ : ByteArray), (⟨#[]⟩ : ByteArray), (⟨#[]⟩ : ByteArray))) := by
  unfold finR at h
  by_cases he : e = 0
  · rw [if_pos he] at h
    injection h with h1 h; injection h with h2 h; injection h with h3 h; injection h with h4 h; injection h with h5 h; injection h with h6 h; injection h with h7 h; injection h with h8 h; injection h with h9 h; injection h with h10 h11
    subst h1 h2 h3 h4 h5 h6 h7 h8 h9 h10 h11
    exact .inl ⟨he, he, rfl⟩
  · rw [if_neg he] at h
    injection h with h1 h; injection h with h2 h; injection h with h3 h; injection h with h4 h; injection h with h5 h; injection h with h6 h; injection h with h7 h; injection h with h8 h; injection h with h9 h; injection h with h10 h11
    subst h1 h2 h3 h4 h5 h6 h7 h8 h9 h10 h11
    exact .inr ⟨he, rfl⟩
theorem eB_e : eB (⟨#[]⟩ : ByteArray) = true := (eB_iff _).2 rfl
theorem rest_err (b : List Int) (d q : Int) (n : ByteArray) (k p e : Int) {d' q' : Int} {n' : ByteArray} {k' : Int} {w' ao' an' bo' bn' : ByteArray} {p' e' : Int} (he : e ≠ 0)
    (h : restC b d q n k p e = (d', q', n', k', w', ao', an', bo', bn', p', e')) : e' ≠ 0 := by
  unfold restC at h
  have r1 := name_err b p e he
  have r2 := role_err b p e he
  have r3 := name_err b (nameAt b p e).2.1 (nameAt b p e).2.2 r1
  have r4 := role_err b (roleAt b p e).2.2.1 (roleAt b p e).2.2.2 r2
  by_cases k1 : k = 1
  · rw [if_pos k1] at h
    rcases finR_zero h with ⟨_, h2, _⟩ | ⟨h1, _⟩
    · exact absurd h2 r1
    · exact h1
  rw [if_neg k1] at h
  by_cases k3 : k = 3
  · rw [if_pos k3] at h
    rcases finR_zero h with ⟨_, h2, _⟩ | ⟨h1, _⟩
    · exact absurd h2 r3
    · exact h1
  rw [if_neg k3] at h
  by_cases k4 : k = 4
  · rw [if_pos k4] at h
    rcases finR_zero h with ⟨_, h2, _⟩ | ⟨h1, _⟩
    · exact absurd h2 r4
    · exact h1
  rw [if_neg k4] at h
  by_cases k2 : k = 2
  · rw [if_pos k2] at h
    rcases finR_zero h with ⟨_, h2, _⟩ | ⟨h1, _⟩
    · exact absurd h2 r2
    · exact h1
  rw [if_neg k2] at h
  rcases finR_zero h with ⟨_, h2, _⟩ | ⟨h1, _⟩
  · exact absurd h2 he
  · exact h1
theorem rest_zero (b : List Int) (d q : Int) (n : ByteArray) (k p e : Int) {d' q' : Int} {n' : ByteArray} {k' : Int} {w' ao' an' bo' bn' : ByteArray} {p' e' : Int}
    (h : restC b d q n k p e = (d', q', n', k', w', ao', an', bo', bn', p', e')) (he : e' ≠ 0) : (d', q', n', k', w', ao', an', bo', bn') = (0, 0, (⟨#[]⟩ : ByteArray), 0, (⟨#[]⟩ : ByteArray), (⟨#[]⟩ : ByteArray), (⟨#[]⟩ : ByteArray), (⟨#[]⟩ : ByteArray), (⟨#[]⟩ : ByteArray)) := by
  unfold restC at h
  by_cases k1 : k = 1
  · rw [if_pos k1] at h
    rcases finR_zero h with ⟨h1, _, _⟩ | ⟨_, h2⟩
    · exact absurd h1 he
    · exact h2
  rw [if_neg k1] at h
  by_cases k3 : k = 3
  · rw [if_pos k3] at h
    rcases finR_zero h with ⟨h1, _, _⟩ | ⟨_, h2⟩
    · exact absurd h1 he
    · exact h2
  rw [if_neg k3] at h
  by_cases k4 : k = 4
  · rw [if_pos k4] at h
    rcases finR_zero h with ⟨h1, _, _⟩ | ⟨_, h2⟩
    · exact absurd h1 he
    · exact h2
  rw [if_neg k4] at h
  by_cases k2 : k = 2
  · rw [if_pos k2] at h
    rcases finR_zero h with ⟨h1, _, _⟩ | ⟨_, h2⟩
    · exact absurd h1 he
    · exact h2
  rw [if_neg k2] at h
  rcases finR_zero h with ⟨h1, _, _⟩ | ⟨_, h2⟩
  · exact absurd h1 he
  · exact h2
theorem rest_back (b : List Int) (hb : okB b = true) (hl : b.length ≤ 1000000) (d q : Int) (n : ByteArray) (k p : Int) {d' q' : Int} {n' : ByteArray} {k' : Int} {w' ao' an' bo' bn' : ByteArray} {p' : Int} (h0 : 0 ≤ p) (h1 : p ≤ (b.length : Int)) (hk1 : 1 ≤ k) (hk4 : k ≤ 4)
    (h : restC b d q n k p 0 = (d', q', n', k', w', ao', an', bo', bn', p', 0)) :
    d' = d ∧ q' = q ∧ n' = n ∧ k' = k ∧ (if k = 1 then mayB w' && (eB ao' && eB an') && (eB bo' && eB bn') else if k = 2 then roleB ao' an' && (eB bo' && eB bn') && eB w' else if k = 3 then (eB ao' && mayB an') && (eB bo' && mayB bn') && eB w' else if k = 4 then roleB ao' an' && roleB bo' bn' && eB w' else false) = true ∧
      0 ≤ p' ∧ p' ≤ (b.length : Int) ∧ b.take p'.toNat = b.take p.toNat ++ bodyP k w' ao' an' bo' bn' := by
  have q5 := nameAt_place b p 0 hb h0 h1 hl
  have q6 := roleAt_place b p 0 hb h0 h1 hl
  unfold restC at h
  unfold bodyP
  by_cases k1 : k = 1
  · rw [if_pos k1] at h ⊢
    rcases finR_zero h with ⟨_, h2, h3⟩ | ⟨h2, _⟩
    · obtain ⟨r1, r2⟩ := name_bytes b p hb hl h0 h1 h2
      simp only [Prod.mk.injEq] at h3
      obtain ⟨rfl, rfl, rfl, rfl, rfl, rfl, rfl, rfl, rfl, rfl⟩ := h3
      refine ⟨rfl, rfl, rfl, rfl, ?_, q5.1, q5.2, ?_⟩
      · rw [r1, eB_e]; rfl
      · rw [r2, if_pos k1]
    · exact absurd rfl h2
  rw [if_neg k1] at h ⊢
  rw [if_neg k1]
  by_cases k3 : k = 3
  · rw [if_pos k3] at h
    rcases finR_zero h with ⟨_, h2, h3⟩ | ⟨h2, _⟩
    · have he : (nameAt b p 0).2.2 = 0 := by
        by_cases hc : (nameAt b p 0).2.2 = 0
        · exact hc
        · exact absurd h2 (name_err b _ _ hc)
      rw [he] at h2 h3
      obtain ⟨r1, r2⟩ := name_bytes b p hb hl h0 h1 he
      obtain ⟨r3, r4⟩ := name_bytes b _ hb hl q5.1 q5.2 h2
      have q7 := nameAt_place b (nameAt b p 0).2.1 0 hb q5.1 q5.2 hl
      simp only [Prod.mk.injEq] at h3
      obtain ⟨rfl, rfl, rfl, rfl, rfl, rfl, rfl, rfl, rfl, rfl⟩ := h3
      refine ⟨rfl, rfl, rfl, rfl, ?_, q7.1, q7.2, ?_⟩
      · rw [if_neg (show ¬ k = 2 by omega), if_pos k3, r1, r3, eB_e]; rfl
      · rw [if_neg (show ¬ k = 2 by omega), if_pos k3, r4, r2, List.append_assoc]
    · exact absurd rfl h2
  rw [if_neg k3] at h
  by_cases k4 : k = 4
  · rw [if_pos k4] at h
    rcases finR_zero h with ⟨_, h2, h3⟩ | ⟨h2, _⟩
    · have he : (roleAt b p 0).2.2.2 = 0 := by
        by_cases hc : (roleAt b p 0).2.2.2 = 0
        · exact hc
        · exact absurd h2 (role_err b _ _ hc)
      rw [he] at h2 h3
      obtain ⟨r1, r2⟩ := role_bytes b p hb hl h0 h1 he
      obtain ⟨r3, r4⟩ := role_bytes b _ hb hl q6.1 q6.2 h2
      have q7 := roleAt_place b (roleAt b p 0).2.2.1 0 hb q6.1 q6.2 hl
      simp only [Prod.mk.injEq] at h3
      obtain ⟨rfl, rfl, rfl, rfl, rfl, rfl, rfl, rfl, rfl, rfl⟩ := h3
      refine ⟨rfl, rfl, rfl, rfl, ?_, q7.1, q7.2, ?_⟩
      · rw [if_neg (show ¬ k = 2 by omega), if_neg k3, if_pos k4, r1, r3, eB_e]; rfl
      · rw [if_neg (show ¬ k = 2 by omega), if_neg k3, r4, r2, List.append_assoc]
    · exact absurd rfl h2
  rw [if_neg k4] at h
  have k2 : k = 2 := by omega
  rw [if_pos k2] at h
  rcases finR_zero h with ⟨_, h2, h3⟩ | ⟨h2, _⟩
  · obtain ⟨r1, r2⟩ := role_bytes b p hb hl h0 h1 h2
    simp only [Prod.mk.injEq] at h3
    obtain ⟨rfl, rfl, rfl, rfl, rfl, rfl, rfl, rfl, rfl, rfl⟩ := h3
    refine ⟨rfl, rfl, rfl, rfl, ?_, q6.1, q6.2, ?_⟩
    · rw [if_pos k2, r1, eB_e]; rfl
    · rw [if_pos k2, r2]
  · exact absurd rfl h2
theorem readC_zero (b : List Int) {d q : Int} {n : ByteArray} {c : Int} {w ao an bo bn : ByteArray} {p e : Int} (h : readC b 0 0 = (d, q, n, c, w, ao, an, bo, bn, p, e)) (he : e ≠ 0) :
    (d, q, n, c, w, ao, an, bo, bn) = (0, 0, (⟨#[]⟩ : ByteArray), 0, (⟨#[]⟩ : ByteArray), (⟨#[]⟩ : ByteArray), (⟨#[]⟩ : ByteArray), (⟨#[]⟩ : ByteArray), (⟨#[]⟩ : ByteArray)) := by
  unfold readC at h
  exact rest_zero b _ _ _ _ _ _ h he
theorem readC_back (b : List Int) (hb : okB b = true) (hl : b.length ≤ 1000000) {d q : Int} {n : ByteArray} {c : Int} {w ao an bo bn : ByteArray} {p : Int} (h : readC b 0 0 = (d, q, n, c, w, ao, an, bo, bn, p, 0)) :
    credB d q n c w ao an bo bn = true ∧ 0 ≤ p ∧ p ≤ (b.length : Int) ∧ b.take p.toNat = putC d q n c w ao an bo bn := by
  unfold readC headC at h
  simp only at h
  obtain ⟨⟨a1, u1, f1⟩, ht1⟩ : ∃ x, numAt b 0 0 1 16 = x := ⟨_, rfl⟩
  rw [ht1] at h
  simp only at h
  obtain ⟨⟨a2, u2, f2⟩, ht2⟩ : ∃ x, numAt b u1 f1 1 4000 = x := ⟨_, rfl⟩
  rw [ht2] at h
  simp only at h
  obtain ⟨⟨a3, u3, f3⟩, ht3⟩ : ∃ x, nameAt b u2 f2 = x := ⟨_, rfl⟩
  rw [ht3] at h
  simp only at h
  obtain ⟨⟨a4, u4, f4⟩, ht4⟩ : ∃ x, numAt b u3 f3 1 4 = x := ⟨_, rfl⟩
  rw [ht4] at h
  simp only at h
  have e4 : f4 = 0 := by
    by_cases hc : f4 = 0
    · exact hc
    · exact absurd rfl (rest_err b _ _ _ _ _ _ hc h)
  subst e4
  have e3 : f3 = 0 := by
    by_cases hc : f3 = 0
    · exact hc
    · rw [numAt_err b _ _ 1 4 hc] at ht4
      simp only [Prod.mk.injEq] at ht4
      exact absurd ht4.2.2 hc
  subst e3
  have e2 : f2 = 0 := by
    by_cases hc : f2 = 0
    · exact hc
    · have := name_err b u2 f2 hc
      rw [ht3] at this
      exact absurd rfl this
  subst e2
  have e1 : f1 = 0 := by
    by_cases hc : f1 = 0
    · exact hc
    · rw [numAt_err b _ _ 1 4000 hc] at ht2
      simp only [Prod.mk.injEq] at ht2
      exact absurd ht2.2.2 hc
  subst e1
  have p1 := numAt_place b 0 0 1 16 hb (Int.le_refl 0) (by omega) (by omega)
  have o1 := numAt_ok b 0 1 16 hb (Int.le_refl 0) (by omega) (by omega) (by rw [ht1])
  have y1 := num_bytes b 0 1 16 hb hl (Int.le_refl 0) (by omega) (by rw [ht1])
  rw [ht1] at p1 o1 y1
  simp only at p1 o1 y1
  have p2 := numAt_place b u1 0 1 4000 hb p1.1 p1.2 (by omega)
  have o2 := numAt_ok b u1 1 4000 hb p1.1 p1.2 (by omega) (by rw [ht2])
  have y2 := num_bytes b u1 1 4000 hb hl p1.1 p1.2 (by rw [ht2])
  rw [ht2] at p2 o2 y2
  simp only at p2 o2 y2
  have p3 := nameAt_place b u2 0 hb p2.1 p2.2 hl
  have y3 := name_bytes b u2 hb hl p2.1 p2.2 (by rw [ht3])
  rw [ht3] at p3 y3
  simp only at p3 y3
  obtain ⟨m3, y3⟩ := y3
  have p4 := numAt_place b u3 0 1 4 hb p3.1 p3.2 (by omega)
  have o4 := numAt_ok b u3 1 4 hb p3.1 p3.2 (by omega) (by rw [ht4])
  have y4 := num_bytes b u3 1 4 hb hl p3.1 p3.2 (by rw [ht4])
  rw [ht4] at p4 o4 y4
  simp only at p4 o4 y4
  obtain ⟨rfl, rfl, rfl, rfl, hk, g1, g2, g3⟩ := rest_back b hb hl _ _ _ _ _ p4.1 p4.2 o4.1 o4.2.1 h
  refine ⟨?_, g1, g2, ?_⟩
  · unfold credB
    rw [hk, m3, decide_eq_true ⟨o1.1, o1.2.1, o2.1, o2.2.1⟩]; rfl
  · rw [g3, y4, y3, y2, y1, putC]
    simp only [Int.toNat_zero, List.take_zero, List.nil_append, List.append_assoc]
end Go.Proofs.YtpnmmkoiemeodaaDoor.P
