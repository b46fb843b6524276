/- The plain law of layer 10: a vector that is read. -/
import Derived.Test.YtpnmmkoiemeodaaVPutP
import Derived.Test.YtpnmmkoiemeodaaWReadP
import Derived.Test.YtpnmmkoiemeodaaP5
import Derived.Test.YtpnmmkoiemeodaaP7
namespace Go.Proofs.Ytpnmmkoiemeodaa.P
open Go.RowKit Go.Proofs.YtpnmmkoiemeodaaW.PrintWords Go.Proofs.YtpnmmkoiemeodaaW.PrintLast Go.Proofs.YtpnmmkoiemeodaaW.PrintMore
set_option linter.unusedVariables false
set_option linter.unusedSimpArgs false

/-- Numbers, one behind the other. -/
def rdN (b : List Int) : Nat → Int → Int → List Int × Int × Int
  | 0, p, e => ([], p, e)
  | n + 1, p, e => ((numAt b p e 0 1099511627776).1 :: (rdN b n (numAt b p e 0 1099511627776).2.1 (numAt b p e 0 1099511627776).2.2).1, (rdN b n (numAt b p e 0 1099511627776).2.1 (numAt b p e 0 1099511627776).2.2).2.1, (rdN b n (numAt b p e 0 1099511627776).2.1 (numAt b p e 0 1099511627776).2.2).2.2)
theorem numAt_range (b : List Int) (p e lo hi : Int) (h : lo ≤ 0) (h2 : 0 ≤ hi) : lo ≤ (numAt b p e lo hi).1 ∧ (numAt b p e lo hi).1 ≤ hi := by
  unfold numAt
  repeat' split
  all_goals (simp only; omega)
theorem rdN_length (b : List Int) : ∀ (n : Nat) (p e : Int), (rdN b n p e).1.length = n
  | 0, _, _ => rfl
  | n + 1, p, e => by simp only [rdN, List.length_cons, rdN_length b n]
theorem rdN_range (b : List Int) : ∀ (n : Nat) (p e : Int), ∀ x ∈ (rdN b n p e).1, 0 ≤ x ∧ x ≤ 1099511627776
  | 0, _, _, x, hx => by simp [rdN] at hx
  | n + 1, p, e, x, hx => by
    simp only [rdN, List.mem_cons] at hx
    rcases hx with rfl | hx
    · exact numAt_range b p e 0 1099511627776 (by omega) (by omega)
    · exact rdN_range b n _ _ x hx
theorem rdN_place (b : List Int) (hb : okB b = true) (hl : b.length ≤ 1000000) : ∀ (n : Nat) (p e : Int), 0 ≤ p → p ≤ (b.length : Int) → 0 ≤ (rdN b n p e).2.1 ∧ (rdN b n p e).2.1 ≤ (b.length : Int)
  | 0, _, _, h0, h1 => ⟨h0, h1⟩
  | n + 1, p, e, h0, h1 => by
    have := numAt_place b p e 0 1099511627776 hb h0 h1 (by omega)
    exact rdN_place b hb hl n _ _ this.1 this.2
theorem rdN_err (b : List Int) : ∀ (n : Nat) (p e : Int), e ≠ 0 → (rdN b n p e).2.2 ≠ 0
  | 0, _, _, h => h
  | n + 1, p, e, h => by
    simp only [rdN, numAt_err b p e 0 1099511627776 h]
    exact rdN_err b n p e h
/-- A number that is read is put as just those bytes. -/
theorem numAt_bytes (b : List Int) (p lo hi : Int) (hb : okB b = true) (hl : b.length ≤ 1000000) (h0 : 0 ≤ p) (h1 : p ≤ (b.length : Int)) (h : (numAt b p 0 lo hi).2.2 = 0) :
    b.take (numAt b p 0 lo hi).2.1.toNat = b.take p.toNat ++ numB (numAt b p 0 lo hi).1 := by
  obtain ⟨q, rfl⟩ : ∃ q : Nat, p = (q : Int) := ⟨p.toNat, by omega⟩
  obtain ⟨⟨n, u, e1⟩, hlk⟩ : ∃ x, lookB (b.drop q) = x := ⟨_, rfl⟩
  have e := numAt_look b q lo hi n u e1 hb (by omega) (by omega) hlk
  rw [e] at h ⊢
  by_cases he : e1 = 0
  · subst he
    rw [if_pos rfl] at h ⊢
    obtain ⟨_, _, k2, k3, k4⟩ := lookB_only (b.drop q) n u (okB_drop hb q) hlk
    rw [List.length_drop] at k4
    by_cases c1 : n < lo
    · rw [if_pos c1] at h; simp at h
    · rw [if_neg c1] at h ⊢
      by_cases c2 : hi < n
      · rw [if_pos c2] at h; simp at h
      · rw [if_neg c2] at h ⊢
        simp only
        rw [show ((q : Int) + u).toNat = q + u.toNat by omega, Int.toNat_natCast, List.take_add, k2]
  · rw [if_neg he] at h
    exact absurd h he
theorem rdN_bytes (b : List Int) (hb : okB b = true) (hl : b.length ≤ 1000000) : ∀ (n : Nat) (p : Int), 0 ≤ p → p ≤ (b.length : Int) → (rdN b n p 0).2.2 = 0 → b.take (rdN b n p 0).2.1.toNat = b.take p.toNat ++ numsB (rdN b n p 0).1
  | 0, p, _, _, _ => by simp [rdN, numsB]
  | n + 1, p, h0, h1, h => by
    have hp := numAt_place b p 0 0 1099511627776 hb h0 h1 (by omega)
    simp only [rdN] at h ⊢
    by_cases he : (numAt b p 0 0 1099511627776).2.2 = 0
    · rw [he] at h ⊢
      rw [rdN_bytes b hb hl n _ hp.1 hp.2 h, numAt_bytes b p 0 1099511627776 hb hl h0 h1 he, numsB_cons, List.append_assoc]
    · exact absurd h (rdN_err b n _ _ he)
/-- What is told of numbers that were read. -/
def finV (v : List Int) (p e : Int) : List Int × Int × Int := if 0 < v.length ∧ rd v ((v.length : Int) - 1) = 0 then ([], p, if e = 0 then 2 else e) else if e = 0 then (v, p, e) else ([], p, e)
theorem prog_read_loop (b : List Int) (hb : okB b = true) (hl : b.length ≤ 1000000) (n : Nat) (hn : n ≤ 16) : ∀ (d k i : Nat) (acc : List Int) (p e : Int), i + d = n → acc.length = i → (∀ x ∈ acc, 0 ≤ x ∧ x ≤ 1099511627776) → d + 41 < k → 0 ≤ p → p ≤ (b.length : Int) →
    vector_Read.l0 k acc (n : Int) (i : Int) b p e = some (finV (acc ++ (rdN b d p e).1) (rdN b d p e).2.1 (rdN b d p e).2.2) := by
  intro d
  induction d with
  | zero =>
    intro k i acc p e hi ha hr hk h0 h1
    obtain ⟨k, rfl⟩ : ∃ m, k = m + 1 := ⟨k - 1, by omega⟩
    rw [vector_Read.l0, if_neg (by omega), prog_May k acc (by omega) (by omega)]
    simp only [Option.bind_some, decide_eq_true_eq, rdN, List.append_nil, finV, may_iff acc (by omega) hr]
    by_cases hc : 0 < acc.length ∧ rd acc ((acc.length : Int) - 1) = 0
    · rw [if_neg (fun h => h hc), if_pos hc]
      unfold wire_Cursor_Fail.f
      by_cases he : e = 0
      · subst he; simp [wire_Cursor_Err.f]
      · simp [wire_Cursor_Err.f, he]
    · rw [if_pos hc, if_neg hc]
      by_cases he : e = 0
      · subst he; simp [wire_Cursor_Err.f]
      · simp [wire_Cursor_Err.f, he]
  | succ d ih =>
    intro k i acc p e hi ha hr hk h0 h1
    obtain ⟨k, rfl⟩ : ∃ m, k = m + 1 := ⟨k - 1, by omega⟩
    have hp := numAt_place b p e 0 1099511627776 hb h0 h1 (by omega)
    rw [vector_Read.l0, if_pos (by omega)]
    unfold wire_Cursor_Number.f
    rw [if_pos hb, if_pos h0, if_pos h1]
    simp only [Option.bind_some]
    rw [if_pos (by omega), w64 (by omega) (by omega), show ((i : Int) + 1) = ((i + 1 : Nat) : Int) by omega,
      ih k (i + 1) _ _ _ (by omega) (by simp [ha]) (fun x hx => (List.mem_append.1 hx).elim (hr x) (fun h => by rw [List.mem_singleton.1 h]; exact numAt_range b p e 0 1099511627776 (by omega) (by omega))) (by omega) hp.1 hp.2]
    simp only [rdN, List.append_assoc, List.singleton_append]
theorem ref_read_loop (b : List Int) (hb : okB b = true) (hl : b.length ≤ 1000000) (n : Nat) (hn : n ≤ 16) : ∀ (d k i : Nat) (acc : List Int) (p e : Int), i + d = n → acc.length = i → d + 41 < k → 0 ≤ p → p ≤ (b.length : Int) →
    liveryref10_Read.l0 k acc (n : Int) (i : Int) b p e = some (finV (acc ++ (rdN b d p e).1) (rdN b d p e).2.1 (rdN b d p e).2.2) := by
  intro d
  induction d with
  | zero =>
    intro k i acc p e hi ha hk h0 h1
    obtain ⟨k, rfl⟩ : ∃ m, k = m + 2 := ⟨k - 2, by omega⟩
    rw [liveryref10_Read.l0, if_neg (by omega)]
    simp only [rdN, List.append_nil, finV]
    have hn' : (n : Int) = (acc.length : Int) := by omega
    rw [hn']
    by_cases h : 0 < acc.length
    · rw [if_pos (by omega), w64 (by omega) (by omega), if_pos (by omega), if_pos (by omega), liveryref10_Read.j1]
      by_cases hz : rd acc ((acc.length : Int) - 1) = 0
      · rw [if_pos (by simpa using hz), if_pos ⟨h, hz⟩]
        unfold liveryref03_Cursor_Fail.f
        by_cases he : e = 0
        · subst he; simp
        · simp [he]
      · rw [if_neg (by simpa using hz), if_neg (show ¬ (0 < acc.length ∧ rd acc ((acc.length : Int) - 1) = 0) from fun hh => hz hh.2)]
        by_cases he : e = 0
        · subst he; simp
        · simp [he]
    · rw [if_neg (by omega), liveryref10_Read.j1, if_neg (by simp), if_neg (show ¬ (0 < acc.length ∧ rd acc ((acc.length : Int) - 1) = 0) from fun hh => h hh.1)]
      by_cases he : e = 0
      · subst he; simp
      · simp [he]
  | succ d ih =>
    intro k i acc p e hi ha hk h0 h1
    obtain ⟨k, rfl⟩ : ∃ m, k = m + 1 := ⟨k - 1, by omega⟩
    have hp := numAt_place b p e 0 1099511627776 hb h0 h1 (by omega)
    rw [liveryref10_Read.l0, if_pos (by omega)]
    unfold liveryref03_Cursor_Number.f
    rw [if_pos hb, if_pos h0, if_pos h1]
    simp only [Option.bind_some]
    rw [if_pos (by omega), w64 (by omega) (by omega), show ((i : Int) + 1) = ((i + 1 : Nat) : Int) by omega, ih k (i + 1) _ _ _ (by omega) (by simp [ha]) (by omega) hp.1 hp.2]
    simp only [rdN, List.append_assoc, List.singleton_append]
/-- A vector that is read. -/
def readV (b : List Int) (p e : Int) : List Int × Int × Int :=
  finV (rdN b (numAt b p e 0 16).1.toNat (numAt b p e 0 16).2.1 (numAt b p e 0 16).2.2).1 (rdN b (numAt b p e 0 16).1.toNat (numAt b p e 0 16).2.1 (numAt b p e 0 16).2.2).2.1 (rdN b (numAt b p e 0 16).1.toNat (numAt b p e 0 16).2.1 (numAt b p e 0 16).2.2).2.2
theorem prog_Read (k : Nat) (b : List Int) (p e : Int) (hb : okB b = true) (hl : b.length ≤ 1000000) (h0 : 0 ≤ p) (h1 : p ≤ (b.length : Int)) (hk : 60 < k) : vector_Read.f k b p e = some (readV b p e) := by
  have hr := numAt_range b p e 0 16 (by omega) (by omega)
  have hp := numAt_place b p e 0 16 hb h0 h1 (by omega)
  unfold vector_Read.f wire_Cursor_Number.f readV
  rw [if_pos hb, if_pos h0, if_pos h1]
  simp only [Option.bind_some]
  have := prog_read_loop b hb hl (numAt b p e 0 16).1.toNat (by omega) (numAt b p e 0 16).1.toNat k 0 [] (numAt b p e 0 16).2.1 (numAt b p e 0 16).2.2 (by omega) rfl (by simp) (by omega) hp.1 hp.2
  rw [show (((numAt b p e 0 16).1.toNat : Nat) : Int) = (numAt b p e 0 16).1 by omega] at this
  simpa using this
theorem ref_Read (k : Nat) (b : List Int) (p e : Int) (hb : okB b = true) (hl : b.length ≤ 1000000) (h0 : 0 ≤ p) (h1 : p ≤ (b.length : Int)) (hk : 60 < k) : liveryref10_Read.f k b p e = some (readV b p e) := by
  have hr := numAt_range b p e 0 16 (by omega) (by omega)
  have hp := numAt_place b p e 0 16 hb h0 h1 (by omega)
  unfold liveryref10_Read.f liveryref03_Cursor_Number.f readV
  rw [if_pos hb, if_pos h0, if_pos h1]
  simp only [Option.bind_some]
  have := ref_read_loop b hb hl (numAt b p e 0 16).1.toNat (by omega) (numAt b p e 0 16).1.toNat k 0 [] (numAt b p e 0 16).2.1 (numAt b p e 0 16).2.2 (by omega) rfl (by omega) hp.1 hp.2
  rw [show (((numAt b p e 0 16).1.toNat : Nat) : Int) = (numAt b p e 0 16).1 by omega] at this
  simpa using this
theorem readV_place (b : List Int) (p e : Int) (hb : okB b = true) (hl : b.length ≤ 1000000) (h0 : 0 ≤ p) (h1 : p ≤ (b.length : Int)) : 0 ≤ (readV b p e).2.1 ∧ (readV b p e).2.1 ≤ (b.length : Int) := by
  have hp := numAt_place b p e 0 16 hb h0 h1 (by omega)
  have := rdN_place b hb hl (numAt b p e 0 16).1.toNat _ (numAt b p e 0 16).2.2 hp.1 hp.2
  unfold readV finV
  repeat' split
  all_goals exact this
theorem readV_len (b : List Int) (p e : Int) : (readV b p e).1.length ≤ 16 := by
  have hr := numAt_range b p e 0 16 (by omega) (by omega)
  have := rdN_length b (numAt b p e 0 16).1.toNat (numAt b p e 0 16).2.1 (numAt b p e 0 16).2.2
  unfold readV finV
  repeat' split
  all_goals (simp only [List.length_nil]; omega)
theorem readV_range (b : List Int) (p e : Int) : ∀ x ∈ (readV b p e).1, 0 ≤ x ∧ x ≤ 1099511627776 := by
  have := rdN_range b (numAt b p e 0 16).1.toNat (numAt b p e 0 16).2.1 (numAt b p e 0 16).2.2
  unfold readV finV
  repeat' split
  all_goals first | exact this | simp
/-- What is read is put as just those bytes. -/
theorem readV_put (b : List Int) (p : Int) (hb : okB b = true) (hl : b.length ≤ 1000000) (h0 : 0 ≤ p) (h1 : p ≤ (b.length : Int)) (h : (readV b p 0).2.2 = 0) :
    (readV b p 0).1 = bareOf (getV (readV b p 0).1) ∧ b.take (readV b p 0).2.1.toNat = b.take p.toNat ++ putV (readV b p 0).1 := by
  have hlen := readV_len b p 0
  have hran := readV_range b p 0
  rw [may_iff _ hlen hran]
  have hr := numAt_range b p 0 0 16 (by omega) (by omega)
  have hp := numAt_place b p 0 0 16 hb h0 h1 (by omega)
  have hln := rdN_length b (numAt b p 0 0 16).1.toNat (numAt b p 0 0 16).2.1 (numAt b p 0 0 16).2.2
  unfold readV finV at h ⊢
  clear hlen hran
  by_cases hc : 0 < (rdN b (numAt b p 0 0 16).1.toNat (numAt b p 0 0 16).2.1 (numAt b p 0 0 16).2.2).1.length ∧ rd (rdN b (numAt b p 0 0 16).1.toNat (numAt b p 0 0 16).2.1 (numAt b p 0 0 16).2.2).1 (((rdN b (numAt b p 0 0 16).1.toNat (numAt b p 0 0 16).2.1 (numAt b p 0 0 16).2.2).1.length : Int) - 1) = 0
  · rw [if_pos hc] at h
    simp only at h
    split at h
    · omega
    · rename_i hne; exact absurd h hne
  · rw [if_neg hc] at h ⊢
    by_cases he : (rdN b (numAt b p 0 0 16).1.toNat (numAt b p 0 0 16).2.1 (numAt b p 0 0 16).2.2).2.2 = 0
    · rw [if_pos he]
      refine ⟨hc, ?_⟩
      have he0 : (numAt b p 0 0 16).2.2 = 0 := by
        by_cases e0 : (numAt b p 0 0 16).2.2 = 0
        · exact e0
        · exact absurd he (rdN_err b _ _ _ e0)
      rw [he0] at he hln ⊢
      simp only
      rw [rdN_bytes b hb hl _ _ hp.1 hp.2 he, numAt_bytes b p 0 16 hb hl h0 h1 he0, putV, hln, List.append_assoc]
      rw [show (((numAt b p 0 0 16).1.toNat : Nat) : Int) = (numAt b p 0 0 16).1 by omega]
    · rw [if_neg he] at h
      exact absurd h he
end Go.Proofs.Ytpnmmkoiemeodaa.P
