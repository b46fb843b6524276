/- Of two credentials that may be each text is its own, but for their Seq: any two. -/
import Derived.Test.YtpnmmkoiemeodaaDoorC5
import Derived.Test.YtpnmmkoiemeodaaDoorP27
namespace Go.Proofs.YtpnmmkoiemeodaaDoor.Pure
open Go.RowKit Go.Proofs.YtpnmmkoiemeodaaDoor.P Go.Proofs.YtpnmmkoiemeodaaDoorW.PrintWords Go.Proofs.YtpnmmkoiemeodaaDoorW.PrintLast
set_option linter.unusedVariables false
def Nm (l : List UInt8) : Prop := ∀ c ∈ l, c ≠ 46 ∧ c ≠ 32
theorem nm_may {s : ByteArray} (h : mayB s = true) : Nm s.data.toList := by
  intro c hc
  obtain ⟨i, hi⟩ := List.mem_iff_getElem?.1 hc
  have hlt : i < s.size := (List.getElem?_eq_some_iff.1 hi).1
  rw [bt_list s i hlt] at hi
  unfold mayB at h
  simp only [Bool.and_eq_true] at h
  have h2 := List.all_eq_true.1 h.1.1 i (List.mem_range.2 hlt)
  unfold okAt at h2
  have h2 := of_decide_eq_true h2
  have e := Option.some.inj hi
  have e3 := congrArg UInt8.toNat e
  have hr := bt_range s i
  simp at e3
  constructor
  · rintro rfl
    simp at e3
    omega
  · rintro rfl
    simp at e3
    omega
theorem nm_dn : ∀ n : Fin 17, Nm (dn n.val).data.toList := by
  intro n c hc
  have h : ∀ n : Fin 17, ((dn n.val).data.toList.all fun c => c != 46 && c != 32) = true := by decide +kernel
  have := List.all_eq_true.1 (h n) c hc
  simpa using this
theorem nm_dom (d : Int) : Nm (domB d).data.toList := by
  unfold domB
  split
  · exact nm_dn ⟨d.toNat, by omega⟩
  · intro c hc
    simp at hc
theorem nm_role {o n : ByteArray} (h : roleB o n = true) : Nm o.data.toList ∧ Nm n.data.toList := by
  unfold roleB at h
  simp only [Bool.and_eq_true, decide_eq_true_eq] at h
  have hle := numR_le o
  refine ⟨?_, nm_may h.2⟩
  rw [numR_back o (by omega)]
  exact nm_dn ⟨(numR o).toNat, by omega⟩
theorem cut_unique (c : UInt8) : ∀ (a b x y : List UInt8), (∀ z ∈ a, z ≠ c) → (∀ z ∈ b, z ≠ c) → a ++ c :: x = b ++ c :: y → a = b ∧ x = y
  | [], [], x, y, _, _, h => ⟨rfl, by simpa using h⟩
  | [], z :: b, x, y, _, hb, h => by
    simp at h
    exact absurd h.1.symm (hb z (by simp))
  | z :: a, [], x, y, ha, _, h => by
    simp at h
    exact absurd h.1 (ha z (by simp))
  | z :: a, u :: b, x, y, ha, hb, h => by
    simp only [List.cons_append, List.cons.injEq] at h
    obtain ⟨rfl, h⟩ := h
    obtain ⟨e1, e2⟩ := cut_unique c a b x y (fun v hv => ha v (by simp [hv])) (fun v hv => hb v (by simp [hv])) h
    exact ⟨by rw [e1], e2⟩
theorem cnt46 {l : List UInt8} (h : Nm l) : l.count 46 = 0 := List.count_eq_zero.2 fun hc => (h 46 hc).1 rfl
theorem cnt32 {l : List UInt8} (h : Nm l) : l.count 32 = 0 := List.count_eq_zero.2 fun hc => (h 32 hc).2 rfl
theorem L_inj {a b : ByteArray} (h : a.data.toList = b.data.toList) : a = b := ByteArray.ext (Array.toList_inj.1 h)
theorem L_app (a b : ByteArray) : (a ++ b).data.toList = a.data.toList ++ b.data.toList := by simp [ByteArray.data_append]
theorem dn_inj : ∀ a b : Fin 17, dn a.val = dn b.val → a.val = 0 ∨ b.val = 0 ∨ a.val = b.val := by
  intro a b h
  by_cases ha : a.val = 0
  · exact .inl ha
  by_cases hb : b.val = 0
  · exact .inr (.inl hb)
  have h1 := numR_dn a ha
  have h2 := numR_dn b hb
  rw [h, h2] at h1
  omega
theorem dom_inj {d e : Int} (hd : 1 ≤ d ∧ d ≤ 16) (he : 1 ≤ e ∧ e ≤ 16) (h : domB d = domB e) : d = e := by
  unfold domB at h
  rw [if_pos hd, if_pos he] at h
  have := dn_inj ⟨d.toNat, by omega⟩ ⟨e.toNat, by omega⟩ h
  simp only at this
  omega
/-- What is told of a credential's parts. -/
theorem parts_of {d q : Int} {n : ByteArray} {c : Int} {w ao an bo bn : ByteArray} (h : credB d q n c w ao an bo bn = true) :
    (1 ≤ d ∧ d ≤ 16) ∧ Nm n.data.toList ∧ ((c = 1 ∧ Nm w.data.toList ∧ ao = ⟨#[]⟩ ∧ an = ⟨#[]⟩ ∧ bo = ⟨#[]⟩ ∧ bn = ⟨#[]⟩) ∨ (c = 2 ∧ Nm ao.data.toList ∧ Nm an.data.toList ∧ bo = ⟨#[]⟩ ∧ bn = ⟨#[]⟩ ∧ w = ⟨#[]⟩) ∨
      (c = 3 ∧ ao = ⟨#[]⟩ ∧ Nm an.data.toList ∧ bo = ⟨#[]⟩ ∧ Nm bn.data.toList ∧ w = ⟨#[]⟩) ∨ (c = 4 ∧ Nm ao.data.toList ∧ Nm an.data.toList ∧ Nm bo.data.toList ∧ Nm bn.data.toList ∧ w = ⟨#[]⟩)) := by
  unfold credB at h
  simp only [Bool.and_eq_true, decide_eq_true_eq] at h
  obtain ⟨⟨hd, hn⟩, hk⟩ := h
  refine ⟨by omega, nm_may hn, ?_⟩
  by_cases h1 : c = 1
  · rw [if_pos h1] at hk
    simp only [Bool.and_eq_true, eB_iff] at hk
    obtain ⟨⟨h2, h3, h4⟩, h5, h6⟩ := hk
    exact .inl ⟨h1, nm_may h2, h3, h4, h5, h6⟩
  rw [if_neg h1] at hk
  by_cases h2 : c = 2
  · rw [if_pos h2] at hk
    simp only [Bool.and_eq_true, eB_iff] at hk
    obtain ⟨⟨h3, h4, h5⟩, h6⟩ := hk
    exact .inr (.inl ⟨h2, (nm_role h3).1, (nm_role h3).2, h4, h5, h6⟩)
  rw [if_neg h2] at hk
  by_cases h3 : c = 3
  · rw [if_pos h3] at hk
    simp only [Bool.and_eq_true, eB_iff] at hk
    obtain ⟨⟨⟨h4, h5⟩, h6, h7⟩, h8⟩ := hk
    exact .inr (.inr (.inl ⟨h3, h4, nm_may h5, h6, nm_may h7, h8⟩))
  rw [if_neg h3] at hk
  by_cases h4 : c = 4
  · rw [if_pos h4] at hk
    simp only [Bool.and_eq_true, eB_iff] at hk
    obtain ⟨⟨h5, h6⟩, h7⟩ := hk
    exact .inr (.inr (.inr ⟨h4, (nm_role h5).1, (nm_role h5).2, (nm_role h6).1, (nm_role h6).2, h7⟩))
  · rw [if_neg h4] at hk
    cases hk
theorem L_text (o n : ByteArray) : (textR o n).data.toList = o.data.toList ++ 46 :: n.data.toList := by
  unfold textR
  rw [L_app, L_app, List.append_assoc]
  rfl
theorem no46 {l : List UInt8} (h : Nm l) : ∀ z ∈ l, z ≠ 46 := fun z hz => (h z hz).1
theorem no32 {l : List UInt8} (h : Nm l) : ∀ z ∈ l, z ≠ 32 := fun z hz => (h z hz).2
theorem text_inj {d q : Int} {n : ByteArray} {c : Int} {w ao an bo bn : ByteArray} {d' q' : Int} {n' : ByteArray} {c' : Int} {w' ao' an' bo' bn' : ByteArray}
    (h : credB d q n c w ao an bo bn = true) (h' : credB d' q' n' c' w' ao' an' bo' bn' = true) (he : (textR (domB d) n ++ arrow) ++ tailT d c w ao an bo bn = (textR (domB d') n' ++ arrow) ++ tailT d' c' w' ao' an' bo' bn') :
    d = d' ∧ n = n' ∧ c = c' ∧ w = w' ∧ (ao = ao' ∧ an = an') ∧ (bo = bo' ∧ bn = bn') := by
  obtain ⟨hd, hn, hk⟩ := parts_of h
  obtain ⟨hd', hn', hk'⟩ := parts_of h'
  have e := congrArg (fun s => s.data.toList) he
  simp only [L_app, L_text, List.append_assoc, List.cons_append] at e
  obtain ⟨e1, e2⟩ := cut_unique 46 _ _ _ _ (no46 (nm_dom d)) (no46 (nm_dom d')) e
  obtain rfl := dom_inj hd hd' (L_inj e1)
  have e3 : n.data.toList ++ 32 :: ([60, 45, 32] ++ (tailT d c w ao an bo bn).data.toList) = n'.data.toList ++ 32 :: ([60, 45, 32] ++ (tailT d c' w' ao' an' bo' bn').data.toList) := e2
  obtain ⟨e4, e5⟩ := cut_unique 32 _ _ _ _ (no32 hn) (no32 hn') e3
  obtain rfl := L_inj e4
  have e6 := List.append_cancel_left e5
  clear e e1 e2 e3 e4 e5 he h h'
  refine ⟨rfl, rfl, ?_⟩
  have c46 := congrArg (List.count 46) e6
  have c32 := congrArg (List.count 32) e6
  unfold tailT at e6 c46 c32
  have hdm := nm_dom d
  rcases hk with ⟨rfl, g1, rfl, rfl, rfl, rfl⟩ | ⟨rfl, g1, g2, rfl, rfl, rfl⟩ | ⟨rfl, rfl, g2, rfl, g4, rfl⟩ | ⟨rfl, g1, g2, g3, g4, rfl⟩ <;>
  rcases hk' with ⟨rfl, f1, rfl, rfl, rfl, rfl⟩ | ⟨rfl, f1, f2, rfl, rfl, rfl⟩ | ⟨rfl, rfl, f2, rfl, f4, rfl⟩ | ⟨rfl, f1, f2, f3, f4, rfl⟩ <;>
  simp only [Int.reduceEq, if_true, if_false, L_app, L_text, amp, List.count_append, List.count_cons, cnt46, cnt32, *] at c46 c32 e6
  case inl.inl => exact ⟨rfl, L_inj e6, ⟨rfl, rfl⟩, rfl, rfl⟩
  case inr.inl.inr.inl =>
    obtain ⟨z1, z2⟩ := cut_unique 46 _ _ _ _ (no46 g1) (no46 f1) e6
    exact ⟨rfl, rfl, ⟨L_inj z1, L_inj z2⟩, rfl, rfl⟩
  case inr.inr.inl.inr.inr.inl =>
    simp only [List.append_assoc] at e6
    have e7 := List.append_cancel_left (List.append_cancel_left e6)
    have e8 : an.data.toList ++ 46 :: bn.data.toList = an'.data.toList ++ 46 :: bn'.data.toList := e7
    obtain ⟨z1, z2⟩ := cut_unique 46 _ _ _ _ (no46 g2) (no46 f2) e8
    exact ⟨rfl, rfl, ⟨rfl, L_inj z1⟩, rfl, L_inj z2⟩
  case inr.inr.inr.inr.inr.inr =>
    simp only [List.append_assoc, List.cons_append] at e6
    obtain ⟨z1, z2⟩ := cut_unique 46 _ _ _ _ (no46 g1) (no46 f1) e6
    have z3 : an.data.toList ++ 32 :: ([38, 32] ++ (bo.data.toList ++ 46 :: bn.data.toList)) = an'.data.toList ++ 32 :: ([38, 32] ++ (bo'.data.toList ++ 46 :: bn'.data.toList)) := z2
    obtain ⟨z4, z5⟩ := cut_unique 32 _ _ _ _ (no32 g2) (no32 f2) z3
    obtain ⟨z6, z7⟩ := cut_unique 46 _ _ _ _ (no46 g3) (no46 f3) (List.append_cancel_left z5)
    exact ⟨rfl, rfl, ⟨L_inj z1, L_inj z4⟩, L_inj z6, L_inj z7⟩
  all_goals (exfalso; simp at c46 c32; done)
theorem CredTexts : liverylaw05_CredTexts.Pure := by
  intro x0 x1 _ _
  obtain ⟨⟨d, q⟩, n, c, w, ⟨ao, an⟩, ⟨bo, bn⟩⟩ := x0
  obtain ⟨⟨d', q'⟩, n', c', w', ⟨ao', an'⟩, ⟨bo', bn'⟩⟩ := x1
  obtain ⟨k, hk⟩ : ∃ k : Nat, 41 < k := ⟨60, by omega⟩
  obtain ⟨k, rfl⟩ : ∃ m, k = m + 1 := ⟨k - 1, by omega⟩
  refine ⟨k + 1, ?_⟩
  unfold liverylaw05_CredTexts.f
  rw [cred_Text_eq (k + 1) _ _ _ _ _ _ _ _ _ (by omega), cred_Text_eq (k + 1) _ _ _ _ _ _ _ _ _ (by omega)]
  simp only [Option.bind_some, liverylaw05_CredTexts.j0, lives05 k (by omega)]
  by_cases h : credB d q n c w ao an bo bn = true
  · have e1 : textC d q n c w ao an bo bn = ((textR (domB d) n ++ arrow) ++ tailT d c w ao an bo bn, 0) := if_pos h
    rw [e1]
    simp only [if_true]
    by_cases h' : credB d' q' n' c' w' ao' an' bo' bn' = true
    · have e2 : textC d' q' n' c' w' ao' an' bo' bn' = ((textR (domB d') n' ++ arrow) ++ tailT d' c' w' ao' an' bo' bn', 0) := if_pos h'
      rw [e2]
      simp only
      rw [if_neg (by simp), if_pos]
      have key : ((textR (domB d) n ++ arrow) ++ tailT d c w ao an bo bn).toList = ((textR (domB d') n' ++ arrow) ++ tailT d' c' w' ao' an' bo' bn').toList ↔ (d = d' ∧ n = n' ∧ c = c' ∧ w = w' ∧ (ao = ao' ∧ an = an') ∧ (bo = bo' ∧ bn = bn')) := by
        rw [toList_iff]
        constructor
        · exact text_inj h h'
        · rintro ⟨rfl, rfl, rfl, rfl, ⟨rfl, rfl⟩, rfl, rfl⟩
          rfl
      rw [beq_iff_eq, Bool.eq_iff_iff, beq_iff_eq, key]
      simp [toList_iff]
    · have e2 : textC d' q' n' c' w' ao' an' bo' bn' = (⟨#[]⟩, 11) := if_neg h'
      rw [e2]
      simp
  · have e1 : textC d q n c w ao an bo bn = (⟨#[]⟩, 11) := if_neg h
    rw [e1]
    simp
end Go.Proofs.YtpnmmkoiemeodaaDoor.Pure
