/- A role is read from its text, and no other one has that: any role, any text. -/
import Derived.Test.YtajngkgafkhbiaaDoorNRead
import Derived.Test.YtajngkgafkhbiaaDoorP14
namespace Go.Proofs.YtajngkgafkhbiaaDoor.Pure
open Go.RowKit Go.Proofs.YtajngkgafkhbiaaDoor.P Go.Proofs.YtajngkgafkhbiaaDoorW.PrintWords Go.Proofs.YtajngkgafkhbiaaDoorW.PrintLast
set_option linter.unusedVariables false
theorem size_ex (s : ByteArray) (i j : Nat) : (s.extract i j).size = min j s.size - i := by simp
/-- What is read says the text that was read. -/
theorem read_text (s : ByteArray) (h : (readR s).2.2 = 0) : textR (readR s).1 (readR s).2.1 = s ∧ roleB (readR s).1 (readR s).2.1 = true := by
  unfold readR at h ⊢
  by_cases hc : 0 ≤ dot s ∧ roleB (s.extract 0 (dot s).toNat) (s.extract ((dot s).toNat + 1) s.size) = true
  · rw [if_pos hc]
    refine ⟨?_, hc.2⟩
    rcases dot_spec s.data.toList with ⟨h', _⟩ | ⟨d, h', hl, hi, _⟩
    · have : dot s = -1 := h'
      omega
    · have hd : (dot s).toNat = d := by
        have : dot s = (d : Int) := h'
        omega
      rw [hd]
      unfold textR
      apply ByteArray.ext
      apply Array.toList_inj.1
      simp only [ByteArray.data_append, ByteArray.data_extract, Array.toList_append, Array.toList_extract, List.extract_eq_take_drop]
      have hlen : s.data.toList.length = s.size := rfl
      generalize s.data.toList = l at *
      have e : l.drop d = 46 :: l.drop (d + 1) := by
        rw [List.drop_eq_getElem_cons hl]
        congr 1
        have := List.getElem?_eq_getElem hl
        rw [this] at hi
        exact Option.some.inj hi
      rw [show List.take (s.size - (d + 1)) (List.drop (d + 1) l) = List.drop (d + 1) l from List.take_of_length_le (by simp; omega)]
      simp only [List.drop_zero, Nat.sub_zero]
      show (l.take d ++ [46]) ++ l.drop (d + 1) = l
      rw [List.append_assoc]
      show l.take d ++ (46 :: l.drop (d + 1)) = l
      rw [← e, List.take_append_drop]
  · rw [if_neg hc] at h
    simp at h
theorem dot_at : ∀ (a b : List UInt8), (∀ c ∈ a, c ≠ 46) → Lib.indexByte (a ++ 46 :: b) 46 = (a.length : Int)
  | [], b, _ => by simp [Lib.indexByte]
  | x :: a, b, h => by
    have hx : x ≠ 46 := h x (by simp)
    rw [List.cons_append, Lib.indexByte, if_neg (by simpa using hx), dot_at a b (fun c hc => h c (by simp [hc])), if_neg (by simp <;> omega), List.length_cons]
    omega
theorem drop_dot (c : UInt8) (b : List UInt8) : ∀ a : List UInt8, List.drop (a.length + 1) (a ++ c :: b) = b
  | [] => rfl
  | x :: a => drop_dot c b a
theorem dn_size : ∀ n : Fin 17, (dn n.val).size ≤ 3 := by decide +kernel
theorem may_size {s : ByteArray} (h : mayB s = true) : s.size ≤ 8 := by
  unfold mayB at h
  simp only [Bool.and_eq_true, decide_eq_true_eq] at h
  exact h.2
theorem role_size {o n : ByteArray} (h : roleB o n = true) : o.size ≤ 3 ∧ n.size ≤ 8 := by
  unfold roleB at h
  simp only [Bool.and_eq_true, decide_eq_true_eq] at h
  have hle := numR_le o
  refine ⟨?_, may_size h.2⟩
  rw [numR_back o (by omega)]
  exact dn_size ⟨(numR o).toNat, by omega⟩
theorem dn_nodot : ∀ n : Fin 17, n.val ≠ 0 → ∀ c ∈ (dn n.val).data.toList, c ≠ 46 := by decide +kernel
/-- A role is read from its text. -/
theorem text_read (o n : ByteArray) (h : roleB o n = true) : readR (textR o n) = (o, n, 0) := by
  have hr := h
  unfold roleB at hr
  simp only [Bool.and_eq_true, decide_eq_true_eq] at hr
  have hle := numR_le o
  have hback := numR_back o (by omega)
  have hno : ∀ c ∈ o.data.toList, c ≠ 46 := by
    rw [hback]
    exact dn_nodot ⟨(numR o).toNat, by omega⟩ (by show (numR o).toNat ≠ 0; omega)
  have hl : (textR o n).data.toList = o.data.toList ++ 46 :: n.data.toList := by
    unfold textR
    simp [ByteArray.data_append]
  have hd : dot (textR o n) = (o.size : Int) := by
    unfold dot
    rw [hl, dot_at _ _ hno]
    rfl
  have e0 : (textR o n).extract 0 o.size = o := by
    apply ByteArray.ext
    apply Array.toList_inj.1
    rw [ByteArray.data_extract, Array.toList_extract, hl, List.extract_eq_take_drop]
    show List.take o.data.toList.length (o.data.toList ++ 46 :: n.data.toList) = o.data.toList
    exact List.take_left
  have e1 : (textR o n).extract (o.size + 1) (textR o n).size = n := by
    apply ByteArray.ext
    apply Array.toList_inj.1
    rw [ByteArray.data_extract, Array.toList_extract, hl, List.extract_eq_take_drop, textR_size]
    rw [show List.drop (o.size + 1) (o.data.toList ++ 46 :: n.data.toList) = n.data.toList from drop_dot _ _ _]
    exact List.take_of_length_le (by show n.size ≤ _; omega)
  unfold readR
  rw [hd, Int.toNat_natCast, e0, e1, if_pos ⟨by omega, h⟩]
theorem NamesRound : liverylaw04_NamesRound.Pure := by
  intro x0 a1 hx h1
  obtain ⟨hx0, hx1⟩ := hx
  obtain ⟨k, hk⟩ : ∃ k : Nat, 41 < k := ⟨60, by omega⟩
  obtain ⟨k, rfl⟩ : ∃ m, k = m + 1 := ⟨k - 1, by omega⟩
  refine ⟨k + 1, ?_⟩
  have hj : liverylaw04_NamesRound.j0 (k + 1) a1 = some true := by
    simp only [liverylaw04_NamesRound.j0]
    rw [names_Read_eq k a1 (by omega) (by omega)]
    simp only [Option.bind_some, lives04 k (by omega)]
    by_cases h : (readR a1).2.2 = 0
    · obtain ⟨ht, hr⟩ := read_text a1 h
      have hsz : (readR a1).1.size + 1 + (readR a1).2.1.size = a1.size := by rw [← textR_size, ht]
      rw [if_pos h, names_Text_eq _ _ (by omega)]
      simp only [Option.bind_some, ht, if_true, names_Role_eq k _ _ (show 20 < k by omega), hr]
    · rw [if_neg h]
  unfold liverylaw04_NamesRound.f
  rw [names_Role_eq (k + 1) _ _ (by omega)]
  simp only [Option.bind_some]
  by_cases h : roleB x0.f0 x0.f1 = true
  · rw [if_pos h, names_Text_eq _ _ (by omega)]
    simp only [Option.bind_some]
    have hsz := textR_size x0.f0 x0.f1
    have hrs := role_size h
    rw [names_Read_eq (k + 1) _ (by omega) (by omega), text_read _ _ h]
    simp only [Option.bind_some, hj]
    simp
  · rw [if_neg h, hj]
end Go.Proofs.YtajngkgafkhbiaaDoor.Pure
