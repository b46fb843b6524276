/- The plain law of layer 4, second part: a domain's name by the document, a role's text, the role of a text, the order of roles, the examples. -/
import Derived.Test.YtajngkgafkhbiaaDoorNPure
import Derived.Test.YtajngkgafkhbiaaDoorHLess
import Derived.Test.YtajngkgafkhbiaaDoorP11
import Derived.Test.YtajngkgafkhbiaaDoorP12
import Derived.Test.YtajngkgafkhbiaaDoorP12
import Derived.Test.YtajngkgafkhbiaaDoorP12
import Derived.Test.YtajngkgafkhbiaaDoorP16
import Derived.Test.YtajngkgafkhbiaaDoorP9
namespace Go.Proofs.YtajngkgafkhbiaaDoor.P
open Go.RowKit Go.Proofs.YtajngkgafkhbiaaDoorW.PrintWords Go.Proofs.YtajngkgafkhbiaaDoorW.PrintLast Go.Proofs.YtajngkgafkhbiaaDoorW.PrintMore
set_option linter.unusedVariables false
set_option linter.unusedSimpArgs false
def domB (n : Int) : ByteArray := if 1 ≤ n ∧ n ≤ 16 then dn n.toNat else ⟨#[]⟩
theorem names_Domain_eq (n : Int) : names_Domain.f n = some (domB n) := rfl
theorem strOf_small : ∀ n : Fin 10, (⟨#[100]⟩ : ByteArray) ++ strOfNums [(wrap64 (48 + (n.val : Int))) % 256] = dn n.val ∨ n.val = 0 := by decide +kernel
theorem strOf_great : ∀ n : Fin 17, n.val < 10 ∨ (⟨#[100, 49]⟩ : ByteArray) ++ strOfNums [(wrap64 ((wrap64 (48 + (n.val : Int))) - 10)) % 256] = dn n.val := by decide +kernel
theorem strOf_size (x : Int) : (strOfNums [x]).size = 1 := by simp [strOfNums, ByteArray.size]
theorem ref04_Domain_eq (k : Nat) (n : Int) (hk : 0 < k) : liveryref04_Domain.f k n = some (domB n) := by
  obtain ⟨k, rfl⟩ : ∃ m, k = m + 1 := ⟨k - 1, by omega⟩
  unfold liveryref04_Domain.f domB
  simp only [liveryref04_Domain.j0]
  by_cases h1 : n < 1
  · rw [if_pos h1, if_pos trivial, if_neg (by omega)]
  rw [if_neg h1]
  by_cases h2 : 16 < n
  · rw [if_pos (by simpa using h2), if_neg (by omega)]
  rw [if_neg (by simpa using h2), show (if 1 ≤ n ∧ n ≤ 16 then dn n.toNat else (⟨#[]⟩ : ByteArray)) = dn n.toNat from if_pos (by omega)]
  obtain ⟨m, rfl⟩ : ∃ m : Nat, n = (m : Int) := ⟨n.toNat, by omega⟩
  simp only [Option.bind_some, strOf_size, Int.toNat_natCast]
  by_cases h3 : m < 10
  · rw [if_pos (by omega), if_pos (by omega)]
    rcases strOf_small ⟨m, h3⟩ with h | h
    · simp only at h
      rw [h]
    · simp only at h
      omega
  · rw [if_neg (by omega), if_pos (by omega)]
    rcases strOf_great ⟨m, by omega⟩ with h | h
    · simp only at h
      omega
    · simp only at h
      rw [h]
/-! ### a role's text, and the role of a text -/
def textR (o n : ByteArray) : ByteArray := (o ++ ⟨#[46]⟩) ++ n
theorem bsize_append (a b : ByteArray) : (a ++ b).size = a.size + b.size := by simp
theorem textR_size (o n : ByteArray) : (textR o n).size = o.size + 1 + n.size := by
  unfold textR
  rw [bsize_append, bsize_append]
  rfl
theorem names_Text_eq (o n : ByteArray) (h : o.size + n.size ≤ 9223372036854775806) : names_Text.f o n = some (textR o n) := by
  unfold names_Text.f
  rw [if_pos (by omega), if_pos (by rw [bsize_append]; show o.size + 1 + n.size ≤ _; omega)]
  rfl
theorem ref04_Text_eq (o n : ByteArray) (h : o.size + n.size ≤ 9223372036854775806) : liveryref04_Text.f o n = some (textR o n) := by
  unfold liveryref04_Text.f
  rw [if_pos (by omega), if_pos (by rw [bsize_append]; show o.size + 1 + n.size ≤ _; omega)]
  rfl
def dot (s : ByteArray) : Int := Lib.indexByte s.data.toList 46
def readR (s : ByteArray) : ByteArray × ByteArray × Int :=
  if 0 ≤ dot s ∧ roleB (s.extract 0 (dot s).toNat) (s.extract ((dot s).toNat + 1) s.size) = true then (s.extract 0 (dot s).toNat, s.extract ((dot s).toNat + 1) s.size, 0) else (⟨#[]⟩, ⟨#[]⟩, 10)
theorem may_empty : mayB ⟨#[]⟩ = false := by decide +kernel
theorem names_Read_eq (k : Nat) (s : ByteArray) (hs : s.size ≤ 140737488355328) (hk : 20 < k) : names_Read.f k s = some (readR s) := by
  unfold names_Read.f strings_Cut.f readR
  rw [if_pos rfl, if_pos hs]
  simp only [Option.bind_some, names_Role_eq k _ _ hk]
  by_cases h : 0 ≤ Lib.indexByte s.data.toList 46
  · rw [if_pos h]
    have h' : 0 ≤ dot s := h
    simp only [h', true_and]
    show (if roleB (s.extract 0 (dot s).toNat) (s.extract ((dot s).toNat + 1) s.size) = true then some (s.extract 0 (dot s).toNat, s.extract ((dot s).toNat + 1) s.size, (0 : Int)) else _) = _
    split <;> rfl
  · rw [if_neg h]
    have h' : ¬ 0 ≤ dot s := h
    simp only [h', false_and, if_false]
    rw [if_neg (by unfold roleB; rw [may_empty]; simp)]
theorem dot_spec : ∀ (l : List UInt8), (Lib.indexByte l 46 = -1 ∧ ∀ c ∈ l, c ≠ 46) ∨ (∃ i : Nat, Lib.indexByte l 46 = (i : Int) ∧ i < l.length ∧ l[i]? = some 46 ∧ ∀ j c, j < i → l[j]? = some c → c ≠ 46)
  | [] => .inl ⟨rfl, by simp⟩
  | b :: l => by
    rw [Lib.indexByte]
    by_cases hb : b = 46
    · subst hb
      exact .inr ⟨0, by simp, by simp, by simp, fun j c hj => by omega⟩
    · rw [if_neg (by simpa using hb)]
      rcases dot_spec l with ⟨h, hn⟩ | ⟨i, h, hl, hi, hn⟩
      · rw [h, if_pos (by decide)]
        refine .inl ⟨rfl, fun c hc => ?_⟩
        rcases List.mem_cons.1 hc with rfl | hc
        · exact hb
        · exact hn c hc
      · rw [h, if_neg (by simp <;> omega)]
        refine .inr ⟨i + 1, by omega, by simp; omega, by simpa using hi, fun j c hj hc => ?_⟩
        cases j with
        | zero => simp at hc; subst hc; exact hb
        | succ j => exact hn j c (by omega) (by simpa using hc)
theorem bt_46 (s : ByteArray) (i : Nat) (h : i < s.size) : bt s i = 46 ↔ s.data.toList[i]? = some 46 := by
  rw [bt_list s i h]
  have := bt_range s i
  constructor
  · intro e; rw [e]; rfl
  · intro e
    have e2 := Option.some.inj e
    have e3 := congrArg UInt8.toNat e2
    simp at e3
    omega
theorem ref04_Read_loop (s : ByteArray) (hs : s.size ≤ 140737488355328) : ∀ (n k i : Nat), i + n = s.size → n + 21 < k → (∀ j c, j < i → s.data.toList[j]? = some c → c ≠ 46) → liveryref04_Read.l0 k s (i : Int) = some (readR s) := by
  intro n
  induction n with
  | zero =>
    intro k i hn hk hno
    obtain ⟨k, rfl⟩ : ∃ m, k = m + 1 := ⟨k - 1, by omega⟩
    simp only [liveryref04_Read.l0]
    rw [if_neg (by omega)]
    unfold readR
    rcases dot_spec s.data.toList with ⟨h, _⟩ | ⟨d, h, hl, hi, _⟩
    · rw [if_neg (by unfold dot; rw [h]; omega)]
    · exact absurd rfl (hno d 46 (by rw [list_size] at hl; omega) hi)
  | succ n ih =>
    intro k i hn hk hno
    obtain ⟨k, rfl⟩ : ∃ m, k = m + 1 := ⟨k - 1, by omega⟩
    have hlt : i < s.size := by omega
    have hw : wrap64 ((i : Int) + 1) = ((i + 1 : Nat) : Int) := by rw [w64' (by omega) (by omega)]; omega
    simp only [liveryref04_Read.l0]
    rw [if_pos (by omega), if_pos (by omega)]
    by_cases h46 : bt s i = 46
    · rw [if_pos h46]
      have hget := (bt_46 s i hlt).1 h46
      have hd : dot s = (i : Int) := by
        unfold dot
        rcases dot_spec s.data.toList with ⟨h, hn'⟩ | ⟨d, h, hl, hi, hn'⟩
        · exact absurd rfl (hn' 46 (List.mem_of_getElem? hget))
        · rw [h]
          rcases Nat.lt_trichotomy d i with hlt' | rfl | hlt'
          · exact absurd rfl (hno d 46 hlt' hi)
          · rfl
          · exact absurd rfl (hn' i 46 hlt' hget)
      rw [if_pos (by omega), hw, if_pos (by omega), if_pos (by omega), ref04_Role_eq k _ _ (by omega)]
      simp only [Option.bind_some, Int.toNat_natCast]
      unfold readR
      rw [hd, Int.toNat_natCast]
      by_cases hr : roleB (s.extract 0 i) (s.extract (i + 1) s.size) = true
      · rw [if_pos hr, if_pos ⟨by omega, hr⟩]
      · rw [if_neg hr, if_neg (fun h => hr h.2)]
    · rw [if_neg h46, hw]
      refine ih k (i + 1) (by omega) (by omega) (fun j c hj hc => ?_)
      by_cases e : j = i
      · subst e
        rintro rfl
        exact h46 ((bt_46 s j hlt).2 hc)
      · exact hno j c (by omega) hc
theorem ref04_Read_eq (k : Nat) (s : ByteArray) (hs : s.size ≤ 140737488355328) (hk : s.size + 21 < k) : liveryref04_Read.f k s = some (readR s) := by
  unfold liveryref04_Read.f
  exact ref04_Read_loop s hs s.size k 0 (by omega) hk (fun j c hj => by omega)
theorem lives04 (k : Nat) (hk : 20 < k) : liverylaw04_lives.f k = some true := by
  unfold liverylaw04_lives.f
  simp only [names_Read_eq k _ (show (⟨#[100, 49, 46, 97]⟩ : ByteArray).size ≤ 140737488355328 by decide) hk, names_Read_eq k _ (show (⟨#[120, 46, 97]⟩ : ByteArray).size ≤ 140737488355328 by decide) hk, names_Number_eq k _ hk, names_Domain_eq, names_May.f, Option.bind_some]
  have e1 : readR ⟨#[100, 49, 46, 97]⟩ = (⟨#[100, 49]⟩, ⟨#[97]⟩, 0) := by decide +kernel
  have e2 : readR ⟨#[120, 46, 97]⟩ = (⟨#[]⟩, ⟨#[]⟩, 10) := by decide +kernel
  have e3 : (domB 3).toList = [100, 51] := by decide +kernel
  have e4 : (domB 17).toList = [] := by decide +kernel
  have e5 : numR ⟨#[100, 48, 51]⟩ = 0 := by decide +kernel
  have e6 : numR ⟨#[100, 49, 54]⟩ = 16 := by decide +kernel
  have e7 : mayB ⟨#[97, 49]⟩ = true := by decide +kernel
  have e8 : mayB ⟨#[49, 97]⟩ = false := by decide +kernel
  have e9 : ((⟨#[100, 49]⟩ : ByteArray).toList == ([100, 49] : List UInt8) && ((⟨#[97]⟩ : ByteArray).toList == ([97] : List UInt8))) = true := by decide +kernel
  rw [e1, e2, e3, e4, e5, e6, e7, e8]
  simp only [e9, if_true]
  rfl
/-! ### the order of roles -/
theorem less_irrefl : ∀ l : List UInt8, Op.bytesLess l l = false
  | [] => rfl
  | a :: l => by
    rw [Op.bytesLess, less_irrefl l]
    simp
theorem less_antisymm : ∀ a b : List UInt8, Op.bytesLess a b = true → Op.bytesLess b a = false
  | [], [], h => by simp [Op.bytesLess] at h
  | [], _ :: _, _ => by simp [Op.bytesLess]
  | _ :: _, [], h => by simp [Op.bytesLess] at h
  | x :: a, y :: b, h => by
    rw [Op.bytesLess] at h ⊢
    simp only [Bool.or_eq_true, Bool.and_eq_true, decide_eq_true_eq, beq_iff_eq] at h
    simp only [Bool.or_eq_false_iff, Bool.and_eq_false_iff, decide_eq_false_iff_not, beq_eq_false_iff_ne]
    rcases h with h | ⟨rfl, h⟩
    · exact ⟨fun h2 => by have := UInt8.lt_iff_toNat_lt.1 h; have := UInt8.lt_iff_toNat_lt.1 h2; omega, .inl (fun e => by subst e; have := UInt8.lt_iff_toNat_lt.1 h; omega)⟩
    · exact ⟨fun h2 => by have := UInt8.lt_iff_toNat_lt.1 h2; omega, .inr (less_antisymm a b h)⟩
theorem less_total : ∀ a b : List UInt8, Op.bytesLess a b = false → Op.bytesLess b a = false → a = b
  | [], [], _, _ => rfl
  | [], _ :: _, h, _ => by simp [Op.bytesLess] at h
  | _ :: _, [], _, h => by simp [Op.bytesLess] at h
  | x :: a, y :: b, h, h2 => by
    rw [Op.bytesLess] at h h2
    simp only [Bool.or_eq_false_iff, Bool.and_eq_false_iff, decide_eq_false_iff_not, beq_eq_false_iff_ne] at h h2
    have e : x = y := by
      apply UInt8.toNat_inj.1
      have h1 := h.1; have h3 := h2.1
      rw [UInt8.lt_iff_toNat_lt] at h1 h3
      omega
    subst e
    rw [less_total a b (h.2.resolve_left (fun hh => hh rfl)) (h2.2.resolve_left (fun hh => hh rfl))]
theorem less_trans : ∀ a b c : List UInt8, Op.bytesLess a b = true → Op.bytesLess b c = true → Op.bytesLess a c = true
  | _, [], _, h, _ => by simp [Op.bytesLess] at h
  | _, _ :: _, [], _, h => by simp [Op.bytesLess] at h
  | [], _ :: _, _ :: _, _, _ => by simp [Op.bytesLess]
  | x :: a, y :: b, z :: c, h, h2 => by
    rw [Op.bytesLess] at h h2 ⊢
    simp only [Bool.or_eq_true, Bool.and_eq_true, decide_eq_true_eq, beq_iff_eq, UInt8.lt_iff_toNat_lt] at h h2 ⊢
    rcases h with h | ⟨rfl, h⟩
    · rcases h2 with h2 | ⟨rfl, h2⟩
      · left; omega
      · left; exact h
    · rcases h2 with h2 | ⟨rfl, h2⟩
      · left; exact h2
      · right; exact ⟨rfl, less_trans a b c h h2⟩
def lessR (ao an bo bn : ByteArray) : Bool := if ao = bo then Op.bytesLess an.toList bn.toList else Op.bytesLess ao.toList bo.toList
theorem names_Less_eq (ao an bo bn : ByteArray) : names_Less.f ao an bo bn = some (lessR ao an bo bn) := by
  unfold names_Less.f lessR
  simp only [toList_iff]
  congr 1
  by_cases h1 : ao = bo
  · subst h1
    by_cases h2 : an = bn
    · subst h2
      simp [less_irrefl]
    · simp [h2, less_irrefl]
  · simp [h1]
theorem ref04_Less_eq (ao an bo bn : ByteArray) : liveryref04_Less.f ao an bo bn = some (lessR ao an bo bn) := by
  unfold liveryref04_Less.f lessR
  simp only [toList_iff]
  split <;> rfl
end Go.Proofs.YtajngkgafkhbiaaDoor.P
