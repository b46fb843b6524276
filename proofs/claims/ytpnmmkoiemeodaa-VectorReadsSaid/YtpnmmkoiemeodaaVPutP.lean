/- The plain law of layer 10: a vector as bytes. -/
import Derived.Test.YtpnmmkoiemeodaaVCore
import Derived.Test.YtpnmmkoiemeodaaWPut
import Derived.Test.YtpnmmkoiemeodaaP9
namespace Go.Proofs.Ytpnmmkoiemeodaa.P
open Go.RowKit Go.Proofs.YtpnmmkoiemeodaaW.PrintWords Go.Proofs.YtpnmmkoiemeodaaW.PrintLast Go.Proofs.YtpnmmkoiemeodaaW.PrintMore
set_option linter.unusedVariables false
set_option linter.unusedSimpArgs false
def numsB (v : List Int) : List Int := (v.map numB).flatten
theorem numsB_cons (x : Int) (v : List Int) : numsB (x :: v) = numB x ++ numsB v := by simp [numsB]
theorem numsB_length (v : List Int) (h : ∀ x ∈ v, x ≤ 9223372036854775807) : (numsB v).length ≤ 9 * v.length := by
  induction v with
  | nil => simp [numsB]
  | cons x v ih =>
    rw [numsB_cons, List.length_append, List.length_cons]
    have h1 := numB_length x (h x (by simp))
    have h2 := ih (fun y hy => h y (by simp [hy]))
    omega
def putV (v : List Int) : List Int := numB (v.length : Int) ++ numsB v
theorem prog_put_loop (v : List Int) (hv : ∀ x ∈ v, x ≤ 9223372036854775807) (hm : v.length ≤ 1000000) : ∀ (d k i : Nat) (acc : List Int), v.length - i = d → i ≤ v.length → d < k → acc.length + 9 * d + 16 ≤ 140737488355328 →
    vector_Put.l0 k acc v (v.length : Int) (i : Int) = some (acc ++ numsB (v.drop i), 0) := by
  intro d
  induction d with
  | zero =>
    intro k i acc hd hi hk ha
    obtain ⟨k, rfl⟩ : ∃ m, k = m + 1 := ⟨k - 1, by omega⟩
    rw [vector_Put.l0, if_neg (by omega), List.drop_eq_nil_of_le (by omega)]
    simp [numsB]
  | succ d ih =>
    intro k i acc hd hi hk ha
    obtain ⟨k, rfl⟩ : ∃ m, k = m + 1 := ⟨k - 1, by omega⟩
    have h1 : i < v.length := by omega
    have hx := hv v[i] (List.getElem_mem h1)
    have hb := numB_length v[i] hx
    rw [vector_Put.l0, if_pos (by omega), if_pos (by omega), if_pos (by omega), rd_nat v i h1, prog_Number acc _ (by omega) hx, w64 (by omega) (by omega)]
    simp only [Option.bind_some]
    have := ih k (i + 1) (acc ++ numB v[i]) (by omega) (by omega) (by omega) (by rw [List.length_append]; omega)
    rw [show ((i : Int) + 1) = ((i + 1 : Nat) : Int) by omega, this, List.drop_eq_getElem_cons h1, numsB_cons, List.append_assoc]
theorem prog_Put (k : Nat) (a v : List Int) (ha : a.length ≤ 1000000) (hv : v.length ≤ 20) (hw : ∀ x ∈ v, x ≤ 9223372036854775807) (hk : 100 < k) :
    vector_Put.f k a v = some (if v = bareOf (getV v) then (a ++ putV v, 0) else ([], 1)) := by
  unfold vector_Put.f
  rw [prog_May k v hv (by omega)]
  simp only [Option.bind_some, decide_eq_true_eq]
  by_cases h : v = bareOf (getV v)
  · rw [if_pos h, if_pos h, prog_Number a _ (by omega) (by omega)]
    have hb := numB_length (v.length : Int) (by omega)
    have := prog_put_loop v hw (by omega) v.length k 0 (a ++ numB (v.length : Int)) (by omega) (by omega) (by omega) (by rw [List.length_append]; omega)
    simp only [Option.bind_some]
    simpa [putV] using this
  · rw [if_neg h, if_neg h]
theorem putV_length (v : List Int) (hv : v.length ≤ 20) (hw : ∀ x ∈ v, x ≤ 9223372036854775807) : (putV v).length ≤ 189 := by
  have := numsB_length v hw
  have := numB_length (v.length : Int) (by omega)
  simp only [putV, List.length_append]; omega
end Go.Proofs.Ytpnmmkoiemeodaa.P
