/- The plain law of layer 3, the part that other layers use: numbers and texts as bytes. -/
import Derived.Test.YtpnmmkoiemeodaaHPlain
import Derived.Test.YtpnmmkoiemeodaaHWire
import Derived.Test.YtpnmmkoiemeodaaP9
namespace Go.Proofs.Ytpnmmkoiemeodaa.P
open Go.RowKit Go.Proofs.YtpnmmkoiemeodaaW.PrintWords Go.Proofs.YtpnmmkoiemeodaaW.PrintLast Go.Proofs.YtpnmmkoiemeodaaW.PrintMore
set_option linter.unusedVariables false
set_option linter.unusedSimpArgs false
theorem ref01_Same (k : Nat) (a b : List Int) (hm : a.length ≤ 9223372036854775806) (hk : a.length < k) : liveryref01_Same.f k a b = some (decide (a = b)) := by
  unfold liveryref01_Same.f
  by_cases hl : a.length = b.length
  · rw [if_pos (by omega)]
    have := same_loop a b hl hm (fun k i => liveryref01_Same.l0 k a b i) (fun k i => by simp only [liveryref01_Same.l0]) a.length k 0 (by omega) (by omega) (by omega)
    simpa using this
  · rw [if_neg (by omega)]
    simp only [Option.some.injEq]
    exact (decide_eq_false (fun e => hl (by rw [e]))).symm
theorem prog_Number (l : List Int) (a : Int) (hl : l.length + 16 ≤ 140737488355328) (ha : a ≤ 9223372036854775807) : wire_Number.f l a = some (l ++ numB a) := by
  unfold wire_Number.f; rw [if_pos hl, if_pos ha]
/-- A text, as it is put. -/
def textB (s : ByteArray) : List Int := numB (s.size : Int) ++ bytesOf s
theorem numLen_mono (a b : Nat) (h : a ≤ b) (hb : b < 18446744073709551616) : numLen a ≤ numLen b := by
  refine numLen_le (numLen b) a ?_ (by omega)
  have := div_numLen b hb
  have hp : 0 < 256 ^ numLen b := Nat.pow_pos (by decide)
  rcases Nat.lt_or_ge b (256 ^ numLen b) with h2 | h2
  · omega
  · have := Nat.div_pos h2 hp
    omega
theorem numB_mono (a b : Int) (h : a ≤ b) (hb : b ≤ 9223372036854775807) : (numB a).length ≤ (numB b).length := by
  simp only [numB, List.length_cons]
  rw [digs_length _ _ (Nat.le_refl _) (by omega), digs_length _ _ (Nat.le_refl _) (by omega)]
  have := numLen_mono a.toNat b.toNat (by omega) (by omega)
  omega
theorem strOfNums_size (l : List Int) : (strOfNums l).size = l.length := by simp [strOfNums, ByteArray.size]
end Go.Proofs.Ytpnmmkoiemeodaa.P
