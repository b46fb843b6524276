/- The plain law of layer 3, the part that other layers use: numbers and texts as bytes. -/
import Derived.Test.YtpnmmkoiemeodaaDoorHPlain
import Derived.Test.YtpnmmkoiemeodaaDoorHWire
import Derived.Test.YtpnmmkoiemeodaaDoorP19
import Derived.Test.YtpnmmkoiemeodaaDoorP21
namespace Go.Proofs.YtpnmmkoiemeodaaDoor.P
open Go.RowKit Go.Proofs.YtpnmmkoiemeodaaDoorW.PrintWords Go.Proofs.YtpnmmkoiemeodaaDoorW.PrintLast Go.Proofs.YtpnmmkoiemeodaaDoorW.PrintMore
set_option linter.unusedVariables false
set_option linter.unusedSimpArgs false
theorem ref01_Same (k : Nat) (a b : List Int) (hm : a.length ≤ 9223372036854775806) (hk : a.length < k) : liveryref01_Same.f k a b = some (decide (a = b)) := by
  unfold liveryref01_Same.f
  by_cases hl : a.length = b.length
  · rw [if_pos (by omega)]
    have := same_loop a b hl hm (fun k i => liveryref01_Same.l0 k a b i) (fun k i => by simp only [liveryref01_Same.l0]) a.length k 0 (by omega) (by omega) (by omega)
    simpa using this
  · rw [if_neg (by omega)]
    simp only [Option.some.injEq]
    exact (decide_eq_false (fun e => hl (by rw [e]))).symm
theorem prog_Number (l : List Int) (a : Int) (hl : l.length + 16 ≤ 140737488355328) (ha : a ≤ 9223372036854775807) : wire_Number.f l a = some (l ++ numB a) := by
  unfold wire_Number.f; rw [if_pos hl, if_pos ha]
def textB (s : ByteArray) : List Int := numB (s.size : Int) ++ bytesOf s
theorem prog_Text (l : List Int) (s : ByteArray) (hl : l.length + s.size + 100 ≤ 140737488355328) : wire_Text.f l s = some (l ++ textB s) := by
  unfold wire_Text.f
  have hb := numB_length (s.size : Int) (by omega)
  rw [prog_Number l _ (by omega) (by omega)]
  simp only [Option.bind_some]
  rw [if_pos (by simp only [List.length_append]; omega), textB, List.append_assoc]
theorem strOfNums_size (l : List Int) : (strOfNums l).size = l.length := by simp [strOfNums, ByteArray.size]
end Go.Proofs.YtpnmmkoiemeodaaDoor.P
