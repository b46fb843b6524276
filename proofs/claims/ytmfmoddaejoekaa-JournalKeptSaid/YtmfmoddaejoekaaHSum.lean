/- Contracts, typed by hand: the check sum. -/
import Derived.Test.YtmfmoddaejoekaaHTapeJ
import Derived.WalkMore
import Derived.ScopeJumps
import Derived.Scope
set_option linter.unusedVariables false
set_option linter.unusedSimpArgs false
namespace Go.Proofs.Ytmfmoddaejoekaa.P
open Go.RowKit Go.Proofs.YtmfmoddaejoekaaW.PrintWords Go.Proofs.YtmfmoddaejoekaaW.PrintLast Go.Proofs.YtmfmoddaejoekaaW.PrintMore
/-- A register behind one bit, behind some, behind a byte, behind bytes. -/
def bit16 (r : Int) : Int := if (Go.bits .and .u16 r 32768 != 0) = true then Go.bits .xor .u16 (IntKind.u16.wrap (r * 2)) 4129 else IntKind.u16.wrap (r * 2)
def bits16 : Nat → Int → Int
  | 0, r => r
  | n + 1, r => bits16 n (bit16 r)
def byte16 (r b : Int) : Int := bits16 8 (Go.bits .xor .u16 r (IntKind.u16.wrap (IntKind.u16.wrap b * 256)))
def sumR (r : Int) (l : List Int) : Int := l.foldl byte16 r
def sumM (l : List Int) : Int := wrap64 (sumR (IntKind.u16.wrap 65535) l)
set_option maxHeartbeats 4000000 in
set_option maxRecDepth 100000 in
theorem sums_byteIn.calls (r b : Int) (W : World) : Calls Try.prog 82 #[.int .u16 r, .int .u8 b] W fun e W' => e = .returned (.int .u16 (byte16 r b)) ∧ W = W' := by
  go_enter Try.func82, Try.ntmps82
  go_wp2_with fail
  refine wp_scope_jumps 0 (fun a' w' => w' = W ∧ ∃ (m : Nat) (acc : Int) (u6 u7 u8 u9 u10 u11 u12 u13 u14 u15 u16 u17 u18 u19 u20 u21 u22 u23 : Value), a' = { tmps := #[.int .u16 acc, .int .u8 b, undef, undef, .int .u16 0, .int .i64 (m : Int), u6, u7, u8, u9, u10, u11, u12, u13, u14, u15, u16, u17, u18, u19, u20, u21, u22, u23, undef], defers := [] } ∧ m ≤ 7 ∧ Aside0 (bits16 (8 - m) acc = byte16 r b)) (fun a' _ => (8 - (intOf (a'.tmps.getD 5 undef)).toNat)) rfl ?_ ?_
  · go_wp2_with fail
    go_step3
    obtain ⟨x, ex⟩ : ∃ x, Go.bits .xor .u16 r (IntKind.u16.wrap (IntKind.u16.wrap b * 256)) = x := ⟨_, rfl⟩
    have HX := Aside0.mk (show bits16 7 (bit16 x) = byte16 r b by rw [← ex]; rfl)
    rw [ex]
    clear ex
    obtain ⟨h, eh⟩ : ∃ h, (Go.bits .and .u16 x 32768 != 0) = h := ⟨_, rfl⟩
    have HH := Aside0.mk eh
    cases h with
    | true =>
      go_wp2_with fail
      go_step3
      refine ⟨rfl, rfl, 1, _, _, _, _, _, _, _, _, _, _, _, _, _, _, _, _, _, _, _, rfl, by omega, ⟨?_⟩⟩
      rw [← HX.out]
      show bits16 7 _ = _
      rw [show bit16 x = _ from if_pos HH.out]
    | false =>
      go_wp2_with fail
      go_step3
      refine ⟨rfl, rfl, 1, _, _, _, _, _, _, _, _, _, _, _, _, _, _, _, _, _, _, _, rfl, by omega, ⟨?_⟩⟩
      rw [← HX.out]
      show bits16 7 _ = _
      rw [show bit16 x = _ from if_neg (by rw [HH.out]; decide)]
  · rintro a' w' ⟨rfl, m, x, u6, u7, u8, u9, u10, u11, u12, u13, u14, u15, u16, u17, u18, u19, u20, u21, u22, u23, rfl, hm, HI⟩
    have w1 : wrap64 ((m : Int) + 1) = (m : Int) + 1 := by unfold wrap64; omega
    have HX := Aside0.mk (show bits16 (7 - m) (bit16 x) = byte16 r b by rw [← HI.out, show 8 - m = (7 - m) + 1 by omega]; rfl)
    obtain ⟨h, eh⟩ : ∃ h, (Go.bits .and .u16 x 32768 != 0) = h := ⟨_, rfl⟩
    have HH := Aside0.mk eh
    by_cases h7 : m = 7
    · subst h7
      cases h with
      | true =>
        go_wp2_with fail
        simp only [Exit.jump]
        go_ret
        refine ⟨?_, rfl⟩
        rw [← HX.out, show bit16 x = _ from if_pos HH.out]
        rfl
      | false =>
        go_wp2_with fail
        simp only [Exit.jump]
        go_ret
        refine ⟨?_, rfl⟩
        rw [← HX.out, show bit16 x = _ from if_neg (by rw [HH.out]; decide)]
        rfl
    · have b1 : decide ((m : Int) + 1 < 8) = true := decide_eq_true (by omega)
      cases h with
      | true =>
        go_wp2_with fail
        go_step3
        refine ⟨rfl, ⟨rfl, m + 1, _, _, _, _, _, _, _, _, _, _, _, _, _, _, _, _, _, _, _, rfl, by omega, ⟨?_⟩⟩, by simp [intOf]; omega⟩
        rw [← HX.out, show 8 - (m + 1) = 7 - m by omega]
        rw [show bit16 x = _ from if_pos HH.out]
      | false =>
        go_wp2_with fail
        go_step3
        refine ⟨rfl, ⟨rfl, m + 1, _, _, _, _, _, _, _, _, _, _, _, _, _, _, _, _, _, _, _, rfl, by omega, ⟨?_⟩⟩, by simp [intOf]; omega⟩
        rw [← HX.out, show 8 - (m + 1) = 7 - m by omega]
        rw [show bit16 x = _ from if_neg (by rw [HH.out]; decide)]
end Go.Proofs.Ytmfmoddaejoekaa.P
