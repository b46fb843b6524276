/- Texts of this claim, laid into one. -/
import Derived.Test.YtpdcmdofojckdaaDoorP0
section
/- Written by a program of this session's, for this claim: the functions that the law reaches, their contracts, the law's row. Not trusted: it is checked as any text. -/
namespace Go.Proofs.YtpdcmdofojckdaaDoor.P
open Go.RowKit Go.Proofs.YtpdcmdofojckdaaDoorW.PrintWords Go.Proofs.YtpdcmdofojckdaaDoorW.PrintLast Go.Proofs.YtpdcmdofojckdaaDoorW.PrintMore
attribute [local go_sem] max2_int min2_int max_two min_two max_three min_three max_four min_four   -- for this text's walks alone
set_option linter.unusedVariables false
set_option linter.unusedSimpArgs false

theorem eqA38 (d : Nat) (w : World) (x0 y0 : ByteArray) (x1 y1 : ByteArray) :
    (Op.equalIn (d + 2) 38 (.agg #[.string x0, .string x1]) (.agg #[.string y0, .string y1])).run Tryd.prog w = .ok (x0.toList == y0.toList && (x1.toList == y1.toList)) w := by
  refine eqA_of Tryd.underlying38 (by kernel_rfl) ?_
  refine eqf_cons (by rfl) (by go_simp; rfl) (by go_simp; rfl) (by go_simp) ?_
  exact eqf_last (by rfl) (by go_simp; rfl) (by go_simp; rfl) (by go_simp)
end Go.Proofs.YtpdcmdofojckdaaDoor.P
end
section
/- Written by a program of this session's, for this claim: the functions that the law reaches, their contracts, the law's row. Not trusted: it is checked as any text. -/
namespace Go.Proofs.YtpdcmdofojckdaaDoor.P
open Go.RowKit Go.Proofs.YtpdcmdofojckdaaDoorW.PrintWords Go.Proofs.YtpdcmdofojckdaaDoorW.PrintLast Go.Proofs.YtpdcmdofojckdaaDoorW.PrintMore
attribute [local go_sem] max2_int min2_int max_two min_two max_three min_three max_four min_four   -- for this text's walks alone
set_option linter.unusedVariables false
set_option linter.unusedSimpArgs false

theorem eqA36 (d : Nat) (w : World) (x0 y0 : Int) (x1 y1 : Int) :
    (Op.equalIn (d + 2) 36 (.agg #[.int .i64 x0, .int .i64 x1]) (.agg #[.int .i64 y0, .int .i64 y1])).run Tryd.prog w = .ok (x0 == y0 && (x1 == y1)) w := by
  refine eqA_of Tryd.underlying36 (by kernel_rfl) ?_
  refine eqf_cons (by rfl) (by go_simp; rfl) (by go_simp; rfl) (by go_simp) ?_
  exact eqf_last (by rfl) (by go_simp; rfl) (by go_simp; rfl) (by go_simp)
end Go.Proofs.YtpdcmdofojckdaaDoor.P
end
section
/- Written by a program of this session's, for this claim: the functions that the law reaches, their contracts, the law's row. Not trusted: it is checked as any text. -/
namespace Go.Proofs.YtpdcmdofojckdaaDoor.P
open Go.RowKit Go.Proofs.YtpdcmdofojckdaaDoorW.PrintWords Go.Proofs.YtpdcmdofojckdaaDoorW.PrintLast Go.Proofs.YtpdcmdofojckdaaDoorW.PrintMore
attribute [local go_sem] max2_int min2_int max_two min_two max_three min_three max_four min_four   -- for this text's walks alone
set_option linter.unusedVariables false
set_option linter.unusedSimpArgs false

theorem eqA40 (d : Nat) (w : World) (x0 y0 : Int) (x1 y1 : Int) (x2 y2 : ByteArray) (x3 y3 : Int) (x4 y4 : ByteArray) (x5 y5 : ByteArray) (x6 y6 : ByteArray) (x7 y7 : ByteArray) (x8 y8 : ByteArray) :
    (Op.equalIn (d + 3) 40 (.agg #[.int .i64 x0, .int .i64 x1, .string x2, .int .i64 x3, .string x4, .string x5, .string x6, .string x7, .string x8]) (.agg #[.int .i64 y0, .int .i64 y1, .string y2, .int .i64 y3, .string y4, .string y5, .string y6, .string y7, .string y8])).run Tryd.prog w = .ok ((x0 == y0 && (x1 == y1)) && (x2.toList == y2.toList && (x3 == y3 && (x4.toList == y4.toList && ((x5.toList == y5.toList && (x6.toList == y6.toList)) && ((x7.toList == y7.toList && (x8.toList == y8.toList)))))))) w := by
  refine eqA_of Tryd.underlying40 (by kernel_rfl) ?_
  refine eqf_cons (by rfl) (by go_simp) (by go_simp) (eqA36 (d + 0) w _ _ _ _) ?_
  refine eqf_cons (by rfl) (by go_simp; rfl) (by go_simp; rfl) (by go_simp) ?_
  refine eqf_cons (by rfl) (by go_simp; rfl) (by go_simp; rfl) (by go_simp) ?_
  refine eqf_cons (by rfl) (by go_simp; rfl) (by go_simp; rfl) (by go_simp) ?_
  refine eqf_cons (by rfl) (by go_simp) (by go_simp) (eqA38 (d + 0) w _ _ _ _) ?_
  exact eqf_last (by rfl) (by go_simp) (by go_simp) (eqA38 (d + 0) w _ _ _ _)
theorem eqA42 (d : Nat) (w : World) (x0 y0 : Int) (x1 y1 : Int) (x2 y2 : ByteArray) (x3 y3 : Int) (x4 y4 : ByteArray) (x5 y5 : ByteArray) (x6 y6 : ByteArray) (x7 y7 : ByteArray) (x8 y8 : ByteArray) (x9 y9 : Int) :
    (Op.equalIn (d + 4) 42 (.agg #[.int .i64 x0, .int .i64 x1, .string x2, .int .i64 x3, .string x4, .string x5, .string x6, .string x7, .string x8, .int .i64 x9]) (.agg #[.int .i64 y0, .int .i64 y1, .string y2, .int .i64 y3, .string y4, .string y5, .string y6, .string y7, .string y8, .int .i64 y9])).run Tryd.prog w = .ok (((x0 == y0 && (x1 == y1)) && (x2.toList == y2.toList && (x3 == y3 && (x4.toList == y4.toList && ((x5.toList == y5.toList && (x6.toList == y6.toList)) && ((x7.toList == y7.toList && (x8.toList == y8.toList)))))))) && (x9 == y9)) w := by
  refine eqA_of Tryd.underlying42 (by kernel_rfl) ?_
  refine eqf_cons (by rfl) (by go_simp) (by go_simp) (eqA40 (d + 0) w _ _ _ _ _ _ _ _ _ _ _ _ _ _ _ _ _ _) ?_
  exact eqf_last (by rfl) (by go_simp; rfl) (by go_simp; rfl) (by go_simp)
end Go.Proofs.YtpdcmdofojckdaaDoor.P
end
