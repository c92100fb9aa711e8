/- Go functions as Lean functions, with contracts. -/
import Derived.Test.YthpnipdoehbiaaaDoorRSm
namespace Go.Proofs.YthpnipdoehbiaaaDoor.Pr
open Go.RowKit Go.Proofs.YthpnipdoehbiaaaDoorW.PrintWords Go.Proofs.YthpnipdoehbiaaaDoorW.PrintLast Go.Proofs.YthpnipdoehbiaaaDoorW.PrintMore
attribute [local go_sem] jF jD jQ jO jx jw jG jE
set_option linter.unusedVariables false
set_option linter.unusedSimpArgs false
theorem eqA53 (d : Nat) (w : World) (x0 y0 : Int) (x1 y1 : Int) (x2 y2 : Int) :
    (Op.equalIn (d + 2) 53 (.agg #[.int .i64 x0, .int .i64 x1, .int .i64 x2]) (.agg #[.int .i64 y0, .int .i64 y1, .int .i64 y2])).run Tryd.prog w = .ok (x0 == y0 && (x1 == y1 && (x2 == y2))) w := by
  refine eqi_of (c := 1) Tryd.underlying53 (by kernel_rfl) (by kernel_rfl) ?_
  show (Op.eqItems _ _ _ _ _ [0, 1, 2]).run _ _ = _
  refine zg6 (by go_simp; rfl) (by go_simp; rfl) (by go_simp) ?_
  refine zg6 (by go_simp; rfl) (by go_simp; rfl) (by go_simp) ?_
  exact zj2 (by go_simp; rfl) (by go_simp; rfl) (by go_simp)
end Go.Proofs.YthpnipdoehbiaaaDoor.Pr
