/- Cool: a small case. -/
import Derived.Test.YtbhgohomgfjjfaaXCOx9
set_option linter.unusedSimpArgs false
set_option linter.unusedVariables false
namespace Go.Proofs.Ytbhgohomgfjjfaa.Pure
open Go.RowKit Go.Proofs.Ytbhgohomgfjjfaa.XCO Go.Proofs.YtbhgohomgfjjfaaW.PrintWords Go.Proofs.YtbhgohomgfjjfaaW.PrintLast
set_option maxRecDepth 100000 in
theorem small_eq : barrowlaw16_small.f 40 = some true := by decide +kernel
end Go.Proofs.Ytbhgohomgfjjfaa.Pure
