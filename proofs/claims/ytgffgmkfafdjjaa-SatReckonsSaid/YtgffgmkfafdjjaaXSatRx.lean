-- Written by xprint.py (a program of this session) for this claim
import Derived.Test.YtgffgmkfafdjjaaXSatRx0
import Derived.Test.YtgffgmkfafdjjaaXSatRx1
import Derived.Test.YtgffgmkfafdjjaaXSatRx2
namespace Go.Proofs.Ytgffgmkfafdjjaa.XSatR
open Go.Proofs.YtgffgmkfafdjjaaV
open Go.RowKit Go.Proofs.YtgffgmkfafdjjaaW.PrintWords Go.Proofs.YtgffgmkfafdjjaaW.PrintLast Go.Proofs.YtgffgmkfafdjjaaW.PrintMore
attribute [local go_sem] max2_int min2_int max_two min_two max_three min_three max_four min_four   -- for this text's walks alone
set_option linter.unusedVariables false
set_option linter.unusedSimpArgs false

end Go.Proofs.Ytgffgmkfafdjjaa.XSatR
