-- Written by xprint.py (a program of this session) for this claim
import Derived.Test.YtkidppjaclgkkaaXPackx0
import Derived.Test.YtkidppjaclgkkaaXPackx1
import Derived.Test.YtkidppjaclgkkaaXPackx2
import Derived.Test.YtkidppjaclgkkaaXPackx3
import Derived.Test.YtkidppjaclgkkaaXPackx4
import Derived.Test.YtkidppjaclgkkaaXPackx5
import Derived.Test.YtkidppjaclgkkaaXPackx6
import Derived.Test.YtkidppjaclgkkaaXPackx7
namespace Go.Proofs.Ytkidppjaclgkkaa.XPack
open Go.Proofs.YtkidppjaclgkkaaV
open Go.RowKit Go.Proofs.YtkidppjaclgkkaaW.PrintWords Go.Proofs.YtkidppjaclgkkaaW.PrintLast Go.Proofs.YtkidppjaclgkkaaW.PrintMore
attribute [local go_sem] max2_int min2_int max_two min_two max_three min_three max_four min_four   -- for this text's walks alone
set_option linter.unusedVariables false
set_option linter.unusedSimpArgs false

end Go.Proofs.Ytkidppjaclgkkaa.XPack
