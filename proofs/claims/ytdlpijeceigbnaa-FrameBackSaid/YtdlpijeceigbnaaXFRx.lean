-- Written by xprint.py (a program of this session) for this claim
import Derived.Test.YtdlpijeceigbnaaXFRx0
import Derived.Test.YtdlpijeceigbnaaXFRx1
import Derived.Test.YtdlpijeceigbnaaXFRx2
import Derived.Test.YtdlpijeceigbnaaXFRx3
import Derived.Test.YtdlpijeceigbnaaXFRx4
import Derived.Test.YtdlpijeceigbnaaXFRx5
import Derived.Test.YtdlpijeceigbnaaXFRx6
import Derived.Test.YtdlpijeceigbnaaXFRx7
import Derived.Test.YtdlpijeceigbnaaXFRx8
import Derived.Test.YtdlpijeceigbnaaXFRx9
import Derived.Test.YtdlpijeceigbnaaXFRx10
namespace Go.Proofs.Ytdlpijeceigbnaa.XFR
open Go.Proofs.YtdlpijeceigbnaaV Go.Proofs.YtdlpijeceigbnaaS
open Go.RowKit Go.Proofs.YtdlpijeceigbnaaW.PrintWords Go.Proofs.YtdlpijeceigbnaaW.PrintLast Go.Proofs.YtdlpijeceigbnaaW.PrintMore
attribute [local go_sem] max2_int min2_int max_two min_two max_three min_three max_four min_four   -- for this text's walks alone
set_option linter.unusedVariables false
set_option linter.unusedSimpArgs false

end Go.Proofs.Ytdlpijeceigbnaa.XFR
