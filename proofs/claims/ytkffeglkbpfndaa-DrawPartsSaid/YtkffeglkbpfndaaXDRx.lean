-- Written by xprint.py (a program of this session) for this claim
import Derived.Test.YtkffeglkbpfndaaXDRx0
import Derived.Test.YtkffeglkbpfndaaXDRx1
import Derived.Test.YtkffeglkbpfndaaXDRx2
import Derived.Test.YtkffeglkbpfndaaXDRx3
import Derived.Test.YtkffeglkbpfndaaXDRx4
import Derived.Test.YtkffeglkbpfndaaXDRx5
import Derived.Test.YtkffeglkbpfndaaXDRx6
import Derived.Test.YtkffeglkbpfndaaXDRx7
namespace Go.Proofs.Ytkffeglkbpfndaa.XDR
open Go.Proofs.YtkffeglkbpfndaaV Go.Proofs.YtkffeglkbpfndaaS
open Go.RowKit Go.Proofs.YtkffeglkbpfndaaW.PrintWords Go.Proofs.YtkffeglkbpfndaaW.PrintLast Go.Proofs.YtkffeglkbpfndaaW.PrintMore
attribute [local go_sem] max2_int min2_int max_two min_two max_three min_three max_four min_four   -- for this text's walks alone
set_option linter.unusedVariables false
set_option linter.unusedSimpArgs false

end Go.Proofs.Ytkffeglkbpfndaa.XDR
