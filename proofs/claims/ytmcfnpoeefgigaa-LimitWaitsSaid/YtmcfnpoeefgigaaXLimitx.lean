-- Written by xprint.py (a program of this session) for this claim
import Derived.Test.YtmcfnpoeefgigaaXLimitx0
import Derived.Test.YtmcfnpoeefgigaaXLimitx1
import Derived.Test.YtmcfnpoeefgigaaXLimitx2
import Derived.Test.YtmcfnpoeefgigaaXLimitx3
import Derived.Test.YtmcfnpoeefgigaaXLimitx4
import Derived.Test.YtmcfnpoeefgigaaXLimitx5
import Derived.Test.YtmcfnpoeefgigaaXLimitx6
import Derived.Test.YtmcfnpoeefgigaaXLimitx7
import Derived.Test.YtmcfnpoeefgigaaXLimitx8
namespace Go.Proofs.Ytmcfnpoeefgigaa.XLimit
open Go.Proofs.YtmcfnpoeefgigaaV
open Go.RowKit Go.Proofs.YtmcfnpoeefgigaaW.PrintWords Go.Proofs.YtmcfnpoeefgigaaW.PrintLast Go.Proofs.YtmcfnpoeefgigaaW.PrintMore
attribute [local go_sem] max2_int min2_int max_two min_two max_three min_three max_four min_four   -- for this text's walks alone
set_option linter.unusedVariables false
set_option linter.unusedSimpArgs false

end Go.Proofs.Ytmcfnpoeefgigaa.XLimit
