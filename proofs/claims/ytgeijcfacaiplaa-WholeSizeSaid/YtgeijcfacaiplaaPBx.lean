-- by wip/tool/mine.py of this repo (the kit's printer with given contracts)
import Derived.Test.YtgeijcfacaiplaaPBx0
import Derived.Test.YtgeijcfacaiplaaPBx1
import Derived.Test.YtgeijcfacaiplaaPBx2
import Derived.Test.YtgeijcfacaiplaaPBx3
import Derived.Test.YtgeijcfacaiplaaPBx4
import Derived.Test.YtgeijcfacaiplaaPBx5
import Derived.Test.YtgeijcfacaiplaaPBx6
namespace Go.Proofs.Ytgeijcfacaiplaa.PB
open Go.RowKit Go.Proofs.YtgeijcfacaiplaaW.PrintWords Go.Proofs.YtgeijcfacaiplaaW.PrintLast Go.Proofs.YtgeijcfacaiplaaW.PrintMore
attribute [local go_sem] max2_int min2_int max_two min_two max_three min_three max_four min_four   -- for this text's walks alone
set_option linter.unusedVariables false
set_option linter.unusedSimpArgs false

end Go.Proofs.Ytgeijcfacaiplaa.PB
