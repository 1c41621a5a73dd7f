-- by wip/tool/mine.py of this repo (the kit's printer with given contracts)
import Derived.Test.YtpjpgfaidallhaaPAx0
import Derived.Test.YtpjpgfaidallhaaPAx1
import Derived.Test.YtpjpgfaidallhaaPAx2
import Derived.Test.YtpjpgfaidallhaaPAx3
import Derived.Test.YtpjpgfaidallhaaPAx4
import Derived.Test.YtpjpgfaidallhaaPAx5
import Derived.Test.YtpjpgfaidallhaaPAx6
import Derived.Test.YtpjpgfaidallhaaPAx7
import Derived.Test.YtpjpgfaidallhaaPAx8
import Derived.Test.YtpjpgfaidallhaaPAx9
import Derived.Test.YtpjpgfaidallhaaPAx10
import Derived.Test.YtpjpgfaidallhaaPAx11
namespace Go.Proofs.Ytpjpgfaidallhaa.PA
open Go.RowKit Go.Proofs.YtpjpgfaidallhaaW.PrintWords Go.Proofs.YtpjpgfaidallhaaW.PrintLast Go.Proofs.YtpjpgfaidallhaaW.PrintMore
attribute [local go_sem] max2_int min2_int max_two min_two max_three min_three max_four min_four   -- for this text's walks alone
set_option linter.unusedVariables false
set_option linter.unusedSimpArgs false

end Go.Proofs.Ytpjpgfaidallhaa.PA
