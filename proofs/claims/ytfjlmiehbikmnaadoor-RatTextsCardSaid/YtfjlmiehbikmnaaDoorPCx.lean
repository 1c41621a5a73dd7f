-- by wip/tool/mine.py of this repo (the kit's printer with given contracts)
import Derived.Test.YtfjlmiehbikmnaaDoorPCx0
import Derived.Test.YtfjlmiehbikmnaaDoorPCx1
namespace Go.Proofs.YtfjlmiehbikmnaaDoor.PC
open Go.RowKit Go.Proofs.YtfjlmiehbikmnaaDoorW.PrintWords Go.Proofs.YtfjlmiehbikmnaaDoorW.PrintLast Go.Proofs.YtfjlmiehbikmnaaDoorW.PrintMore
attribute [local go_sem] max2_int min2_int max_two min_two max_three min_three max_four min_four   -- for this text's walks alone
set_option linter.unusedVariables false
set_option linter.unusedSimpArgs false

end Go.Proofs.YtfjlmiehbikmnaaDoor.PC
