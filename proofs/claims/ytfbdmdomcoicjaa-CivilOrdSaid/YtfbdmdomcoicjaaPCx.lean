-- written by this session's driver wip/tools/myprint.py (the kit's printer, with contracts given by hand)
import Derived.Test.YtfbdmdomcoicjaaPCx0
import Derived.Test.YtfbdmdomcoicjaaPCx1
import Derived.Test.YtfbdmdomcoicjaaPCx2
import Derived.Test.YtfbdmdomcoicjaaPCx3
import Derived.Test.YtfbdmdomcoicjaaPCx4
import Derived.Test.YtfbdmdomcoicjaaPCx5
namespace Go.Proofs.Ytfbdmdomcoicjaa.PC
open Go.RowKit Go.Proofs.YtfbdmdomcoicjaaW.PrintWords Go.Proofs.YtfbdmdomcoicjaaW.PrintLast Go.Proofs.YtfbdmdomcoicjaaW.PrintMore
attribute [local go_sem] max2_int min2_int max_two min_two max_three min_three max_four min_four   -- for this text's walks alone
set_option linter.unusedVariables false
set_option linter.unusedSimpArgs false

end Go.Proofs.Ytfbdmdomcoicjaa.PC
