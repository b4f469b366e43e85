-- written by this session's driver wip/tools/myprint.py (the kit's printer, with contracts given by hand)
import Derived.Test.YtogjnmkkppdibaaPCx0
namespace Go.Proofs.Ytogjnmkkppdibaa.PC
open Go.RowKit Go.Proofs.YtogjnmkkppdibaaW.PrintWords Go.Proofs.YtogjnmkkppdibaaW.PrintLast Go.Proofs.YtogjnmkkppdibaaW.PrintMore
attribute [local go_sem] max2_int min2_int max_two min_two max_three min_three max_four min_four   -- for this text's walks alone
set_option linter.unusedVariables false
set_option linter.unusedSimpArgs false

-- NOT PRINTED: function 6 (mailcoachlaw20_WalMore)

end Go.Proofs.Ytogjnmkkppdibaa.PC
