-- Written by a program of this session for this claim (mp.py, over the kit's print); Lean checks it.
import Derived.Test.YtdbikehjcmhjjaaPAllx0
namespace Go.Proofs.Ytdbikehjcmhjjaa.PAll
open Go.RowKit Go.Proofs.YtdbikehjcmhjjaaW.PrintWords Go.Proofs.YtdbikehjcmhjjaaW.PrintLast Go.Proofs.YtdbikehjcmhjjaaW.PrintMore
attribute [local go_sem] max2_int min2_int max_two min_two max_three min_three max_four min_four   -- for this text's walks alone
set_option linter.unusedVariables false
set_option linter.unusedSimpArgs false

-- NOT PRINTED: function 9 (shelfmarklaw01_PackBack)

end Go.Proofs.Ytdbikehjcmhjjaa.PAll
