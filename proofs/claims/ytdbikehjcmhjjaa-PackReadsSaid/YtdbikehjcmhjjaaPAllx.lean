-- Written by a program of this session for this claim (mp.py, over the kit's print); Lean checks it.
import Derived.Test.YtdbikehjcmhjjaaPAllx0
import Derived.Test.YtdbikehjcmhjjaaPAllx1
import Derived.Test.YtdbikehjcmhjjaaPAllx2
import Derived.Test.YtdbikehjcmhjjaaPAllx3
import Derived.Test.YtdbikehjcmhjjaaPAllx4
import Derived.Test.YtdbikehjcmhjjaaPAllx5
import Derived.Test.YtdbikehjcmhjjaaPAllx6
import Derived.Test.YtdbikehjcmhjjaaPAllx7
import Derived.Test.YtdbikehjcmhjjaaPAllx8
import Derived.Test.YtdbikehjcmhjjaaPAllx9
import Derived.Test.YtdbikehjcmhjjaaPAllx10
import Derived.Test.YtdbikehjcmhjjaaPAllx11
import Derived.Test.YtdbikehjcmhjjaaPAllx12
namespace Go.Proofs.Ytdbikehjcmhjjaa.PAll
open Go.RowKit Go.Proofs.YtdbikehjcmhjjaaW.PrintWords Go.Proofs.YtdbikehjcmhjjaaW.PrintLast Go.Proofs.YtdbikehjcmhjjaaW.PrintMore
attribute [local go_sem] max2_int min2_int max_two min_two max_three min_three max_four min_four   -- for this text's walks alone
set_option linter.unusedVariables false
set_option linter.unusedSimpArgs false

end Go.Proofs.Ytdbikehjcmhjjaa.PAll
