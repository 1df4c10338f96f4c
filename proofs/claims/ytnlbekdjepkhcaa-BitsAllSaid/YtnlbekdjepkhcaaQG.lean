-- Written by a program of this session's (ownprint.py, over the kit's print.py); Lean checks it.
import Derived.Test.YtnlbekdjepkhcaaQG0
import Derived.Test.YtnlbekdjepkhcaaQG1
import Derived.Test.YtnlbekdjepkhcaaQG2
import Derived.Test.YtnlbekdjepkhcaaQG3
import Derived.Test.YtnlbekdjepkhcaaQG4
import Derived.Test.YtnlbekdjepkhcaaQG5
import Derived.Test.YtnlbekdjepkhcaaQG6
import Derived.Test.YtnlbekdjepkhcaaQG7
import Derived.Test.YtnlbekdjepkhcaaQG8
import Derived.Test.YtnlbekdjepkhcaaQG9
import Derived.Test.YtnlbekdjepkhcaaQG10
import Derived.Test.YtnlbekdjepkhcaaQG11
import Derived.Test.YtnlbekdjepkhcaaQG12
import Derived.Test.YtnlbekdjepkhcaaQG13
namespace Go.Proofs.Ytnlbekdjepkhcaa.QG
open Go.RowKit Go.Proofs.YtnlbekdjepkhcaaW.PrintWords Go.Proofs.YtnlbekdjepkhcaaW.PrintLast Go.Proofs.YtnlbekdjepkhcaaW.PrintMore
attribute [local go_sem] max2_int min2_int max_two min_two max_three min_three max_four min_four   -- for this text's walks alone
set_option linter.unusedVariables false
set_option linter.unusedSimpArgs false

end Go.Proofs.Ytnlbekdjepkhcaa.QG
