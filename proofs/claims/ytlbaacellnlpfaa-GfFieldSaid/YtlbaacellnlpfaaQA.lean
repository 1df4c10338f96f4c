-- Written by a program of this session's (ownprint.py, over the kit's print.py); Lean checks it.
import Derived.Test.YtlbaacellnlpfaaQA0
import Derived.Test.YtlbaacellnlpfaaQA1
import Derived.Test.YtlbaacellnlpfaaQA2
import Derived.Test.YtlbaacellnlpfaaQA3
import Derived.Test.YtlbaacellnlpfaaQA4
import Derived.Test.YtlbaacellnlpfaaQA5
import Derived.Test.YtlbaacellnlpfaaQA6
import Derived.Test.YtlbaacellnlpfaaQA7
import Derived.Test.YtlbaacellnlpfaaQA8
import Derived.Test.YtlbaacellnlpfaaQA9
import Derived.Test.YtlbaacellnlpfaaQA10
import Derived.Test.YtlbaacellnlpfaaQA11
import Derived.Test.YtlbaacellnlpfaaQA12
import Derived.Test.YtlbaacellnlpfaaQA13
import Derived.Test.YtlbaacellnlpfaaQA14
namespace Go.Proofs.Ytlbaacellnlpfaa.QA
open Go.RowKit Go.Proofs.YtlbaacellnlpfaaW.PrintWords Go.Proofs.YtlbaacellnlpfaaW.PrintLast Go.Proofs.YtlbaacellnlpfaaW.PrintMore
attribute [local go_sem] max2_int min2_int max_two min_two max_three min_three max_four min_four   -- for this text's walks alone
set_option linter.unusedVariables false
set_option linter.unusedSimpArgs false

end Go.Proofs.Ytlbaacellnlpfaa.QA
