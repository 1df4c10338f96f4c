-- Written by a program of this session's (ownprint.py, over the kit's print.py); Lean checks it.
import Derived.Test.YtlbaacellnlpfaaQG0
import Derived.Test.YtlbaacellnlpfaaQG1
import Derived.Test.YtlbaacellnlpfaaQG2
namespace Go.Proofs.Ytlbaacellnlpfaa.QG
open Go.RowKit Go.Proofs.YtlbaacellnlpfaaW.PrintWords Go.Proofs.YtlbaacellnlpfaaW.PrintLast Go.Proofs.YtlbaacellnlpfaaW.PrintMore
attribute [local go_sem] max2_int min2_int max_two min_two max_three min_three max_four min_four   -- for this text's walks alone
set_option linter.unusedVariables false
set_option linter.unusedSimpArgs false

end Go.Proofs.Ytlbaacellnlpfaa.QG
