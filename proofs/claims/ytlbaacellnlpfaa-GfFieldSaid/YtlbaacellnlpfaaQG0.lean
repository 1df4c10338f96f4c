-- Written by a program of this session's (ownprint.py, over the kit's print.py); Lean checks it.
import Derived.Test.YtlbaacellnlpfaaProg
import Derived.Below
import Derived.Deep.Draws
import Derived.Deep.AppendLies
import Derived.Maps.AppendAt
import Derived.OwnWalk
import Derived.Laws.BytesArg
import Derived.Laws.MakeOwn
import Derived.Laws.OwnMore
import Derived.Deep.OwnRows
import Derived.Tactics
import Derived.Lib.ConvBytes
import Derived.Laws.Slices
import Derived.WalkKit
import Derived.KernelRfl
import Derived.RowKit3
import Derived.Deep.LoopGhost
import Derived.Deep.QuietTactic
import Derived.BigQuiet
import Derived.WideLaws
import Derived.Deep.DeepCutAuto
import Derived.Deep.CutBlock
import Derived.Deep.RegionHeld3
import Derived.Laws.Rows
import Derived.Lib.AppendStr
import Derived.ArgAppend
import Derived.Laws.IdiomCopy
import Derived.OrdersHeld
import Derived.Laws.BitsLemmas
import Derived.RowKit
import Derived.Test.YtlbaacellnlpfaaGf
import Derived.Test.YtlbaacellnlpfaaWWords
import Derived.Test.YtlbaacellnlpfaaWLast
import Derived.Test.YtlbaacellnlpfaaWTab
import Derived.Test.YtlbaacellnlpfaaWFour
import Derived.Test.YtlbaacellnlpfaaWQPut
import Derived.Test.YtlbaacellnlpfaaWApart
import Derived.Test.YtlbaacellnlpfaaWArr
import Derived.Test.YtlbaacellnlpfaaWZeros
import Derived.Test.YtlbaacellnlpfaaWFoot
import Derived.Test.YtlbaacellnlpfaaWKept
import Derived.Test.YtlbaacellnlpfaaWShare
import Derived.Test.YtlbaacellnlpfaaWN
import Derived.Test.YtlbaacellnlpfaaWFootNe
import Derived.Test.YtlbaacellnlpfaaWAt
import Derived.Test.YtlbaacellnlpfaaWEqStruct
import Derived.Test.YtlbaacellnlpfaaWRepsOne
import Derived.Test.YtlbaacellnlpfaaWInv
import Derived.Test.YtlbaacellnlpfaaWInvWords
import Derived.Test.YtlbaacellnlpfaaWGuard
import Derived.Test.YtlbaacellnlpfaaWNEv
import Derived.Test.YtlbaacellnlpfaaWMore
namespace Go.Proofs.Ytlbaacellnlpfaa.QG
open Go.RowKit Go.Proofs.YtlbaacellnlpfaaW.PrintWords Go.Proofs.YtlbaacellnlpfaaW.PrintLast Go.Proofs.YtlbaacellnlpfaaW.PrintMore
attribute [local go_sem] max2_int min2_int max_two min_two max_three min_three max_four min_four   -- for this text's walks alone
set_option linter.unusedVariables false
set_option linter.unusedSimpArgs false



def errW : Option Int → Value
  | none => .nilIface
  | some c => .iface 0 (.int .i64 c)
theorem errW_none : errW none = .nilIface := rfl
theorem errW_some (c : Int) : errW (some c) = .iface 0 (.int .i64 c) := rfl

-- the values' own types

end Go.Proofs.Ytlbaacellnlpfaa.QG
