import Derived.Test.YtpamdlnobekihaaFp
import Derived.Test.YtpamdlnobekihaaTy
import Derived.Test.YtpamdlnobekihaaMi
set_option linter.unusedVariables false
set_option linter.unusedSimpArgs false
namespace Go.Proofs.YtpamdlnobekihaaF
open Go Go.Shelf Go.Proofs.YtpamdlnobekihaaS Ram

end Go.Proofs.YtpamdlnobekihaaF
