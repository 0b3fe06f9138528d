import Derived.Test.YtaeklgiikmjgfaaEnv
import Derived.Test.YtaeklgiikmjgfaaSpc
set_option linter.all false
namespace Go.Sa
open Go Go.Eng Go.Proofs
set_option maxRecDepth 100000
end Go.Sa
