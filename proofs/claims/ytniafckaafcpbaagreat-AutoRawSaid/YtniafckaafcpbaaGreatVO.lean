import Derived.Test.YtniafckaafcpbaaGreatVK
namespace Go.Proofs.YtniafckaafcpbaaGreat
open Go.Pk
set_option maxRecDepth 100000
set_option linter.unusedSimpArgs false
set_option linter.unusedVariables false
end Go.Proofs.YtniafckaafcpbaaGreat
