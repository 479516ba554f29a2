/- PlanOrder: what is so of promises that numbers make, in plain words: no program in sight. -/
import Derived.Test.YtgiempmfpmlgnaaGreatY
namespace Go.Proofs.YtgiempmfpmlgnaaGreat
open Go.Pk
set_option linter.unusedSimpArgs false
set_option linter.unusedVariables false
end Go.Proofs.YtgiempmfpmlgnaaGreat

