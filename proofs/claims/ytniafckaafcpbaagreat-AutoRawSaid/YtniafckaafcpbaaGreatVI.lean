import Derived.Test.YtniafckaafcpbaaGreatVH
import Derived.Test.YtniafckaafcpbaaGreatY
namespace Go.Proofs.YtniafckaafcpbaaGreat
open Go.Pk
set_option maxRecDepth 100000
set_option linter.unusedSimpArgs false
set_option linter.unusedVariables false
def stepP (s:St) (a:Act):St:=(applyP (advanceP s (s.time+a.time % 16) 60) (reqA (advanceP s (s.time+a.time % 16) 60) a)).1
def madeP:List Act→St→St
 |[],s=>s
 |a::r,s=>madeP r (stepP s a)
structure Mk (s:St) (i:Nat):Prop where
 rt:RightS s
 num:s.num≤i
 tok:s.token≤8*i
abbrev madeS (acts:List Act):St:=madeP (acts.take 60) st0
end Go.Proofs.YtniafckaafcpbaaGreat
