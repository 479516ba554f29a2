import Derived.Test.YtniafckaafcpbaaGreatVJ
namespace Go.Proofs.YtniafckaafcpbaaGreat
open Go.Pk
set_option maxRecDepth 100000
set_option linter.unusedSimpArgs false
set_option linter.unusedVariables false
theorem zjg {s:St} (hr:RightS s) (h:Small s) {q:Req} (hN:s.num+1≤High) (hT:s.token+4≤High):(applyP s q).2.1.held.length<2^30:=by
 unfold applyP
 split
 ·simp
 ·rename_i hm
  split
  ·simp
  ·split
   ·cases hf:findM s.memos q.client with
    |none=>simp
    |some m=>exact(h.held m (List.mem_of_find?_eq_some hf)).1
   ·exact(zcV hr (by simpa using hm) hN hT).1
end Go.Proofs.YtniafckaafcpbaaGreat
