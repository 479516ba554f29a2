import Derived.Test.YtniafckaafcpbaaGreatVH
import Derived.Test.YtniafckaafcpbaaGreatY
namespace Go.Proofs.YtniafckaafcpbaaGreat
open Go.Pk
set_option maxRecDepth 100000
set_option linter.unusedSimpArgs false
set_option linter.unusedVariables false
theorem zjM (n:Int):(namedP n).size≤12:=by
 unfold namedP
 rcases six n with h|h|h|h|h|h<;>rw[h]<;>decide
theorem znQ {s:St} (hr:RightS s) {a:Act} (ha:actOk a):(reqA s a).ok:=by
 obtain⟨_,h1,h2,h3,h4,h5⟩:=ha
 unfold byteI at*
 have hH:High=2305843009213693952:=rfl
 have hsq:∀c,0≤((findM s.memos c).getD noMemo).seq∧((findM s.memos c).getD noMemo).seq≤High:=fun c=>by
  cases hf:findM s.memos c with
  |none=>decide
  |some m=>
   have:=(zbP (hr.mok m (List.mem_of_find?_eq_some hf))).2.1
   simp only[Option.getD_some];omega
 have hnm:∀c,0≤((findS s.sess c).getD noSess).num∧((findS s.sess c).getD noSess).num≤High:=fun c=>by
  cases hf:findS s.sess c with
  |none=>decide
  |some m=>
   have:=(zbr.1 (hr.sok m (List.mem_of_find?_eq_some hf)).1).2.1
   simp only[Option.getD_some];omega
 have hk:1≤kindP a.kind∧kindP a.kind≤6:=by unfold kindP;omega
 have hs:0≤sessP a.kind a.session∧sessP a.kind a.session≤7:=by unfold sessP;split<;>omega
 have hn:(cmdNm a.kind a.name).size≤12:=by
  unfold cmdNm
  split
  ·exact zjM _
  ·decide
 unfold reqA Req.ok i64 reqN
 simp only
 have:=hsq (a.client % 8)
 have:=hnm (a.client % 8)
 refine⟨by omega, ?_, ?_, ?_, ?_⟩
 ·split
  ·split<;>omega
  ·omega
 ·split<;>omega
 ·split
  ·omega
  ·split<;>omega
 ·split
  ·decide
  ·omega
def stepP (s:St) (a:Act):St:=(applyP (advanceP s (s.time+a.time % 16) 60) (reqA (advanceP s (s.time+a.time % 16) 60) a)).1
def madeP:List Act→St→St
 |[],s=>s
 |a::r,s=>madeP r (stepP s a)
structure Mk (s:St) (i:Nat):Prop where
 rt:RightS s
 num:s.num≤i
 tok:s.token≤8*i
abbrev madeS (acts:List Act):St:=madeP (acts.take 60) st0
end Go.Proofs.YtniafckaafcpbaaGreat
