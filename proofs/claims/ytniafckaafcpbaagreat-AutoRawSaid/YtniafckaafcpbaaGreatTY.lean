import Derived.Test.YtniafckaafcpbaaGreatX
import Derived.Test.YtniafckaafcpbaaGreatK8
import Derived.JoinedOf
import Derived.Handed
import Derived.ProofKit
namespace Go.Proofs.YtniafckaafcpbaaGreat
open Go.Pk
set_option linter.unusedSimpArgs false
set_option linter.unusedVariables false
theorem zhR {n:Int} (h:(Lit.int .i64 n).wf=true):i64 n:=by
 have h2:(decide (IntKind.i64.min≤n)&&decide (n≤IntKind.i64.max))=true:=h
 have e1:IntKind.i64.min= -9223372036854775808:=by decide
 have e2:IntKind.i64.max=9223372036854775807:=by decide
 rw[e1,e2]at h2
 simp only[Bool.and_eq_true,decide_eq_true_eq]at h2
 unfold i64
 omega
theorem zlB {α:Type} {enc:α→List D} {ok:α→Prop} {s:Sh} (h:∀ds,ShD s ds→∃x,ds=enc x∧ok x):∀xs:List (List D),(∀x∈xs,ShD s x)→∃l:List α,l.length=xs.length∧xs.flatten=l.flatMap enc∧∀x∈l,ok x
 |[],_=>⟨[],rfl,rfl,fun x hx=>by cases hx⟩
 |x::xs,hx=>by
  obtain⟨a,ha1,ha2⟩:=h x (hx x (by simp))
  obtain⟨l,h1,h2,h3⟩:=zlB h xs fun y hy=>hx y (by simp[hy])
  refine⟨a::l,by simp[h1], ?_,fun y hy=> ?_⟩
  ·rw[List.flatten_cons,List.flatMap_cons,h2,ha1]
  ·rcases List.mem_cons.1 hy with rfl|hy
   ·exact ha2
   ·exact h3 y hy
theorem zn7:reachBytes<2^60:=by decide
theorem zcb (ds:List D) (h:ShD (.int .i64) ds):∃x:Int,ds=[iD x]∧i64 x:=by
 simp only[ShD]at h
 obtain⟨n,rfl,hn⟩:=h
 exact⟨n,rfl,zhR hn⟩
abbrev shAct:Sh:= .struct [.int .u8, .int .u8, .int .u8, .int .u8, .int .u8, .int .u8]
abbrev bytesE (l:List Int):List D:=l.flatMap fun n=>[uD n]
end Go.Proofs.YtniafckaafcpbaaGreat
