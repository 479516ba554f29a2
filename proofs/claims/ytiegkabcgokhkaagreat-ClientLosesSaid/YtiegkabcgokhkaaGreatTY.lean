import Derived.Test.YtiegkabcgokhkaaGreatOE
import Derived.Test.YtiegkabcgokhkaaGreatK8
import Derived.JoinedOf
import Derived.Handed
import Derived.ProofKit
namespace Go.Proofs.YtiegkabcgokhkaaGreat
open Go.Pk
set_option linter.unusedSimpArgs false
set_option linter.unusedVariables false
theorem znT {n:Int} (h:(Lit.int .u8 n).wf=true):byteI n:=by
 have h2:(decide (IntKind.u8.min≤n)&&decide (n≤IntKind.u8.max))=true:=h
 have e1:IntKind.u8.min=0:=by decide
 have e2:IntKind.u8.max=255:=by decide
 rw[e1,e2]at h2
 simp only[Bool.and_eq_true,decide_eq_true_eq]at h2
 unfold byteI
 omega
theorem zi3 {α:Type} {enc:α→List D} {ok:α→Prop} {s:Sh} (h:∀ds,ShD s ds→∃x,ds=enc x∧ok x):∀xs:List (List D),(∀x∈xs,ShD s x)→∃l:List α,l.length=xs.length∧xs.flatten=l.flatMap enc∧∀x∈l,ok x
 |[],_=>⟨[],rfl,rfl,fun x hx=>by cases hx⟩
 |x::xs,hx=>by
  obtain⟨a,ha1,ha2⟩:=h x (hx x (by simp))
  obtain⟨l,h1,h2,h3⟩:=zi3 h xs fun y hy=>hx y (by simp[hy])
  refine⟨a::l,by simp[h1], ?_,fun y hy=> ?_⟩
  ·rw[List.flatten_cons,List.flatMap_cons,h2,ha1]
  ·rcases List.mem_cons.1 hy with rfl|hy
   ·exact ha2
   ·exact h3 y hy
theorem zmi:reachBytes<2^60:=by decide
theorem byte_of (ds:List D) (h:ShD (.int .u8) ds):∃x:Int,ds=[uD x]∧byteI x:=by
 simp only[ShD]at h
 obtain⟨n,rfl,hn⟩:=h
 exact⟨n,rfl,znT hn⟩
theorem zhd (l:List Int):(l.flatMap fun n=>[uD n])=bytesE l:=by
 induction l with
 |nil=>rfl
 |cons a l ih=>simp[List.flatMap_cons,ih]
theorem znm (ds:List D) (h:ShD (.slice 1 (.int .u8)) ds):∃l:List Int,ds=[.sl l.length (bytesE l)]∧l.length<2^60∧∀x∈l,byteI x:=by
 rw[ShD]at h
 obtain⟨xs,rfl,hx1,hx2⟩:=h
 obtain⟨l,l1,l2,l3⟩:=zi3 byte_of xs hx2
 have:=zmi
 rw[zhd]at l2
 exact⟨l,by rw[←l1,l2],by omega,l3⟩
end Go.Proofs.YtiegkabcgokhkaaGreat
