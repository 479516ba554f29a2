import Derived.Test.YtniafckaafcpbaaGreatX
import Derived.Test.YtniafckaafcpbaaGreatK8
import Derived.JoinedOf
import Derived.Handed
import Derived.ProofKit
namespace Go.Proofs.YtniafckaafcpbaaGreat
open Go.Pk
set_option linter.unusedSimpArgs false
set_option linter.unusedVariables false
theorem znY {n:Int} (h:(Lit.int .i64 n).wf=true):i64 n:=by
 have h2:(decide (IntKind.i64.min≤n)&&decide (n≤IntKind.i64.max))=true:=h
 have e1:IntKind.i64.min= -9223372036854775808:=by decide
 have e2:IntKind.i64.max=9223372036854775807:=by decide
 rw[e1,e2]at h2
 simp only[Bool.and_eq_true,decide_eq_true_eq]at h2
 unfold i64
 omega
theorem zox {n:Int} (h:(Lit.int .u8 n).wf=true):byteI n:=by
 have h2:(decide (IntKind.u8.min≤n)&&decide (n≤IntKind.u8.max))=true:=h
 have e1:IntKind.u8.min=0:=by decide
 have e2:IntKind.u8.max=255:=by decide
 rw[e1,e2]at h2
 simp only[Bool.and_eq_true,decide_eq_true_eq]at h2
 unfold byteI
 omega
theorem zjV {α:Type} {enc:α→List D} {ok:α→Prop} {s:Sh} (h:∀ds,ShD s ds→∃x,ds=enc x∧ok x):∀xs:List (List D),(∀x∈xs,ShD s x)→∃l:List α,l.length=xs.length∧xs.flatten=l.flatMap enc∧∀x∈l,ok x
 |[],_=>⟨[],rfl,rfl,fun x hx=>by cases hx⟩
 |x::xs,hx=>by
  obtain⟨a,ha1,ha2⟩:=h x (hx x (by simp))
  obtain⟨l,h1,h2,h3⟩:=zjV h xs fun y hy=>hx y (by simp[hy])
  refine⟨a::l,by simp[h1], ?_,fun y hy=> ?_⟩
  ·rw[List.flatten_cons,List.flatMap_cons,h2,ha1]
  ·rcases List.mem_cons.1 hy with rfl|hy
   ·exact ha2
   ·exact h3 y hy
theorem zm1:reachBytes<2^60:=by decide
theorem byte_of (ds:List D) (h:ShD (.int .u8) ds):∃x:Int,ds=[uD x]∧byteI x:=by
 simp only[ShD]at h
 obtain⟨n,rfl,hn⟩:=h
 exact⟨n,rfl,zox hn⟩
theorem znZ (ds:List D) (h:ShD (.int .i64) ds):∃x:Int,ds=[iD x]∧i64 x:=by
 simp only[ShD]at h
 obtain⟨n,rfl,hn⟩:=h
 exact⟨n,rfl,znY hn⟩
abbrev shAct:Sh:= .struct [.int .u8, .int .u8, .int .u8, .int .u8, .int .u8, .int .u8]
theorem zn0 (ds:List D) (h:ShD shAct ds):∃a:Act,ds=a.enc∧actOk a:=by
 rw[ShD]at h
 simp only[ShDs]at h
 obtain⟨_,_,rfl,h1,_,_,rfl,h2,_,_,rfl,h3,_,_,rfl,h4,_,_,rfl,h5,_,_,rfl,h6,rfl⟩:=h
 obtain⟨a,rfl,ha⟩:=byte_of _ h1
 obtain⟨b,rfl,hb⟩:=byte_of _ h2
 obtain⟨c,rfl,hc⟩:=byte_of _ h3
 obtain⟨d,rfl,hd⟩:=byte_of _ h4
 obtain⟨e,rfl,he⟩:=byte_of _ h5
 obtain⟨f,rfl,hf⟩:=byte_of _ h6
 exact⟨⟨a,b,c,d,e,f⟩,rfl,ha,hb,hc,hd,he,hf⟩
theorem zm2 (ds:List D) (h:ShD (.slice 6 shAct) ds):∃l:List Act,ds=[.sl l.length (actsE l)]∧l.length<2^60∧∀x∈l,actOk x:=by
 rw[ShD]at h
 obtain⟨xs,rfl,hx1,hx2⟩:=h
 obtain⟨l,l1,l2,l3⟩:=zjV zn0 xs hx2
 have:=zm1
 exact⟨l,by rw[←l1,l2],by omega,l3⟩
abbrev bytesE (l:List Int):List D:=l.flatMap fun n=>[uD n]
end Go.Proofs.YtniafckaafcpbaaGreat
