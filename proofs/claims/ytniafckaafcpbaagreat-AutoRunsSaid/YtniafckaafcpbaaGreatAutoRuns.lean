import Derived.Test.YtniafckaafcpbaaGreatRows
import Derived.Test.YtniafckaafcpbaaGreatVO
import Derived.Test.YtniafckaafcpbaaGreatTY
namespace Go.Proofs.YtniafckaafcpbaaGreat
open Go.Pk Go.ChangeShapes Go.WideShapes Go.RowKit
set_option maxRecDepth 100000
set_option linter.unusedSimpArgs false
theorem zhS:shAll Tryz.prog 40 Tryz.f3.params.toList=some [.slice 6 shAct, .int .i64]:=by kernel_rfl
theorem zfV:∀t∈Tryz.f3.params.toList,Tryz.prog.readableRec t=true∧t<Tryz.prog.types.size:=by
 have h:(Tryz.f3.params.toList.all fun t=>Tryz.prog.readableRec t&&decide (t<Tryz.prog.types.size))=true:=by kernel_rfl
 intro t ht
 have:=List.all_eq_true.1 h t ht
 simpa using this
theorem zhT:∀dss,ShAll [.slice 6 shAct, .int .i64] dss→CallOK Tryz.prog 3 (argsOf [.slice 6 shAct, .int .i64] dss) (fun r o=>r=[.one (.d (.v (.bool true)))]∧o=[]):=by
 intro dss h
 obtain⟨d0,dss,rfl,h0,h⟩:=zff h
 obtain⟨d1,dss,rfl,h1,h⟩:=zff h
 obtain rfl:=zjZ h
 obtain⟨x0,rfl,k0,m0⟩:=zm2 _ h0
 obtain⟨x1,rfl,k1⟩:=znZ _ h1
 have:=zii x0 k0 m0 x1 k1
 exact CallOK.le this (by simp[argsOf,argOf,argsLe,aLe,csLe,cLe])
theorem zgD:ownKnob Tryz.prog.godebug=none:=by kernel_rfl
theorem zfW:laidOutB Tryz.prog=true:=by kernel_rfl
theorem zhU {H:Type}:∀(ds:List (DataW H)),ds.length=Tryz.f3.params.size→(Rows.autoRunsSpec.fn H ds).results=[.lit (.bool true)]∧(Rows.autoRunsSpec.fn H ds).args=ds∧(Rows.autoRunsSpec.fn H ds).vars=[]
 |[d0,d1],_=>⟨rfl,rfl,rfl⟩
 |[],h=>absurd h (by have e:Tryz.f3.params.size=2:=rfl;rw[e];simp)
 |[d0],h=>absurd h (by have e:Tryz.f3.params.size=2:=rfl;rw[e];simp)
 |_::_::_::_,h=>absurd h (by have e:Tryz.f3.params.size=2:=rfl;rw[e];simp)
theorem zew (os:Os) (started:os.Started) (H:Type) (enc:TypeId×Value→H):
  ReturnsInHanded {} Tryz.checked os 3 .any (Rows.autoRunsSpec.pre6 enc Tryz.prog Tryz.f3 Rows.autoRunsRow.domain false) (Rows.autoRunsSpec.post enc Tryz.prog Tryz.f3 false true false false):=by
 refine returnsInHanded_of_change_sized (C:=Tryz.checked) zgD started (by kernel_rfl) Tryz.func3
  (ChangeSpec.witness6 (enc:=enc) (C:=Tryz.checked) false ⟨#[], #[.slice none 0 0, .int .i64 0],[]⟩ 8 (by kernel_rfl) (by kernel_rfl) (by kernel_rfl) (by kernel_rfl)) ?_
 intro W base args ds gs before hval hW _ hsz _
 exact zh0 (P:=Tryz.prog) (f:=3) (fn:=Tryz.f3) (s:=Rows.autoRunsSpec) (n:=40) zhS rfl zhU (tb:=4) (by kernel_rfl) Tryz.underlying4 zfW zfV zhT W base args ds gs before hval hW hsz
theorem autoRuns_holds:Rows.AutoRunsSaid:=
 OpenClaim.holds_of_wide 3 Tryz.f3 rfl rfl rfl rfl rfl rfl rfl ⟨rfl,rfl,rfl,rfl,rfl⟩ rfl rfl rfl rfl rfl (by kernel_rfl) Tryz.func3 (by kernel_rfl)
  (of_decide_eq_true (by kernel_rfl)) (by unfold Func.isWrapper;first|(rw[if_pos (by decide+kernel)];kernel_rfl)|(rw[if_neg (by decide+kernel)];exact⟨rfl,rfl⟩))
  (fun os started H enc _=>zew os started H enc)
end Go.Proofs.YtniafckaafcpbaaGreat
#print axioms Go.Proofs.YtniafckaafcpbaaGreat.autoRuns_holds
