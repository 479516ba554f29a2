import Derived.Test.YtniafckaafcpbaaGreatRows
import Derived.Test.YtniafckaafcpbaaGreatVK
import Derived.Test.YtniafckaafcpbaaGreatTY
namespace Go.Proofs.YtniafckaafcpbaaGreat
open Go.Pk Go.ChangeShapes Go.WideShapes Go.RowKit
set_option maxRecDepth 100000
set_option linter.unusedSimpArgs false
theorem zgI:shAll Tryz.prog 40 Tryz.f5.params.toList=some [.slice 6 shAct,shAct]:=by kernel_rfl
theorem zfi:∀t∈Tryz.f5.params.toList,Tryz.prog.readableRec t=true∧t<Tryz.prog.types.size:=by
 have h:(Tryz.f5.params.toList.all fun t=>Tryz.prog.readableRec t&&decide (t<Tryz.prog.types.size))=true:=by kernel_rfl
 intro t ht
 have:=List.all_eq_true.1 h t ht
 simpa using this
theorem zgJ:∀dss,ShAll [.slice 6 shAct,shAct] dss→CallOK Tryz.prog 5 (argsOf [.slice 6 shAct,shAct] dss) (fun r o=>r=[.one (.d (.v (.bool true)))]∧o=[]):=by
 intro dss h
 obtain⟨d0,dss,rfl,h0,h⟩:=zfn h
 obtain⟨d1,dss,rfl,h1,h⟩:=zfn h
 obtain rfl:=zj0 h
 obtain⟨x0,rfl,k0,m0⟩:=zm8 _ h0
 obtain⟨x1,rfl,k1⟩:=zmz _ h1
 have:=zhS x0 k0 m0 x1 k1
 exact CallOK.le this (by simp[argsOf,argOf,argsLe,aLe,csLe,cLe])
theorem zf1:ownKnob Tryz.prog.godebug=none:=by kernel_rfl
theorem zfj:laidOutB Tryz.prog=true:=by kernel_rfl
theorem zgK {H:Type}:∀(ds:List (DataW H)),ds.length=Tryz.f5.params.size→(Rows.autoTwiceSpec.fn H ds).results=[.lit (.bool true)]∧(Rows.autoTwiceSpec.fn H ds).args=ds∧(Rows.autoTwiceSpec.fn H ds).vars=[]
 |[d0,d1],_=>⟨rfl,rfl,rfl⟩
 |[],h=>absurd h (by have e:Tryz.f5.params.size=2:=rfl;rw[e];simp)
 |[d0],h=>absurd h (by have e:Tryz.f5.params.size=2:=rfl;rw[e];simp)
 |_::_::_::_,h=>absurd h (by have e:Tryz.f5.params.size=2:=rfl;rw[e];simp)
theorem zej (os:Os) (started:os.Started) (H:Type) (enc:TypeId×Value→H):
  ReturnsInHanded {} Tryz.checked os 5 .any (Rows.autoTwiceSpec.pre6 enc Tryz.prog Tryz.f5 Rows.autoTwiceRow.domain false) (Rows.autoTwiceSpec.post enc Tryz.prog Tryz.f5 false true false false):=by
 refine returnsInHanded_of_change_sized (C:=Tryz.checked) zf1 started (by kernel_rfl) Tryz.func5
  (ChangeSpec.witness6 (enc:=enc) (C:=Tryz.checked) false ⟨#[], #[.slice none 0 0, .agg #[.int .u8 0, .int .u8 0, .int .u8 0, .int .u8 0, .int .u8 0, .int .u8 0]],[]⟩ 8 (by kernel_rfl) (by kernel_rfl) (by kernel_rfl) (by kernel_rfl)) ?_
 intro W base args ds gs before hval hW _ hsz _
 exact zh3 (P:=Tryz.prog) (f:=5) (fn:=Tryz.f5) (s:=Rows.autoTwiceSpec) (n:=40) zgI rfl zgK (tb:=4) (by kernel_rfl) Tryz.underlying4 zfj zfi zgJ W base args ds gs before hval hW hsz
theorem autoTwice_holds:Rows.AutoTwiceSaid:=
 OpenClaim.holds_of_wide 5 Tryz.f5 rfl rfl rfl rfl rfl rfl rfl ⟨rfl,rfl,rfl,rfl,rfl⟩ rfl rfl rfl rfl rfl (by kernel_rfl) Tryz.func5 (by kernel_rfl)
  (of_decide_eq_true (by kernel_rfl)) (by unfold Func.isWrapper;first|(rw[if_pos (by decide+kernel)];kernel_rfl)|(rw[if_neg (by decide+kernel)];exact⟨rfl,rfl⟩))
  (fun os started H enc _=>zej os started H enc)
end Go.Proofs.YtniafckaafcpbaaGreat
#print axioms Go.Proofs.YtniafckaafcpbaaGreat.autoTwice_holds
