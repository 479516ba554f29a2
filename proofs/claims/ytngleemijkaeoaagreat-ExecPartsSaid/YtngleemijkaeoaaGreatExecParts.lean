/- The given statement ExecPartsSaid is proved of the program. No condition. -/
import Derived.Test.YtngleemijkaeoaaGreatRows
import Derived.Test.YtngleemijkaeoaaGreatEO
namespace Go.Proofs.YtngleemijkaeoaaGreat
open Go.Pk Go.ChangeShapes Go.WideShapes Go.RowKit
set_option maxRecDepth 100000
set_option linter.unusedSimpArgs false
theorem zlU:zkZ Tryz.prog 40 Tryz.f6.params.toList=some [.slice 32 zg7, .int .u8]:=by kernel_rfl
theorem zij:∀t∈Tryz.f6.params.toList,Tryz.prog.readableRec t=true∧t<Tryz.prog.types.size:=by
 have h:(Tryz.f6.params.toList.all fun t=>Tryz.prog.readableRec t&&decide (t<Tryz.prog.types.size))=true:=by kernel_rfl
 intro t ht
 have:=List.all_eq_true.1 h t ht
 simpa using this
theorem zlV:∀dss,zjz [.slice 32 zg7, .int .u8] dss→CallOK Tryz.prog 6 (zda [.slice 32 zg7, .int .u8] dss) (fun r o=>r=[.one (.d (.v (.bool true)))]∧o=[]):=by
 intro dss h
 obtain⟨d0,dss,rfl,h0,h⟩:=zbX h
 obtain⟨d1,dss,rfl,h1,h⟩:=zbX h
 obtain rfl:=zhm h
 obtain⟨x0,rfl,k0,m0⟩:=zoK _ h0
 obtain⟨x1,rfl,k1⟩:=byte_of _ h1
 have:=zlX x0 k0 m0 x1 k1
 exact CallOK.le this (by simp[zda,zn9,zbZ,aLe,zjt,cLe])
theorem zj6:ownKnob Tryz.prog.godebug=none:=by kernel_rfl
theorem zik:laidOutB Tryz.prog=true:=by kernel_rfl
theorem zlW {H:Type}:∀(ds:List (DataW H)),ds.length=Tryz.f6.params.size→(Rows.execPartsSpec.fn H ds).results=[.lit (.bool true)]∧(Rows.execPartsSpec.fn H ds).args=ds∧(Rows.execPartsSpec.fn H ds).vars=[]
 |[d0,d1],_=>⟨rfl,rfl,rfl⟩
 |[],h=>absurd h (by have e:Tryz.f6.params.size=2:=rfl;rw[e];simp)
 |[d0],h=>absurd h (by have e:Tryz.f6.params.size=2:=rfl;rw[e];simp)
 |_::_::_::_,h=>absurd h (by have e:Tryz.f6.params.size=2:=rfl;rw[e];simp)
theorem zgL (os:Os) (started:os.Started) (H:Type) (enc:TypeId×Value→H):
  ReturnsInHanded {} Tryz.checked os 6 .any (Rows.execPartsSpec.pre6 enc Tryz.prog Tryz.f6 Rows.execPartsRow.domain false) (Rows.execPartsSpec.post enc Tryz.prog Tryz.f6 false true false false):=by
 refine returnsInHanded_of_change_sized (C:=Tryz.checked) zj6 started (by kernel_rfl) Tryz.func6
  (ChangeSpec.witness6 (enc:=enc) (C:=Tryz.checked) false ⟨#[], #[.slice none 0 0, .int .u8 0],[]⟩ 8 (by kernel_rfl) (by kernel_rfl) (by kernel_rfl) (by kernel_rfl)) ?_
 intro W base args ds gs before hval hW _ hsz _
 exact zfj (P:=Tryz.prog) (f:=6) (fn:=Tryz.f6) (s:=Rows.execPartsSpec) (n:=40) zlU rfl zlW (tb:=4) (by kernel_rfl) Tryz.underlying4 zik zij zlV W base args ds gs before hval hW hsz
theorem execParts_holds:Rows.ExecPartsSaid:=
 OpenClaim.holds_of_wide 6 Tryz.f6 rfl rfl rfl rfl rfl rfl rfl ⟨rfl,rfl,rfl,rfl,rfl⟩ rfl rfl rfl rfl rfl (by kernel_rfl) Tryz.func6 (by kernel_rfl)
  (of_decide_eq_true (by kernel_rfl)) (by unfold Func.isWrapper;first|(rw[if_pos (by decide+kernel)];kernel_rfl)|(rw[if_neg (by decide+kernel)];exact⟨rfl,rfl⟩))
  (fun os started H enc _=>zgL os started H enc)
end Go.Proofs.YtngleemijkaeoaaGreat
#print axioms Go.Proofs.YtngleemijkaeoaaGreat.execParts_holds
