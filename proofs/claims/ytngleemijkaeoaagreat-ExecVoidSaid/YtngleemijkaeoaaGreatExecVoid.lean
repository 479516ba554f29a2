/- The given statement ExecVoidSaid is proved of the program. No condition. -/
import Derived.Test.YtngleemijkaeoaaGreatRows
import Derived.Test.YtngleemijkaeoaaGreatETY
namespace Go.Proofs.YtngleemijkaeoaaGreat
open Go.Pk Go.ChangeShapes Go.WideShapes Go.RowKit
set_option maxRecDepth 100000
set_option linter.unusedSimpArgs false
theorem zkh:zmi Tryz.prog 40 Tryz.f5.params.toList=some [.slice 32 ziI,ziI, .int .u8]:=by kernel_rfl
theorem zhP:∀t∈Tryz.f5.params.toList,Tryz.prog.readableRec t=true∧t<Tryz.prog.types.size:=by
 have h:(Tryz.f5.params.toList.all fun t=>Tryz.prog.readableRec t&&decide (t<Tryz.prog.types.size))=true:=by kernel_rfl
 intro t ht
 have:=List.all_eq_true.1 h t ht
 simpa using this
theorem zki:∀dss,zkD [.slice 32 ziI,ziI, .int .u8] dss→CallOK Tryz.prog 5 (zdT [.slice 32 ziI,ziI, .int .u8] dss) (fun r o=>r=[.one (.d (.v (.bool true)))]∧o=[]):=by
 intro dss h
 obtain⟨d0,dss,rfl,h0,h⟩:=zfu h
 obtain⟨d1,dss,rfl,h1,h⟩:=zfu h
 obtain⟨d2,dss,rfl,h2,h⟩:=zfu h
 obtain rfl:=zni h
 obtain⟨x0,rfl,k0,m0⟩:=zqY _ h0
 obtain⟨x1,rfl,k1⟩:=row_of _ h1
 obtain⟨x2,rfl,k2⟩:=byte_of _ h2
 have:=zkW x0 k0 m0 x1 k1 x2 k2
 exact CallOK.le this (by simp[zdT,zph,zcf,aLe,zlk,cLe])
theorem ziH:ownKnob Tryz.prog.godebug=none:=by kernel_rfl
theorem zhQ:laidOutB Tryz.prog=true:=by kernel_rfl
theorem zkj {H:Type}:∀(ds:List (DataW H)),ds.length=Tryz.f5.params.size→(Rows.execVoidSpec.fn H ds).results=[.lit (.bool true)]∧(Rows.execVoidSpec.fn H ds).args=ds∧(Rows.execVoidSpec.fn H ds).vars=[]
 |[d0,d1,d2],_=>⟨rfl,rfl,rfl⟩
 |[],h=>absurd h (by have e:Tryz.f5.params.size=3:=rfl;rw[e];simp)
 |[d0],h=>absurd h (by have e:Tryz.f5.params.size=3:=rfl;rw[e];simp)
 |[d0,d1],h=>absurd h (by have e:Tryz.f5.params.size=3:=rfl;rw[e];simp)
 |_::_::_::_::_,h=>absurd h (by have e:Tryz.f5.params.size=3:=rfl;rw[e];simp)
theorem zga (os:Os) (started:os.Started) (H:Type) (enc:TypeId×Value→H):
  ReturnsInHanded {} Tryz.checked os 5 .any (Rows.execVoidSpec.pre6 enc Tryz.prog Tryz.f5 Rows.execVoidRow.domain false) (Rows.execVoidSpec.post enc Tryz.prog Tryz.f5 false true false false):=by
 refine returnsInHanded_of_change_sized (C:=Tryz.checked) ziH started (by kernel_rfl) Tryz.func5
  (ChangeSpec.witness6 (enc:=enc) (C:=Tryz.checked) false ⟨#[], #[.slice none 0 0, .agg #[.int .u8 0, .int .u8 0, .int .u8 0, .slice none 0 0], .int .u8 0],[]⟩ 8 (by kernel_rfl) (by kernel_rfl) (by kernel_rfl) (by kernel_rfl)) ?_
 intro W base args ds gs before hval hW _ hsz _
 exact zkE (P:=Tryz.prog) (f:=5) (fn:=Tryz.f5) (s:=Rows.execVoidSpec) (n:=40) zkh rfl zkj (tb:=4) (by kernel_rfl) Tryz.underlying4 zhQ zhP zki W base args ds gs before hval hW hsz
theorem execVoid_holds:Rows.ExecVoidSaid:=
 OpenClaim.holds_of_wide 5 Tryz.f5 rfl rfl rfl rfl rfl rfl rfl ⟨rfl,rfl,rfl,rfl,rfl⟩ rfl rfl rfl rfl rfl (by kernel_rfl) Tryz.func5 (by kernel_rfl)
  (of_decide_eq_true (by kernel_rfl)) (by unfold Func.isWrapper;first|(rw[if_pos (by decide+kernel)];kernel_rfl)|(rw[if_neg (by decide+kernel)];exact⟨rfl,rfl⟩))
  (fun os started H enc _=>zga os started H enc)
end Go.Proofs.YtngleemijkaeoaaGreat
#print axioms Go.Proofs.YtngleemijkaeoaaGreat.execVoid_holds
