import Derived.Test.YtiegkabcgokhkaaGreatRows
import Derived.Test.YtiegkabcgokhkaaGreatSG
import Derived.Test.YtiegkabcgokhkaaGreatTY
namespace Go.Proofs.YtiegkabcgokhkaaGreat
open Go.Pk Go.ChangeShapes Go.WideShapes Go.RowKit
set_option maxRecDepth 100000
set_option linter.unusedSimpArgs false
theorem zeT:shAll Tryz.prog 40 Tryz.f7.params.toList=some [.slice 1 (.int .u8), .slice 1 (.int .u8)]:=by kernel_rfl
theorem zea:∀t∈Tryz.f7.params.toList,Tryz.prog.readableRec t=true∧t<Tryz.prog.types.size:=by
 have h:(Tryz.f7.params.toList.all fun t=>Tryz.prog.readableRec t&&decide (t<Tryz.prog.types.size))=true:=by kernel_rfl
 intro t ht
 have:=List.all_eq_true.1 h t ht
 simpa using this
theorem zeU:∀dss,ShAll [.slice 1 (.int .u8), .slice 1 (.int .u8)] dss→CallOK Tryz.prog 7 (argsOf [.slice 1 (.int .u8), .slice 1 (.int .u8)] dss) (fun r o=>r=[.one (.d (.v (.bool true)))]∧o=[]):=by
 intro dss h
 obtain⟨d0,dss,rfl,h0,h⟩:=ze0 h
 obtain⟨d1,dss,rfl,h1,h⟩:=ze0 h
 obtain rfl:=zja h
 obtain⟨x0,rfl,k0,m0⟩:=znm _ h0
 obtain⟨x1,rfl,k1,m1⟩:=znm _ h1
 have:=zeW x0 x1 k0 m0 k1 m1
 exact CallOK.le this (by simp[argsOf,argOf,argsLe,aLe,csLe,cLe])
theorem zet:ownKnob Tryz.prog.godebug=none:=by kernel_rfl
theorem zeb:laidOutB Tryz.prog=true:=by kernel_rfl
theorem zeV {H:Type}:∀(ds:List (DataW H)),ds.length=Tryz.f7.params.size→(Rows.clientLosesSpec.fn H ds).results=[.lit (.bool true)]∧(Rows.clientLosesSpec.fn H ds).args=ds∧(Rows.clientLosesSpec.fn H ds).vars=[]
 |[d0,d1],_=>⟨rfl,rfl,rfl⟩
 |[],h=>absurd h (by have e:Tryz.f7.params.size=2:=rfl;rw[e];simp)
 |[d0],h=>absurd h (by have e:Tryz.f7.params.size=2:=rfl;rw[e];simp)
 |_::_::_::_,h=>absurd h (by have e:Tryz.f7.params.size=2:=rfl;rw[e];simp)
theorem zdf (os:Os) (started:os.Started) (H:Type) (enc:TypeId×Value→H):
  ReturnsInHanded {} Tryz.checked os 7 .any (Rows.clientLosesSpec.pre6 enc Tryz.prog Tryz.f7 Rows.clientLosesRow.domain false) (Rows.clientLosesSpec.post enc Tryz.prog Tryz.f7 false true false false):=by
 refine returnsInHanded_of_change_sized (C:=Tryz.checked) zet started (by kernel_rfl) Tryz.func7
  (ChangeSpec.witness6 (enc:=enc) (C:=Tryz.checked) false ⟨#[], #[.slice none 0 0, .slice none 0 0],[]⟩ 8 (by kernel_rfl) (by kernel_rfl) (by kernel_rfl) (by kernel_rfl)) ?_
 intro W base args ds gs before hval hW _ hsz _
 exact zhj (P:=Tryz.prog) (f:=7) (fn:=Tryz.f7) (s:=Rows.clientLosesSpec) (n:=40) zeT rfl zeV (tb:=4) (by kernel_rfl) Tryz.underlying4 zeb zea zeU W base args ds gs before hval hW hsz
theorem clientLoses_holds:Rows.ClientLosesSaid:=
 OpenClaim.holds_of_wide 7 Tryz.f7 rfl rfl rfl rfl rfl rfl rfl ⟨rfl,rfl,rfl,rfl,rfl⟩ rfl rfl rfl rfl rfl (by kernel_rfl) Tryz.func7 (by kernel_rfl)
  (of_decide_eq_true (by kernel_rfl)) (by unfold Func.isWrapper;first|(rw[if_pos (by decide+kernel)];kernel_rfl)|(rw[if_neg (by decide+kernel)];exact⟨rfl,rfl⟩))
  (fun os started H enc _=>zdf os started H enc)
end Go.Proofs.YtiegkabcgokhkaaGreat
#print axioms Go.Proofs.YtiegkabcgokhkaaGreat.clientLoses_holds
