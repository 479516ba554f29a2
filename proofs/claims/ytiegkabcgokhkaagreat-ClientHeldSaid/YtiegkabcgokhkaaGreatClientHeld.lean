/- The given statement ClientHeldSaid is proved of the program. No condition. -/
import Derived.Test.YtiegkabcgokhkaaGreatRows
import Derived.Test.YtiegkabcgokhkaaGreatSM
namespace Go.Proofs.YtiegkabcgokhkaaGreat
open Go.Pk Go.ChangeShapes Go.WideShapes Go.RowKit
set_option maxRecDepth 100000
set_option linter.unusedSimpArgs false
theorem ID:ny Tryz.prog 40 Tryz.f4.params.toList=some [.slice 80 mc, .int .u8, .int .u8]:=by kernel_rfl
theorem Is:∀t∈Tryz.f4.params.toList,Tryz.prog.readableRec t=true/\t<Tryz.prog.types.size:=by
 have h:(Tryz.f4.params.toList.all λ t=>Tryz.prog.readableRec t&&decide (t<Tryz.prog.types.size))=true:=by kernel_rfl
 intro t ht;have:=iu.1 h t ht;simpa using this
theorem IB:∀dss,mq [.slice 80 mc, .int .u8, .int .u8] dss->ae Tryz.prog 4 (je [.slice 80 mc, .int .u8, .int .u8] dss) (λ r o=>r=[.one (.d (.v (.bool true)))]/\o=[]):=by intro dss h;obtain⟨d0,dss,rfl,h0,h⟩:=rD h;obtain⟨d1,dss,rfl,h1,h⟩:=rD h;obtain⟨d2,dss,rfl,h2,h⟩:=rD h;obtain rfl:=yY h;obtain⟨x0,rfl,k0,m0⟩:=Ay _ h0;obtain⟨x1,rfl,k1⟩:=na _ h1;obtain⟨x2,rfl,k2⟩:=na _ h2;have:=Ix x0 x1 x2 k0 m0 k1 k2;exact ae.le this (by simp[je,qC,cV,dq,dw,dG])
theorem Iw:ownKnob Tryz.prog.godebug=none:=by kernel_rfl
theorem Ir:laidOutB Tryz.prog=true:=by kernel_rfl
theorem Iz {H:Type}:∀(ds:List (DataW H)),ds.length=Tryz.f4.params.size->(Rows.clientHeldSpec.fn H ds).results=[.lit (.bool true)]/\(Rows.clientHeldSpec.fn H ds).args=ds/\(Rows.clientHeldSpec.fn H ds).vars=[]
 |[d0,d1,d2],_=>⟨rfl,rfl,rfl⟩
 |[],h=>absurd h (by have e:Tryz.f4.params.size=3:=rfl;rw[e];simp)
 |[d0],h=>absurd h (by have e:Tryz.f4.params.size=3:=rfl;rw[e];simp)
 |[d0,d1],h=>absurd h (by have e:Tryz.f4.params.size=3:=rfl;rw[e];simp)
 |_::_::_::_::_,h=>absurd h (by have e:Tryz.f4.params.size=3:=rfl;rw[e];simp)
theorem Im (os:Os) (started:os.Started) (H:Type) (enc:TypeId×Value->H):
  ReturnsInHanded {} Tryz.checked os 4 .any (Rows.clientHeldSpec.pre6 enc Tryz.prog Tryz.f4 Rows.clientHeldRow.domain false) (Rows.clientHeldSpec.post enc Tryz.prog Tryz.f4 false true false false):=by
 refine returnsInHanded_of_change_sized (C:=Tryz.checked) Iw started (by kernel_rfl) Tryz.func4
  (ChangeSpec.witness6 (enc:=enc) (C:=Tryz.checked) false ⟨#[], #[.slice none 0 0, .int .u8 0, .int .u8 0],[]⟩ 8 (by kernel_rfl) (by kernel_rfl) (by kernel_rfl) (by kernel_rfl)) ?_
 intro W base args ds gs before hval hW _ hsz _;exact xv (P:=Tryz.prog) (f:=4) (fn:=Tryz.f4) (s:=Rows.clientHeldSpec) (n:=40) ID rfl Iz (tb:=4) (by kernel_rfl) Tryz.underlying4 Ir Is IB W base args ds gs before hval hW hsz
theorem clientHeld_holds:Rows.ClientHeldSaid:=
 OpenClaim.holds_of_wide 4 Tryz.f4 rfl rfl rfl rfl rfl rfl rfl ⟨rfl,rfl,rfl,rfl,rfl⟩ rfl rfl rfl rfl rfl (by kernel_rfl) Tryz.func4 (by kernel_rfl)
  (of_decide_eq_true (by kernel_rfl)) (by unfold Func.isWrapper;first|(rw[ay (by decide+kernel)];kernel_rfl)|(rw[ar (by decide+kernel)];exact⟨rfl,rfl⟩))
  (λ os started H enc _=>Im os started H enc)
end Go.Proofs.YtiegkabcgokhkaaGreat
#print axioms Go.Proofs.YtiegkabcgokhkaaGreat.clientHeld_holds
