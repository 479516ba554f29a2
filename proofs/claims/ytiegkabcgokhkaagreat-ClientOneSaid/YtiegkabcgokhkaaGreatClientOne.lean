/- The given statement ClientOneSaid is proved of the program. No condition. -/
import Derived.Test.YtiegkabcgokhkaaGreatRows
import Derived.Test.YtiegkabcgokhkaaGreatSM
namespace Go.Proofs.YtiegkabcgokhkaaGreat
open Go.Pk Go.ChangeShapes Go.WideShapes Go.RowKit
set_option maxRecDepth 100000
set_option linter.unusedSimpArgs false
theorem IW:ny Tryz.prog 40 Tryz.f3.params.toList=some [.slice 80 mc]:=by kernel_rfl
theorem Iu:∀t∈Tryz.f3.params.toList,Tryz.prog.readableRec t=true/\t<Tryz.prog.types.size:=by
 have h:(Tryz.f3.params.toList.all λ t=>Tryz.prog.readableRec t&&decide (t<Tryz.prog.types.size))=true:=by kernel_rfl
 intro t ht;have:=iu.1 h t ht;simpa using this
theorem IX:∀dss,mq [.slice 80 mc] dss->ae Tryz.prog 3 (je [.slice 80 mc] dss) (λ r o=>r=[.one (.d (.v (.bool true)))]/\o=[]):=by intro dss h;obtain⟨d0,dss,rfl,h0,h⟩:=rD h;obtain rfl:=yY h;obtain⟨x0,rfl,k0,m0⟩:=Ay _ h0;have:=II x0 k0 m0;exact ae.le this (by simp[je,qC,cV,dq,dw,dG])
theorem Iy:ownKnob Tryz.prog.godebug=none:=by kernel_rfl
theorem Iv:laidOutB Tryz.prog=true:=by kernel_rfl
theorem IQ {H:Type}:∀(ds:List (DataW H)),ds.length=Tryz.f3.params.size->(Rows.clientOneSpec.fn H ds).results=[.lit (.bool true)]/\(Rows.clientOneSpec.fn H ds).args=ds/\(Rows.clientOneSpec.fn H ds).vars=[]
 |[d0],_=>⟨rfl,rfl,rfl⟩
 |[],h=>absurd h (by have e:Tryz.f3.params.size=1:=rfl;rw[e];simp)
 |_::_::_,h=>absurd h (by have e:Tryz.f3.params.size=1:=rfl;rw[e];simp)
theorem Ip (os:Os) (started:os.Started) (H:Type) (enc:TypeId×Value->H):
  ReturnsInHanded {} Tryz.checked os 3 .any (Rows.clientOneSpec.pre6 enc Tryz.prog Tryz.f3 Rows.clientOneRow.domain false) (Rows.clientOneSpec.post enc Tryz.prog Tryz.f3 false true false false):=by
 refine returnsInHanded_of_change_sized (C:=Tryz.checked) Iy started (by kernel_rfl) Tryz.func3
  (ChangeSpec.witness6 (enc:=enc) (C:=Tryz.checked) false ⟨#[], #[.slice none 0 0],[]⟩ 8 (by kernel_rfl) (by kernel_rfl) (by kernel_rfl) (by kernel_rfl)) ?_
 intro W base args ds gs before hval hW _ hsz _;exact xv (P:=Tryz.prog) (f:=3) (fn:=Tryz.f3) (s:=Rows.clientOneSpec) (n:=40) IW rfl IQ (tb:=4) (by kernel_rfl) Tryz.underlying4 Iv Iu IX W base args ds gs before hval hW hsz
theorem clientOne_holds:Rows.ClientOneSaid:=
 OpenClaim.holds_of_wide 3 Tryz.f3 rfl rfl rfl rfl rfl rfl rfl ⟨rfl,rfl,rfl,rfl,rfl⟩ rfl rfl rfl rfl rfl (by kernel_rfl) Tryz.func3 (by kernel_rfl)
  (of_decide_eq_true (by kernel_rfl)) (by unfold Func.isWrapper;first|(rw[ay (by decide+kernel)];kernel_rfl)|(rw[ar (by decide+kernel)];exact⟨rfl,rfl⟩))
  (λ os started H enc _=>Ip os started H enc)
end Go.Proofs.YtiegkabcgokhkaaGreat
#print axioms Go.Proofs.YtiegkabcgokhkaaGreat.clientOne_holds
