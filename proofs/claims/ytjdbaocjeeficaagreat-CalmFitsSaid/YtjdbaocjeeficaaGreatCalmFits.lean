/- The given statement CalmFitsSaid is proved of the program. No condition. -/
import Derived.Test.YtjdbaocjeeficaaGreatRows
import Derived.Test.YtjdbaocjeeficaaGreatCM
set_option maxHeartbeats 8000000
namespace Go.Proofs.YtjdbaocjeeficaaGreat
open Go.Pk Go.ChangeShapes Go.WideShapes Go.RowKit
set_option maxRecDepth 100000
set_option maxHeartbeats 8000000
set_option linter.unusedSimpArgs false
theorem Bb:kI Tryz.prog 40 Tryz.f7.params.toList=some [.slice 1 (.int .u8), .int .u16, .int .u8]:=by kernel_rfl
theorem AO:∀t∈Tryz.f7.params.toList,Tryz.prog.readableRec t=true/\t<Tryz.prog.types.size:=by
 have h:(Tryz.f7.params.toList.all λ t=>Tryz.prog.readableRec t&&decide (t<Tryz.prog.types.size))=true:=by kernel_rfl
 intro t ht;have:=gT.1 h t ht;simpa using this
theorem A6:∀dss,jY [.slice 1 (.int .u8), .int .u16, .int .u8] dss->ag Tryz.prog 7 (gr [.slice 1 (.int .u8), .int .u16, .int .u8] dss) (λ r o=>r=[.one (.d (.v (.bool true)))]/\o=[]):=by intro dss h;obtain⟨d0,dss,rfl,h0,h⟩:=jG h;obtain⟨d1,dss,rfl,h1,h⟩:=jG h;obtain⟨d2,dss,rfl,h2,h⟩:=jG h;obtain rfl:=uc h;obtain⟨x0,rfl,k0,m0⟩:=wR _ h0;obtain⟨x1,rfl,k1⟩:=Dx _ h1;obtain⟨x2,rfl,k2⟩:=vF _ h2;have:=Bf x0 k0 m0 x1 k1 x2 k2;exact ag.le this (by simp[gr,mL,gQ,iQ,jb,j7])
theorem AR:ownKnob Tryz.prog.godebug=none:=by kernel_rfl
theorem rZ:laidOutB Tryz.prog=true:=by kernel_rfl
theorem A7 {H:Type}:∀(ds:List (DataW H)),ds.length=Tryz.f7.params.size->(Rows.calmFitsSpec.fn H ds).results=[.lit (.bool true)]/\(Rows.calmFitsSpec.fn H ds).args=ds/\(Rows.calmFitsSpec.fn H ds).vars=[]
 |[d0,d1,d2],_=>⟨rfl,rfl,rfl⟩
 |[],h=>absurd h (by have e:Tryz.f7.params.size=3:=rfl;rw[e];simp)
 |[d0],h=>absurd h (by have e:Tryz.f7.params.size=3:=rfl;rw[e];simp)
 |[d0,d1],h=>absurd h (by have e:Tryz.f7.params.size=3:=rfl;rw[e];simp)
 |_::_::_::_::_,h=>absurd h (by have e:Tryz.f7.params.size=3:=rfl;rw[e];simp)
theorem AA (os:Os) (started:os.Started) (H:Type) (enc:TypeId×Value->H):
  ReturnsInHanded {} Tryz.checked os 7 .any (Rows.calmFitsSpec.pre6 enc Tryz.prog Tryz.f7 Rows.calmFitsRow.domain false) (Rows.calmFitsSpec.post enc Tryz.prog Tryz.f7 false true false false):=by
 refine returnsInHanded_of_change_sized (C:=Tryz.checked) AR started (by kernel_rfl) Tryz.func7
  (ChangeSpec.witness6 (enc:=enc) (C:=Tryz.checked) false ⟨#[], #[.slice none 0 0, .int .u16 0, .int .u8 0],[]⟩ 8 (by kernel_rfl) (by kernel_rfl) (by kernel_rfl) (by kernel_rfl)) ?_
 intro W base args ds gs before hval hW _ hsz _;exact sn (P:=Tryz.prog) (f:=7) (fn:=Tryz.f7) (s:=Rows.calmFitsSpec) (n:=40) Bb rfl A7 (tb:=4) (by kernel_rfl) Tryz.underlying4 rZ AO A6 W base args ds gs before hval hW hsz
theorem AQ {a b:Bool} (h:a=true) (k:b=true):(a&&b)=true:=by rw[h,k];rfl
theorem AB:joinedFacts Tryz.prog 7 Tryz.f7 Rows.calmFitsSpec Rows.calmFitsRow=true:=by
 unfold joinedFacts
 repeat with_reducible refine AQ ?_ ?_
 all_goals first|with_reducible exact rZ|as_aux_lemma=>kernel_rfl
theorem calmFits_holds:Rows.CalmFitsSaid:=
 OpenClaim.holds_of_wide 7 Tryz.f7 rfl rfl rfl rfl rfl rfl rfl ⟨rfl,rfl,rfl,rfl,rfl⟩ rfl rfl rfl rfl rfl (by as_aux_lemma=>kernel_rfl) Tryz.func7 AB
  (of_decide_eq_true (by as_aux_lemma=>kernel_rfl)) (by unfold Func.isWrapper;first|(rw[ao (by decide+kernel)];kernel_rfl)|(rw[aj (by decide+kernel)];exact⟨rfl,rfl⟩))
  (λ os started H enc _=>AA os started H enc)
end Go.Proofs.YtjdbaocjeeficaaGreat
#print axioms Go.Proofs.YtjdbaocjeeficaaGreat.calmFits_holds
