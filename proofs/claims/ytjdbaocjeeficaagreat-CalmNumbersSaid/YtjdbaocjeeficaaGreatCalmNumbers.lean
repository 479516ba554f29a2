/- The given statement CalmNumbersSaid is proved of the program. No condition. -/
import Derived.Test.YtjdbaocjeeficaaGreatRows
import Derived.Test.YtjdbaocjeeficaaGreatCM
set_option maxHeartbeats 8000000
namespace Go.Proofs.YtjdbaocjeeficaaGreat
open Go.Pk Go.ChangeShapes Go.WideShapes Go.RowKit
set_option maxRecDepth 100000
set_option maxHeartbeats 8000000
set_option linter.unusedSimpArgs false
theorem AJ:kI Tryz.prog 40 Tryz.f6.params.toList=some [ow, .slice 1 (.int .u8), .bool,ox, .int .i64]:=by kernel_rfl
theorem Ay:∀t∈Tryz.f6.params.toList,Tryz.prog.readableRec t=true/\t<Tryz.prog.types.size:=by
 have h:(Tryz.f6.params.toList.all λ t=>Tryz.prog.readableRec t&&decide (t<Tryz.prog.types.size))=true:=by kernel_rfl
 intro t ht;have:=gT.1 h t ht;simpa using this
theorem AH:∀dss,jY [ow, .slice 1 (.int .u8), .bool,ox, .int .i64] dss->ag Tryz.prog 6 (gr [ow, .slice 1 (.int .u8), .bool,ox, .int .i64] dss) (λ r o=>r=[.one (.d (.v (.bool true)))]/\o=[]):=by intro dss h;obtain⟨d0,dss,rfl,h0,h⟩:=jG h;obtain⟨d1,dss,rfl,h1,h⟩:=jG h;obtain⟨d2,dss,rfl,h2,h⟩:=jG h;obtain⟨d3,dss,rfl,h3,h⟩:=jG h;obtain⟨d4,dss,rfl,h4,h⟩:=jG h;obtain rfl:=uc h;obtain⟨x0,rfl⟩:=DL _ h0;obtain⟨x1,rfl,k1,m1⟩:=wR _ h1;obtain⟨x2,rfl⟩:=DB _ h2;obtain⟨x3,rfl⟩:=D5 _ h3;obtain⟨x4,rfl,k4⟩:=En _ h4;have:=AG x0 x1 k1 m1 x2 x3 x4;exact ag.le this (by simp[gr,mL,gQ,iQ,jb,j7])
theorem AE:ownKnob Tryz.prog.godebug=none:=by kernel_rfl
theorem rS:laidOutB Tryz.prog=true:=by kernel_rfl
theorem AF {H:Type}:∀(ds:List (DataW H)),ds.length=Tryz.f6.params.size->(Rows.calmNumbersSpec.fn H ds).results=[.lit (.bool true)]/\(Rows.calmNumbersSpec.fn H ds).args=ds/\(Rows.calmNumbersSpec.fn H ds).vars=[]
 |[d0,d1,d2,d3,d4],_=>⟨rfl,rfl,rfl⟩
 |[],h=>absurd h (by have e:Tryz.f6.params.size=5:=rfl;rw[e];simp)
 |[d0],h=>absurd h (by have e:Tryz.f6.params.size=5:=rfl;rw[e];simp)
 |[d0,d1],h=>absurd h (by have e:Tryz.f6.params.size=5:=rfl;rw[e];simp)
 |[d0,d1,d2],h=>absurd h (by have e:Tryz.f6.params.size=5:=rfl;rw[e];simp)
 |[d0,d1,d2,d3],h=>absurd h (by have e:Tryz.f6.params.size=5:=rfl;rw[e];simp)
 |_::_::_::_::_::_::_,h=>absurd h (by have e:Tryz.f6.params.size=5:=rfl;rw[e];simp)
theorem Au (os:Os) (started:os.Started) (H:Type) (enc:TypeId×Value->H):
  ReturnsInHanded {} Tryz.checked os 6 .any (Rows.calmNumbersSpec.pre6 enc Tryz.prog Tryz.f6 Rows.calmNumbersRow.domain false) (Rows.calmNumbersSpec.post enc Tryz.prog Tryz.f6 false true false false):=by
 refine returnsInHanded_of_change_sized (C:=Tryz.checked) AE started (by kernel_rfl) Tryz.func6
  (ChangeSpec.witness6 (enc:=enc) (C:=Tryz.checked) false ⟨#[], #[.agg #[.int .i64 0, .int .i64 0, .int .i64 0, .int .i64 0, .int .i64 0, .int .i64 0, .int .i64 0, .int .i64 0, .int .i64 0, .int .i64 0, .int .i64 0], .slice none 0 0, .bool false, .agg #[.int .i64 0, .int .i64 0, .int .i64 0], .int .i64 0],[]⟩ 8 (by kernel_rfl) (by kernel_rfl) (by kernel_rfl) (by kernel_rfl)) ?_
 intro W base args ds gs before hval hW _ hsz _;exact sn (P:=Tryz.prog) (f:=6) (fn:=Tryz.f6) (s:=Rows.calmNumbersSpec) (n:=40) AJ rfl AF (tb:=4) (by kernel_rfl) Tryz.underlying4 rS Ay AH W base args ds gs before hval hW hsz
theorem AD {a b:Bool} (h:a=true) (k:b=true):(a&&b)=true:=by rw[h,k];rfl
theorem Aw:joinedFacts Tryz.prog 6 Tryz.f6 Rows.calmNumbersSpec Rows.calmNumbersRow=true:=by
 unfold joinedFacts
 repeat with_reducible refine AD ?_ ?_
 all_goals first|with_reducible exact rS|as_aux_lemma=>kernel_rfl
theorem calmNumbers_holds:Rows.CalmNumbersSaid:=
 OpenClaim.holds_of_wide 6 Tryz.f6 rfl rfl rfl rfl rfl rfl rfl ⟨rfl,rfl,rfl,rfl,rfl⟩ rfl rfl rfl rfl rfl (by as_aux_lemma=>kernel_rfl) Tryz.func6 Aw
  (of_decide_eq_true (by as_aux_lemma=>kernel_rfl)) (by unfold Func.isWrapper;first|(rw[ao (by decide+kernel)];kernel_rfl)|(rw[aj (by decide+kernel)];exact⟨rfl,rfl⟩))
  (λ os started H enc _=>Au os started H enc)
end Go.Proofs.YtjdbaocjeeficaaGreat
#print axioms Go.Proofs.YtjdbaocjeeficaaGreat.calmNumbers_holds
