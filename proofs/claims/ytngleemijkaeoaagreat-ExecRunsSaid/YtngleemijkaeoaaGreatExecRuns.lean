/- The given statement ExecRunsSaid is proved of the program. No condition. -/
import Derived.Test.YtngleemijkaeoaaGreatRows
import Derived.Test.YtngleemijkaeoaaGreatETY
namespace Go.Proofs.YtngleemijkaeoaaGreat
open Go.Pk Go.ChangeShapes Go.WideShapes Go.RowKit
set_option maxRecDepth 100000
set_option linter.unusedSimpArgs false
theorem zkk:zmx Tryz.prog 40 Tryz.f4.params.toList=some [.int .i64, .slice 32 zm5,zhP]:=by kernel_rfl
theorem zhN:∀t∈Tryz.f4.params.toList,Tryz.prog.readableRec t=true∧t<Tryz.prog.types.size:=by
 have h:(Tryz.f4.params.toList.all fun t=>Tryz.prog.readableRec t&&decide (t<Tryz.prog.types.size))=true:=by kernel_rfl
 intro t ht
 have:=List.all_eq_true.1 h t ht
 simpa using this
theorem zkl:∀dss,zkH [.int .i64, .slice 32 zm5,zhP] dss→CallOK Tryz.prog 4 (zdT [.int .i64, .slice 32 zm5,zhP] dss) (fun r o=>r=[.one (.d (.v (.bool true)))]∧o=[]):=by
 intro dss h
 obtain⟨d0,dss,rfl,h0,h⟩:=zfw h
 obtain⟨d1,dss,rfl,h1,h⟩:=zfw h
 obtain⟨d2,dss,rfl,h2,h⟩:=zfw h
 obtain rfl:=znz h
 obtain⟨x0,rfl,k0⟩:=ztr _ h0
 obtain⟨x1,rfl,k1,m1⟩:=zrq _ h1
 obtain⟨x2,rfl,k2⟩:=zpk _ h2
 have:=zkZ x0 k0 x1 k1 m1 x2 k2
 exact CallOK.le this (by simp[zdT,zpF,zcf,aLe,zlp,cLe])
theorem ziK:ownKnob Tryz.prog.godebug=none:=by kernel_rfl
theorem zhO:laidOutB Tryz.prog=true:=by kernel_rfl
theorem zkm {H:Type}:∀(ds:List (DataW H)),ds.length=Tryz.f4.params.size→(Rows.execRunsSpec.fn H ds).results=[.lit (.bool true)]∧(Rows.execRunsSpec.fn H ds).args=ds∧(Rows.execRunsSpec.fn H ds).vars=[]
 |[d0,d1,d2],_=>⟨rfl,rfl,rfl⟩
 |[],h=>absurd h (by have e:Tryz.f4.params.size=3:=rfl;rw[e];simp)
 |[d0],h=>absurd h (by have e:Tryz.f4.params.size=3:=rfl;rw[e];simp)
 |[d0,d1],h=>absurd h (by have e:Tryz.f4.params.size=3:=rfl;rw[e];simp)
 |_::_::_::_::_,h=>absurd h (by have e:Tryz.f4.params.size=3:=rfl;rw[e];simp)
theorem zgf (os:Os) (started:os.Started) (H:Type) (enc:TypeId×Value→H):
  ReturnsInHanded {} Tryz.checked os 4 .any (Rows.execRunsSpec.pre6 enc Tryz.prog Tryz.f4 Rows.execRunsRow.domain false) (Rows.execRunsSpec.post enc Tryz.prog Tryz.f4 false true false false):=by
 refine returnsInHanded_of_change_sized (C:=Tryz.checked) ziK started (by kernel_rfl) Tryz.func4
  (ChangeSpec.witness6 (enc:=enc) (C:=Tryz.checked) false ⟨#[], #[.int .i64 0, .slice none 0 0, .agg #[.bool false, .int .i64 0, .int .i64 0, .int .i64 0, .int .i64 0, .slice none 0 0]],[]⟩ 8 (by kernel_rfl) (by kernel_rfl) (by kernel_rfl) (by kernel_rfl)) ?_
 intro W base args ds gs before hval hW _ hsz _
 exact zkI (P:=Tryz.prog) (f:=4) (fn:=Tryz.f4) (s:=Rows.execRunsSpec) (n:=40) zkk rfl zkm (tb:=4) (by kernel_rfl) Tryz.underlying4 zhO zhN zkl W base args ds gs before hval hW hsz
theorem execRuns_holds:Rows.ExecRunsSaid:=
 OpenClaim.holds_of_wide 4 Tryz.f4 rfl rfl rfl rfl rfl rfl rfl ⟨rfl,rfl,rfl,rfl,rfl⟩ rfl rfl rfl rfl rfl (by kernel_rfl) Tryz.func4 (by kernel_rfl)
  (of_decide_eq_true (by kernel_rfl)) (by unfold Func.isWrapper;first|(rw[if_pos (by decide+kernel)];kernel_rfl)|(rw[if_neg (by decide+kernel)];exact⟨rfl,rfl⟩))
  (fun os started H enc _=>zgf os started H enc)
end Go.Proofs.YtngleemijkaeoaaGreat
#print axioms Go.Proofs.YtngleemijkaeoaaGreat.execRuns_holds
