import Derived.Test.YtbpmcjeeeiffhaaGreatRows
import Derived.Test.YtbpmcjeeeiffhaaGreatTZ
namespace Go.Proofs.YtbpmcjeeeiffhaaGreat
open Go.Pk Go.ChangeShapes Go.WideShapes Go.RowKit
set_option maxRecDepth 100000
set_option linter.unusedSimpArgs false
theorem zmW:znk Tryz.prog 40 Tryz.f4.params.toList=some [zhj,zhj, .slice 1 (.int .u8), .int .i64]:=by kernel_rfl
theorem zj0:∀t∈Tryz.f4.params.toList,Tryz.prog.readableRec t=true∧t<Tryz.prog.types.size:=by
 have h:(Tryz.f4.params.toList.all fun t=>Tryz.prog.readableRec t&&decide (t<Tryz.prog.types.size))=true:=by kernel_rfl
 intro t ht
 have:=List.all_eq_true.1 h t ht
 simpa using this
theorem zmX:∀dss,zlA [zhj,zhj, .slice 1 (.int .u8), .int .i64] dss→CallOK Tryz.prog 4 (zej [zhj,zhj, .slice 1 (.int .u8), .int .i64] dss) (fun r o=>r=[.one (.d (.v (.bool true)))]∧o=[]):=by
 intro dss h
 obtain⟨d0,dss,rfl,h0,h⟩:=zeH h
 obtain⟨d1,dss,rfl,h1,h⟩:=zeH h
 obtain⟨d2,dss,rfl,h2,h⟩:=zeH h
 obtain⟨d3,dss,rfl,h3,h⟩:=zeH h
 obtain rfl:=zoo h
 obtain⟨x0,rfl,k0⟩:=znV _ h0
 obtain⟨x1,rfl,k1⟩:=znV _ h1
 obtain⟨x2,rfl,k2,m2⟩:=zuS _ h2
 obtain⟨x3,rfl,k3⟩:=zcY _ h3
 have:=zmZ x0 k0 x1 k1 x2 k2 m2 x3 k3
 exact CallOK.le this (by simp[zej,zqs,zdv,aLe,zrG,cLe])
theorem zll:ownKnob Tryz.prog.godebug=none:=by kernel_rfl
theorem zj1:laidOutB Tryz.prog=true:=by kernel_rfl
theorem zmY {H:Type}:∀(ds:List (DataW H)),ds.length=Tryz.f4.params.size→(Rows.snapAllSpec.fn H ds).results=[.lit (.bool true)]∧(Rows.snapAllSpec.fn H ds).args=ds∧(Rows.snapAllSpec.fn H ds).vars=[]
 |[d0,d1,d2,d3],_=>⟨rfl,rfl,rfl⟩
 |[],h=>absurd h (by have e:Tryz.f4.params.size=4:=rfl;rw[e];simp)
 |[d0],h=>absurd h (by have e:Tryz.f4.params.size=4:=rfl;rw[e];simp)
 |[d0,d1],h=>absurd h (by have e:Tryz.f4.params.size=4:=rfl;rw[e];simp)
 |[d0,d1,d2],h=>absurd h (by have e:Tryz.f4.params.size=4:=rfl;rw[e];simp)
 |_::_::_::_::_::_,h=>absurd h (by have e:Tryz.f4.params.size=4:=rfl;rw[e];simp)
theorem zh9 (os:Os) (started:os.Started) (H:Type) (enc:TypeId×Value→H):
  ReturnsInHanded {} Tryz.checked os 4 .any (Rows.snapAllSpec.pre6 enc Tryz.prog Tryz.f4 Rows.snapAllRow.domain false) (Rows.snapAllSpec.post enc Tryz.prog Tryz.f4 false true false false):=by
 refine returnsInHanded_of_change_sized (C:=Tryz.checked) zll started (by kernel_rfl) Tryz.func4
  (ChangeSpec.witness6 (enc:=enc) (C:=Tryz.checked) false ⟨#[], #[.agg #[.int .i64 0, .int .i64 0, .int .i64 0, .int .i64 0, .int .i64 0, .int .i64 0, .slice none 0 0, .slice none 0 0, .slice none 0 0], .agg #[.int .i64 0, .int .i64 0, .int .i64 0, .int .i64 0, .int .i64 0, .int .i64 0, .slice none 0 0, .slice none 0 0, .slice none 0 0], .slice none 0 0, .int .i64 0],[]⟩ 8 (by kernel_rfl) (by kernel_rfl) (by kernel_rfl) (by kernel_rfl)) ?_
 intro W base args ds gs before hval hW _ hsz _
 exact zlB (P:=Tryz.prog) (f:=4) (fn:=Tryz.f4) (s:=Rows.snapAllSpec) (n:=40) zmW rfl zmY (tb:=4) (by kernel_rfl) Tryz.underlying4 zj1 zj0 zmX W base args ds gs before hval hW hsz
theorem snapAll_holds:Rows.SnapAllSaid:=
 OpenClaim.holds_of_wide 4 Tryz.f4 rfl rfl rfl rfl rfl rfl rfl ⟨rfl,rfl,rfl,rfl,rfl⟩ rfl rfl rfl rfl rfl (by kernel_rfl) Tryz.func4 (by kernel_rfl)
  (of_decide_eq_true (by kernel_rfl)) (by unfold Func.isWrapper;first|(rw[if_pos (by decide+kernel)];kernel_rfl)|(rw[if_neg (by decide+kernel)];exact⟨rfl,rfl⟩))
  (fun os started H enc _=>zh9 os started H enc)
end Go.Proofs.YtbpmcjeeeiffhaaGreat
#print axioms Go.Proofs.YtbpmcjeeeiffhaaGreat.snapAll_holds
