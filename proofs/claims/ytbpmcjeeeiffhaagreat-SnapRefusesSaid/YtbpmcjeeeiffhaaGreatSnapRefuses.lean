import Derived.Test.YtbpmcjeeeiffhaaGreatRows
import Derived.Test.YtbpmcjeeeiffhaaGreatTYS
namespace Go.Proofs.YtbpmcjeeeiffhaaGreat
open Go.Pk Go.ChangeShapes Go.WideShapes Go.RowKit
set_option maxRecDepth 100000
set_option linter.unusedSimpArgs false
theorem zgp:shAll Tryz.prog 40 Tryz.f3.params.toList=some [.slice 6 shAct, .int .u8, .int .u8]:=by kernel_rfl
theorem zfi:∀t∈Tryz.f3.params.toList,Tryz.prog.readableRec t=true∧t<Tryz.prog.types.size:=by
 have h:(Tryz.f3.params.toList.all fun t=>Tryz.prog.readableRec t&&decide (t<Tryz.prog.types.size))=true:=by kernel_rfl
 intro t ht
 have:=List.all_eq_true.1 h t ht
 simpa using this
theorem zgq:∀dss,ShAll [.slice 6 shAct, .int .u8, .int .u8] dss→CallOK Tryz.prog 3 (argsOf [.slice 6 shAct, .int .u8, .int .u8] dss) (fun r o=>r=[.one (.d (.v (.bool true)))]∧o=[]):=by
 intro dss h
 obtain⟨d0,dss,rfl,h0,h⟩:=zeQ h
 obtain⟨d1,dss,rfl,h1,h⟩:=zeQ h
 obtain⟨d2,dss,rfl,h2,h⟩:=zeQ h
 obtain rfl:=zlV h
 obtain⟨x0,rfl,k0,m0⟩:=zpH _ h0
 obtain⟨x1,rfl,k1⟩:=byte_of _ h1
 obtain⟨x2,rfl,k2⟩:=byte_of _ h2
 have:=zgs x0 k0 m0 x1 x2 k1 k2
 exact CallOK.le this (by simp[argsOf,argOf,argsLe,aLe,csLe,cLe])
theorem zfD:ownKnob Tryz.prog.godebug=none:=by kernel_rfl
theorem zfj:laidOutB Tryz.prog=true:=by kernel_rfl
theorem zgr {H:Type}:∀(ds:List (DataW H)),ds.length=Tryz.f3.params.size→(Rows.snapRefusesSpec.fn H ds).results=[.lit (.bool true)]∧(Rows.snapRefusesSpec.fn H ds).args=ds∧(Rows.snapRefusesSpec.fn H ds).vars=[]
 |[d0,d1,d2],_=>⟨rfl,rfl,rfl⟩
 |[],h=>absurd h (by have e:Tryz.f3.params.size=3:=rfl;rw[e];simp)
 |[d0],h=>absurd h (by have e:Tryz.f3.params.size=3:=rfl;rw[e];simp)
 |[d0,d1],h=>absurd h (by have e:Tryz.f3.params.size=3:=rfl;rw[e];simp)
 |_::_::_::_::_,h=>absurd h (by have e:Tryz.f3.params.size=3:=rfl;rw[e];simp)
theorem zd9 (os:Os) (started:os.Started) (H:Type) (enc:TypeId×Value→H):
  ReturnsInHanded {} Tryz.checked os 3 .any (Rows.snapRefusesSpec.pre6 enc Tryz.prog Tryz.f3 Rows.snapRefusesRow.domain false) (Rows.snapRefusesSpec.post enc Tryz.prog Tryz.f3 false true false false):=by
 refine returnsInHanded_of_change_sized (C:=Tryz.checked) zfD started (by kernel_rfl) Tryz.func3
  (ChangeSpec.witness6 (enc:=enc) (C:=Tryz.checked) false ⟨#[], #[.slice none 0 0, .int .u8 0, .int .u8 0],[]⟩ 8 (by kernel_rfl) (by kernel_rfl) (by kernel_rfl) (by kernel_rfl)) ?_
 intro W base args ds gs before hval hW _ hsz _
 exact zji (P:=Tryz.prog) (f:=3) (fn:=Tryz.f3) (s:=Rows.snapRefusesSpec) (n:=40) zgp rfl zgr (tb:=4) (by kernel_rfl) Tryz.underlying4 zfj zfi zgq W base args ds gs before hval hW hsz
theorem snapRefuses_holds:Rows.SnapRefusesSaid:=
 OpenClaim.holds_of_wide 3 Tryz.f3 rfl rfl rfl rfl rfl rfl rfl ⟨rfl,rfl,rfl,rfl,rfl⟩ rfl rfl rfl rfl rfl (by kernel_rfl) Tryz.func3 (by kernel_rfl)
  (of_decide_eq_true (by kernel_rfl)) (by unfold Func.isWrapper;first|(rw[if_pos (by decide+kernel)];kernel_rfl)|(rw[if_neg (by decide+kernel)];exact⟨rfl,rfl⟩))
  (fun os started H enc _=>zd9 os started H enc)
end Go.Proofs.YtbpmcjeeeiffhaaGreat
#print axioms Go.Proofs.YtbpmcjeeeiffhaaGreat.snapRefuses_holds
