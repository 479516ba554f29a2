import Derived.Test.YtbpmcjeeeiffhaaGreatRows
import Derived.Test.YtbpmcjeeeiffhaaGreatWI
namespace Go.Proofs.YtbpmcjeeeiffhaaGreat
open Go.Pk Go.ChangeShapes Go.WideShapes Go.RowKit
set_option maxRecDepth 100000
set_option linter.unusedSimpArgs false
theorem zmZ:zo9 Tryz.prog 40 Tryz.f5.params.toList=some [.slice 6 zqc, .int .u8, .int .u8, .int .u8, .int .u16, .int .u8]:=by kernel_rfl
theorem zkp:∀t∈Tryz.f5.params.toList,Tryz.prog.readableRec t=true∧t<Tryz.prog.types.size:=by
 have h:(Tryz.f5.params.toList.all fun t=>Tryz.prog.readableRec t&&decide (t<Tryz.prog.types.size))=true:=by kernel_rfl
 intro t ht
 have:=List.all_eq_true.1 h t ht
 simpa using this
theorem zm0:∀dss,znb [.slice 6 zqc, .int .u8, .int .u8, .int .u8, .int .u16, .int .u8] dss→CallOK Tryz.prog 5 (zfb [.slice 6 zqc, .int .u8, .int .u8, .int .u8, .int .u16, .int .u8] dss) (fun r o=>r=[.one (.d (.v (.bool true)))]∧o=[]):=by
 intro dss h
 obtain⟨d0,dss,rfl,h0,h⟩:=zdJ h
 obtain⟨d1,dss,rfl,h1,h⟩:=zdJ h
 obtain⟨d2,dss,rfl,h2,h⟩:=zdJ h
 obtain⟨d3,dss,rfl,h3,h⟩:=zdJ h
 obtain⟨d4,dss,rfl,h4,h⟩:=zdJ h
 obtain⟨d5,dss,rfl,h5,h⟩:=zdJ h
 obtain rfl:=zqi h
 obtain⟨x0,rfl,k0,m0⟩:=zvc _ h0
 obtain⟨x1,rfl,k1⟩:=byte_of _ h1
 obtain⟨x2,rfl,k2⟩:=byte_of _ h2
 obtain⟨x3,rfl,k3⟩:=byte_of _ h3
 obtain⟨x4,rfl,k4⟩:=zvd _ h4
 obtain⟨x5,rfl,k5⟩:=byte_of _ h5
 have:=znE x0 k0 m0 x1 x2 x3 k1 k2 k3 x4 k4 x5 k5
 exact CallOK.le this (by simp[zfb,zs1,zeg,aLe,zuF,cLe])
theorem zlr:ownKnob Tryz.prog.godebug=none:=by kernel_rfl
theorem zkq:laidOutB Tryz.prog=true:=by kernel_rfl
theorem zm1 {H:Type}:∀(ds:List (DataW H)),ds.length=Tryz.f5.params.size→(Rows.snapMadeSpec.fn H ds).results=[.lit (.bool true)]∧(Rows.snapMadeSpec.fn H ds).args=ds∧(Rows.snapMadeSpec.fn H ds).vars=[]
 |[d0,d1,d2,d3,d4,d5],_=>⟨rfl,rfl,rfl⟩
 |[],h=>absurd h (by have e:Tryz.f5.params.size=6:=rfl;rw[e];simp)
 |[d0],h=>absurd h (by have e:Tryz.f5.params.size=6:=rfl;rw[e];simp)
 |[d0,d1],h=>absurd h (by have e:Tryz.f5.params.size=6:=rfl;rw[e];simp)
 |[d0,d1,d2],h=>absurd h (by have e:Tryz.f5.params.size=6:=rfl;rw[e];simp)
 |[d0,d1,d2,d3],h=>absurd h (by have e:Tryz.f5.params.size=6:=rfl;rw[e];simp)
 |[d0,d1,d2,d3,d4],h=>absurd h (by have e:Tryz.f5.params.size=6:=rfl;rw[e];simp)
 |_::_::_::_::_::_::_::_,h=>absurd h (by have e:Tryz.f5.params.size=6:=rfl;rw[e];simp)
theorem zio (os:Os) (started:os.Started) (H:Type) (enc:TypeId×Value→H):
  ReturnsInHanded {} Tryz.checked os 5 .any (Rows.snapMadeSpec.pre6 enc Tryz.prog Tryz.f5 Rows.snapMadeRow.domain false) (Rows.snapMadeSpec.post enc Tryz.prog Tryz.f5 false true false false):=by
 refine returnsInHanded_of_change_sized (C:=Tryz.checked) zlr started (by kernel_rfl) Tryz.func5
  (ChangeSpec.witness6 (enc:=enc) (C:=Tryz.checked) false ⟨#[], #[.slice none 0 0, .int .u8 0, .int .u8 0, .int .u8 0, .int .u16 0, .int .u8 0],[]⟩ 8 (by kernel_rfl) (by kernel_rfl) (by kernel_rfl) (by kernel_rfl)) ?_
 intro W base args ds gs before hval hW _ hsz _
 exact znc (P:=Tryz.prog) (f:=5) (fn:=Tryz.f5) (s:=Rows.snapMadeSpec) (n:=40) zmZ rfl zm1 (tb:=4) (by kernel_rfl) Tryz.underlying4 zkq zkp zm0 W base args ds gs before hval hW hsz
theorem snapMade_holds:Rows.SnapMadeSaid:=
 OpenClaim.holds_of_wide 5 Tryz.f5 rfl rfl rfl rfl rfl rfl rfl ⟨rfl,rfl,rfl,rfl,rfl⟩ rfl rfl rfl rfl rfl (by kernel_rfl) Tryz.func5 (by kernel_rfl)
  (of_decide_eq_true (by kernel_rfl)) (by unfold Func.isWrapper;first|(rw[if_pos (by decide+kernel)];kernel_rfl)|(rw[if_neg (by decide+kernel)];exact⟨rfl,rfl⟩))
  (fun os started H enc _=>zio os started H enc)
end Go.Proofs.YtbpmcjeeeiffhaaGreat
#print axioms Go.Proofs.YtbpmcjeeeiffhaaGreat.snapMade_holds
