/- The given statement SnapBackSaid is proved of the program. No condition. -/
import Derived.Test.YtbpmcjeeeiffhaaGreatRows
import Derived.Test.YtbpmcjeeeiffhaaGreatWK
namespace Go.Proofs.YtbpmcjeeeiffhaaGreat
open Go.Pk Go.ChangeShapes Go.WideShapes Go.RowKit
set_option maxRecDepth 100000
set_option linter.unusedSimpArgs false
theorem zl2:zoj Tryz.prog 40 Tryz.f6.params.toList=some [.slice 6 zpk, .int .u8, .int .u8, .int .u8, .slice 1 (.int .u8), .int .u16]:=by kernel_rfl
theorem zju:∀t∈Tryz.f6.params.toList,Tryz.prog.readableRec t=true∧t<Tryz.prog.types.size:=by
 have h:(Tryz.f6.params.toList.all fun t=>Tryz.prog.readableRec t&&decide (t<Tryz.prog.types.size))=true:=by kernel_rfl
 intro t ht
 have:=List.all_eq_true.1 h t ht
 simpa using this
theorem zl3:∀dss,zml [.slice 6 zpk, .int .u8, .int .u8, .int .u8, .slice 1 (.int .u8), .int .u16] dss→CallOK Tryz.prog 6 (zeE [.slice 6 zpk, .int .u8, .int .u8, .int .u8, .slice 1 (.int .u8), .int .u16] dss) (fun r o=>r=[.one (.d (.v (.bool true)))]∧o=[]):=by
 intro dss h
 obtain⟨d0,dss,rfl,h0,h⟩:=zdk h
 obtain⟨d1,dss,rfl,h1,h⟩:=zdk h
 obtain⟨d2,dss,rfl,h2,h⟩:=zdk h
 obtain⟨d3,dss,rfl,h3,h⟩:=zdk h
 obtain⟨d4,dss,rfl,h4,h⟩:=zdk h
 obtain⟨d5,dss,rfl,h5,h⟩:=zdk h
 obtain rfl:=zpr h
 obtain⟨x0,rfl,k0,m0⟩:=zua _ h0
 obtain⟨x1,rfl,k1⟩:=byte_of _ h1
 obtain⟨x2,rfl,k2⟩:=byte_of _ h2
 obtain⟨x3,rfl,k3⟩:=byte_of _ h3
 obtain⟨x4,rfl,k4,m4⟩:=zwn _ h4
 obtain⟨x5,rfl,k5⟩:=zue _ h5
 have:=zmL x0 k0 m0 x1 x2 x3 k1 k2 k3 x4 k4 m4 x5 k5
 exact CallOK.le this (by simp[zeE,zr5,zdR,aLe,ztG,cLe])
theorem zky:ownKnob Tryz.prog.godebug=none:=by kernel_rfl
theorem zjv:laidOutB Tryz.prog=true:=by kernel_rfl
theorem zl4 {H:Type}:∀(ds:List (DataW H)),ds.length=Tryz.f6.params.size→(Rows.snapBackSpec.fn H ds).results=[.lit (.bool true)]∧(Rows.snapBackSpec.fn H ds).args=ds∧(Rows.snapBackSpec.fn H ds).vars=[]
 |[d0,d1,d2,d3,d4,d5],_=>⟨rfl,rfl,rfl⟩
 |[],h=>absurd h (by have e:Tryz.f6.params.size=6:=rfl;rw[e];simp)
 |[d0],h=>absurd h (by have e:Tryz.f6.params.size=6:=rfl;rw[e];simp)
 |[d0,d1],h=>absurd h (by have e:Tryz.f6.params.size=6:=rfl;rw[e];simp)
 |[d0,d1,d2],h=>absurd h (by have e:Tryz.f6.params.size=6:=rfl;rw[e];simp)
 |[d0,d1,d2,d3],h=>absurd h (by have e:Tryz.f6.params.size=6:=rfl;rw[e];simp)
 |[d0,d1,d2,d3,d4],h=>absurd h (by have e:Tryz.f6.params.size=6:=rfl;rw[e];simp)
 |_::_::_::_::_::_::_::_,h=>absurd h (by have e:Tryz.f6.params.size=6:=rfl;rw[e];simp)
theorem zhx (os:Os) (started:os.Started) (H:Type) (enc:TypeId×Value→H):
  ReturnsInHanded {} Tryz.checked os 6 .any (Rows.snapBackSpec.pre6 enc Tryz.prog Tryz.f6 Rows.snapBackRow.domain false) (Rows.snapBackSpec.post enc Tryz.prog Tryz.f6 false true false false):=by
 refine returnsInHanded_of_change_sized (C:=Tryz.checked) zky started (by kernel_rfl) Tryz.func6
  (ChangeSpec.witness6 (enc:=enc) (C:=Tryz.checked) false ⟨#[], #[.slice none 0 0, .int .u8 0, .int .u8 0, .int .u8 0, .slice none 0 0, .int .u16 0],[]⟩ 8 (by kernel_rfl) (by kernel_rfl) (by kernel_rfl) (by kernel_rfl)) ?_
 intro W base args ds gs before hval hW _ hsz _
 exact zmm (P:=Tryz.prog) (f:=6) (fn:=Tryz.f6) (s:=Rows.snapBackSpec) (n:=40) zl2 rfl zl4 (tb:=4) (by kernel_rfl) Tryz.underlying4 zjv zju zl3 W base args ds gs before hval hW hsz
theorem snapBack_holds:Rows.SnapBackSaid:=
 OpenClaim.holds_of_wide 6 Tryz.f6 rfl rfl rfl rfl rfl rfl rfl ⟨rfl,rfl,rfl,rfl,rfl⟩ rfl rfl rfl rfl rfl (by kernel_rfl) Tryz.func6 (by kernel_rfl)
  (of_decide_eq_true (by kernel_rfl)) (by unfold Func.isWrapper;first|(rw[if_pos (by decide+kernel)];kernel_rfl)|(rw[if_neg (by decide+kernel)];exact⟨rfl,rfl⟩))
  (fun os started H enc _=>zhx os started H enc)
end Go.Proofs.YtbpmcjeeeiffhaaGreat
#print axioms Go.Proofs.YtbpmcjeeeiffhaaGreat.snapBack_holds
