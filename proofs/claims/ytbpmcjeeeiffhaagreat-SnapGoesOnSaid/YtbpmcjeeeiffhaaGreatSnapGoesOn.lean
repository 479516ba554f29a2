import Derived.Test.YtbpmcjeeeiffhaaGreatRows
import Derived.Test.YtbpmcjeeeiffhaaGreatTYS
namespace Go.Proofs.YtbpmcjeeeiffhaaGreat
open Go.Pk Go.ChangeShapes Go.WideShapes Go.RowKit
set_option maxRecDepth 100000
set_option linter.unusedSimpArgs false
theorem zjY:zoY Tryz.prog 40 Tryz.f7.params.toList=some [.slice 6 zlb, .slice 6 zlb]:=by kernel_rfl
theorem zhL:∀t∈Tryz.f7.params.toList,Tryz.prog.readableRec t=true∧t<Tryz.prog.types.size:=by
 have h:(Tryz.f7.params.toList.all fun t=>Tryz.prog.readableRec t&&decide (t<Tryz.prog.types.size))=true:=by kernel_rfl
 intro t ht
 have:=List.all_eq_true.1 h t ht
 simpa using this
theorem zjZ:∀dss,zm4 [.slice 6 zlb, .slice 6 zlb] dss→CallOK Tryz.prog 7 (zeK [.slice 6 zlb, .slice 6 zlb] dss) (fun r o=>r=[.one (.d (.v (.bool true)))]∧o=[]):=by
 intro dss h
 obtain⟨d0,dss,rfl,h0,h⟩:=ziX h
 obtain⟨d1,dss,rfl,h1,h⟩:=ziX h
 obtain rfl:=zqa h
 obtain⟨x0,rfl,k0,m0⟩:=zp3 _ h0
 obtain⟨x1,rfl,k1,m1⟩:=zp3 _ h1
 have:=zkX x0 k0 m0 x1 k1 m1
 exact CallOK.le this (by simp[zeK,zsF,zdt,aLe,zsn,cLe])
theorem ziM:ownKnob Tryz.prog.godebug=none:=by kernel_rfl
theorem zhM:laidOutB Tryz.prog=true:=by kernel_rfl
theorem zj0 {H:Type}:∀(ds:List (DataW H)),ds.length=Tryz.f7.params.size→(Rows.snapGoesOnSpec.fn H ds).results=[.lit (.bool true)]∧(Rows.snapGoesOnSpec.fn H ds).args=ds∧(Rows.snapGoesOnSpec.fn H ds).vars=[]
 |[d0,d1],_=>⟨rfl,rfl,rfl⟩
 |[],h=>absurd h (by have e:Tryz.f7.params.size=2:=rfl;rw[e];simp)
 |[d0],h=>absurd h (by have e:Tryz.f7.params.size=2:=rfl;rw[e];simp)
 |_::_::_::_,h=>absurd h (by have e:Tryz.f7.params.size=2:=rfl;rw[e];simp)
theorem zgH (os:Os) (started:os.Started) (H:Type) (enc:TypeId×Value→H):
  ReturnsInHanded {} Tryz.checked os 7 .any (Rows.snapGoesOnSpec.pre6 enc Tryz.prog Tryz.f7 Rows.snapGoesOnRow.domain false) (Rows.snapGoesOnSpec.post enc Tryz.prog Tryz.f7 false true false false):=by
 refine returnsInHanded_of_change_sized (C:=Tryz.checked) ziM started (by kernel_rfl) Tryz.func7
  (ChangeSpec.witness6 (enc:=enc) (C:=Tryz.checked) false ⟨#[], #[.slice none 0 0, .slice none 0 0],[]⟩ 8 (by kernel_rfl) (by kernel_rfl) (by kernel_rfl) (by kernel_rfl)) ?_
 intro W base args ds gs before hval hW _ hsz _
 exact zm5 (P:=Tryz.prog) (f:=7) (fn:=Tryz.f7) (s:=Rows.snapGoesOnSpec) (n:=40) zjY rfl zj0 (tb:=4) (by kernel_rfl) Tryz.underlying4 zhM zhL zjZ W base args ds gs before hval hW hsz
theorem snapGoesOn_holds:Rows.SnapGoesOnSaid:=
 OpenClaim.holds_of_wide 7 Tryz.f7 rfl rfl rfl rfl rfl rfl rfl ⟨rfl,rfl,rfl,rfl,rfl⟩ rfl rfl rfl rfl rfl (by kernel_rfl) Tryz.func7 (by kernel_rfl)
  (of_decide_eq_true (by kernel_rfl)) (by unfold Func.isWrapper;first|(rw[if_pos (by decide+kernel)];kernel_rfl)|(rw[if_neg (by decide+kernel)];exact⟨rfl,rfl⟩))
  (fun os started H enc _=>zgH os started H enc)
end Go.Proofs.YtbpmcjeeeiffhaaGreat
#print axioms Go.Proofs.YtbpmcjeeeiffhaaGreat.snapGoesOn_holds
