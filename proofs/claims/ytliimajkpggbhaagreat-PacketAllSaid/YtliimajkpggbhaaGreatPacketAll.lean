/- The given statement PacketAllSaid is proved of the program. No condition. -/
import Derived.Test.YtliimajkpggbhaaGreatRows
import Derived.Test.YtliimajkpggbhaaGreatTP
namespace Go.Proofs.YtliimajkpggbhaaGreat
open Go.Pk Go.ChangeShapes Go.WideShapes Go.RowKit
set_option maxRecDepth 100000
set_option linter.unusedSimpArgs false
theorem zkT:zoy Tryz.prog 40 Tryz.f3.params.toList=some [zrB]:=by kernel_rfl
theorem ziU:∀t∈Tryz.f3.params.toList,Tryz.prog.readableRec t=true∧t<Tryz.prog.types.size:=by
 have h:(Tryz.f3.params.toList.all fun t=>Tryz.prog.readableRec t&&decide (t<Tryz.prog.types.size))=true:=by kernel_rfl
 intro t ht
 have:=List.all_eq_true.1 h t ht
 simpa using this
theorem zkU:∀dss,zmI [zrB] dss→CallOK Tryz.prog 3 (zeN [zrB] dss) (fun r o=>r=[.one (.d (.v (.bool true)))]∧o=[]):=by
 intro dss h
 obtain⟨d0,dss,rfl,h0,h⟩:=zon h
 obtain rfl:=zpF h
 obtain⟨x0,rfl,k0⟩:=zvO _ h0
 have:=zkX x0 k0
 exact CallOK.le this (by simp[zeN,zr4,zdZ,aLe,ztE,cLe])
theorem zjU:ownKnob Tryz.prog.godebug=none:=by kernel_rfl
theorem ziV:laidOutB Tryz.prog=true:=by kernel_rfl
theorem zkV {H:Type}:∀(ds:List (DataW H)),ds.length=Tryz.f3.params.size→(Rows.packetAllSpec.fn H ds).results=[.lit (.bool true)]∧(Rows.packetAllSpec.fn H ds).args=ds∧(Rows.packetAllSpec.fn H ds).vars=[]
 |[d0],_=>⟨rfl,rfl,rfl⟩
 |[],h=>absurd h (by have e:Tryz.f3.params.size=1:=rfl;rw[e];simp)
 |_::_::_,h=>absurd h (by have e:Tryz.f3.params.size=1:=rfl;rw[e];simp)
theorem zhl (os:Os) (started:os.Started) (H:Type) (enc:TypeId×Value→H):
  ReturnsInHanded {} Tryz.checked os 3 .any (Rows.packetAllSpec.pre6 enc Tryz.prog Tryz.f3 Rows.packetAllRow.domain false) (Rows.packetAllSpec.post enc Tryz.prog Tryz.f3 false true false false):=by
 refine returnsInHanded_of_change_sized (C:=Tryz.checked) zjU started (by kernel_rfl) Tryz.func3
  (ChangeSpec.witness6 (enc:=enc) (C:=Tryz.checked) false ⟨#[], #[.agg #[.int .i64 0, .int .i64 0, .int .i64 0, .int .i64 0, .int .i64 0, .int .i64 0, .int .i64 0, .int .i64 0, .string .empty, .int .i64 0, .int .i64 0, .int .i64 0, .int .i64 0, .int .i64 0, .slice none 0 0, .bool false, .int .i64 0, .int .i64 0, .int .i64 0, .int .i64 0, .slice none 0 0, .int .i64 0, .int .i64 0, .int .i64 0, .int .i64 0, .int .i64 0, .slice none 0 0, .int .i64 0, .int .i64 0, .int .i64 0, .int .i64 0, .int .i64 0, .int .i64 0, .slice none 0 0, .slice none 0 0, .slice none 0 0]],[]⟩ 8 (by kernel_rfl) (by kernel_rfl) (by kernel_rfl) (by kernel_rfl)) ?_
 intro W base args ds gs before hval hW _ hsz _
 exact zmJ (P:=Tryz.prog) (f:=3) (fn:=Tryz.f3) (s:=Rows.packetAllSpec) (n:=40) zkT rfl zkV (tb:=4) (by kernel_rfl) Tryz.underlying4 ziV ziU zkU W base args ds gs before hval hW hsz
theorem packetAll_holds:Rows.PacketAllSaid:=
 OpenClaim.holds_of_wide 3 Tryz.f3 rfl rfl rfl rfl rfl rfl rfl ⟨rfl,rfl,rfl,rfl,rfl⟩ rfl rfl rfl rfl rfl (by kernel_rfl) Tryz.func3 (by kernel_rfl)
  (of_decide_eq_true (by kernel_rfl)) (by unfold Func.isWrapper;first|(rw[if_pos (by decide+kernel)];kernel_rfl)|(rw[if_neg (by decide+kernel)];exact⟨rfl,rfl⟩))
  (fun os started H enc _=>zhl os started H enc)
end Go.Proofs.YtliimajkpggbhaaGreat
#print axioms Go.Proofs.YtliimajkpggbhaaGreat.packetAll_holds
