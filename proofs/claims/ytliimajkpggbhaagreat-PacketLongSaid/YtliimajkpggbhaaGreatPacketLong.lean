/- The given statement PacketLongSaid is proved of the program. No condition. -/
import Derived.Test.YtliimajkpggbhaaGreatRows
import Derived.Test.YtliimajkpggbhaaGreatTYS
namespace Go.Proofs.YtliimajkpggbhaaGreat
open Go.Pk Go.ChangeShapes Go.WideShapes Go.RowKit
set_option maxRecDepth 100000
set_option linter.unusedSimpArgs false
theorem ziG:zm4 Tryz.prog 40 Tryz.f8.params.toList=some [.int .u16, .int .u8]:=by kernel_rfl
theorem zgJ:∀t∈Tryz.f8.params.toList,Tryz.prog.readableRec t=true∧t<Tryz.prog.types.size:=by
 have h:(Tryz.f8.params.toList.all fun t=>Tryz.prog.readableRec t&&decide (t<Tryz.prog.types.size))=true:=by kernel_rfl
 intro t ht
 have:=List.all_eq_true.1 h t ht
 simpa using this
theorem ziH:∀dss,zln [.int .u16, .int .u8] dss→CallOK Tryz.prog 8 (zd5 [.int .u16, .int .u8] dss) (fun r o=>r=[.one (.d (.v (.bool true)))]∧o=[]):=by
 intro dss h
 obtain⟨d0,dss,rfl,h0,h⟩:=zhT h
 obtain⟨d1,dss,rfl,h1,h⟩:=zhT h
 obtain rfl:=znY h
 obtain⟨x0,rfl,k0⟩:=zsl _ h0
 obtain⟨x1,rfl,k1⟩:=byte_of _ h1
 have:=zjr x0 x1 k0 k1
 exact CallOK.le this (by simp[zd5,zqk,zdp,aLe,zrO,cLe])
theorem zhH:ownKnob Tryz.prog.godebug=none:=by kernel_rfl
theorem zgK:laidOutB Tryz.prog=true:=by kernel_rfl
theorem ziI {H:Type}:∀(ds:List (DataW H)),ds.length=Tryz.f8.params.size→(Rows.packetLongSpec.fn H ds).results=[.lit (.bool true)]∧(Rows.packetLongSpec.fn H ds).args=ds∧(Rows.packetLongSpec.fn H ds).vars=[]
 |[d0,d1],_=>⟨rfl,rfl,rfl⟩
 |[],h=>absurd h (by have e:Tryz.f8.params.size=2:=rfl;rw[e];simp)
 |[d0],h=>absurd h (by have e:Tryz.f8.params.size=2:=rfl;rw[e];simp)
 |_::_::_::_,h=>absurd h (by have e:Tryz.f8.params.size=2:=rfl;rw[e];simp)
theorem zfR (os:Os) (started:os.Started) (H:Type) (enc:TypeId×Value→H):
  ReturnsInHanded {} Tryz.checked os 8 .any (Rows.packetLongSpec.pre6 enc Tryz.prog Tryz.f8 Rows.packetLongRow.domain false) (Rows.packetLongSpec.post enc Tryz.prog Tryz.f8 false true false false):=by
 refine returnsInHanded_of_change_sized (C:=Tryz.checked) zhH started (by kernel_rfl) Tryz.func8
  (ChangeSpec.witness6 (enc:=enc) (C:=Tryz.checked) false ⟨#[], #[.int .u16 0, .int .u8 0],[]⟩ 8 (by kernel_rfl) (by kernel_rfl) (by kernel_rfl) (by kernel_rfl)) ?_
 intro W base args ds gs before hval hW _ hsz _
 exact zlo (P:=Tryz.prog) (f:=8) (fn:=Tryz.f8) (s:=Rows.packetLongSpec) (n:=40) ziG rfl ziI (tb:=4) (by kernel_rfl) Tryz.underlying4 zgK zgJ ziH W base args ds gs before hval hW hsz
theorem packetLong_holds:Rows.PacketLongSaid:=
 OpenClaim.holds_of_wide 8 Tryz.f8 rfl rfl rfl rfl rfl rfl rfl ⟨rfl,rfl,rfl,rfl,rfl⟩ rfl rfl rfl rfl rfl (by kernel_rfl) Tryz.func8 (by kernel_rfl)
  (of_decide_eq_true (by kernel_rfl)) (by unfold Func.isWrapper;first|(rw[if_pos (by decide+kernel)];kernel_rfl)|(rw[if_neg (by decide+kernel)];exact⟨rfl,rfl⟩))
  (fun os started H enc _=>zfR os started H enc)
end Go.Proofs.YtliimajkpggbhaaGreat
#print axioms Go.Proofs.YtliimajkpggbhaaGreat.packetLong_holds
