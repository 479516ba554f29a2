/- The given statement PacketBackSaid is proved of the program. No condition. -/
import Derived.Test.YtliimajkpggbhaaGreatRows
import Derived.Test.YtliimajkpggbhaaGreatPX
namespace Go.Proofs.YtliimajkpggbhaaGreat
open Go.Pk Go.ChangeShapes Go.WideShapes Go.RowKit
set_option maxRecDepth 100000
set_option linter.unusedSimpArgs false
theorem zl6:znN Tryz.prog 40 Tryz.f5.params.toList=some [.int .u8, .slice 1 (.int .u8), .slice 6 zkI,zeT, .int .u16, .int .u8]:=by kernel_rfl
theorem zjv:∀t∈Tryz.f5.params.toList,Tryz.prog.readableRec t=true∧t<Tryz.prog.types.size:=by
 have h:(Tryz.f5.params.toList.all fun t=>Tryz.prog.readableRec t&&decide (t<Tryz.prog.types.size))=true:=by kernel_rfl
 intro t ht
 have:=List.all_eq_true.1 h t ht
 simpa using this
theorem zl7:∀dss,zmp [.int .u8, .slice 1 (.int .u8), .slice 6 zkI,zeT, .int .u16, .int .u8] dss→CallOK Tryz.prog 5 (zer [.int .u8, .slice 1 (.int .u8), .slice 6 zkI,zeT, .int .u16, .int .u8] dss) (fun r o=>r=[.one (.d (.v (.bool true)))]∧o=[]):=by
 intro dss h
 obtain⟨d0,dss,rfl,h0,h⟩:=za7 h
 obtain⟨d1,dss,rfl,h1,h⟩:=za7 h
 obtain⟨d2,dss,rfl,h2,h⟩:=za7 h
 obtain⟨d3,dss,rfl,h3,h⟩:=za7 h
 obtain⟨d4,dss,rfl,h4,h⟩:=za7 h
 obtain⟨d5,dss,rfl,h5,h⟩:=za7 h
 obtain rfl:=zjI h
 obtain⟨x0,rfl,k0⟩:=byte_of _ h0
 obtain⟨x1,rfl,k1,m1⟩:=zvH _ h1
 obtain⟨x2,rfl,k2,m2⟩:=zp3 _ h2
 obtain⟨x3,rfl,k3⟩:=zl9 _ h3
 obtain⟨x4,rfl,k4⟩:=zAj _ h4
 obtain⟨x5,rfl,k5⟩:=byte_of _ h5
 have:=znf x0 x1 x2 x3 x4 x5 ⟨k0,k1,m1,k2,m2,k3⟩ k4 k5
 exact CallOK.le this (by simp[zer,zrL,zep,aLe,zvU,cLe])
theorem zkQ:ownKnob Tryz.prog.godebug=none:=by kernel_rfl
theorem zjw:laidOutB Tryz.prog=true:=by kernel_rfl
theorem zl8 {H:Type}:∀(ds:List (DataW H)),ds.length=Tryz.f5.params.size→(Rows.packetBackSpec.fn H ds).results=[.lit (.bool true)]∧(Rows.packetBackSpec.fn H ds).args=ds∧(Rows.packetBackSpec.fn H ds).vars=[]
 |[d0,d1,d2,d3,d4,d5],_=>⟨rfl,rfl,rfl⟩
 |[],h=>absurd h (by have e:Tryz.f5.params.size=6:=rfl;rw[e];simp)
 |[d0],h=>absurd h (by have e:Tryz.f5.params.size=6:=rfl;rw[e];simp)
 |[d0,d1],h=>absurd h (by have e:Tryz.f5.params.size=6:=rfl;rw[e];simp)
 |[d0,d1,d2],h=>absurd h (by have e:Tryz.f5.params.size=6:=rfl;rw[e];simp)
 |[d0,d1,d2,d3],h=>absurd h (by have e:Tryz.f5.params.size=6:=rfl;rw[e];simp)
 |[d0,d1,d2,d3,d4],h=>absurd h (by have e:Tryz.f5.params.size=6:=rfl;rw[e];simp)
 |_::_::_::_::_::_::_::_,h=>absurd h (by have e:Tryz.f5.params.size=6:=rfl;rw[e];simp)
theorem zic (os:Os) (started:os.Started) (H:Type) (enc:TypeId×Value→H):
  ReturnsInHanded {} Tryz.checked os 5 .any (Rows.packetBackSpec.pre6 enc Tryz.prog Tryz.f5 Rows.packetBackRow.domain false) (Rows.packetBackSpec.post enc Tryz.prog Tryz.f5 false true false false):=by
 refine returnsInHanded_of_change_sized (C:=Tryz.checked) zkQ started (by kernel_rfl) Tryz.func5
  (ChangeSpec.witness6 (enc:=enc) (C:=Tryz.checked) false ⟨#[], #[.int .u8 0, .slice none 0 0, .slice none 0 0, .agg #[.int .u8 0, .int .u8 0, .int .u8 0, .int .u8 0, .slice none 0 0], .int .u16 0, .int .u8 0],[]⟩ 8 (by kernel_rfl) (by kernel_rfl) (by kernel_rfl) (by kernel_rfl)) ?_
 intro W base args ds gs before hval hW _ hsz _
 exact zg4 (P:=Tryz.prog) (f:=5) (fn:=Tryz.f5) (s:=Rows.packetBackSpec) (n:=40) zl6 rfl zl8 (tb:=4) (by kernel_rfl) Tryz.underlying4 zjw zjv zl7 W base args ds gs before hval hW hsz
theorem packetBack_holds:Rows.PacketBackSaid:=
 OpenClaim.holds_of_wide 5 Tryz.f5 rfl rfl rfl rfl rfl rfl rfl ⟨rfl,rfl,rfl,rfl,rfl⟩ rfl rfl rfl rfl rfl (by kernel_rfl) Tryz.func5 (by kernel_rfl)
  (of_decide_eq_true (by kernel_rfl)) (by unfold Func.isWrapper;first|(rw[if_pos (by decide+kernel)];kernel_rfl)|(rw[if_neg (by decide+kernel)];exact⟨rfl,rfl⟩))
  (fun os started H enc _=>zic os started H enc)
end Go.Proofs.YtliimajkpggbhaaGreat
#print axioms Go.Proofs.YtliimajkpggbhaaGreat.packetBack_holds
