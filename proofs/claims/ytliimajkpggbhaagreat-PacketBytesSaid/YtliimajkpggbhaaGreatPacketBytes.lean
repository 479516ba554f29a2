/- The given statement PacketBytesSaid is proved of the program. No condition. -/
import Derived.Test.YtliimajkpggbhaaGreatRows
import Derived.Test.YtliimajkpggbhaaGreatQU
namespace Go.Proofs.YtliimajkpggbhaaGreat
open Go.Pk Go.ChangeShapes Go.WideShapes Go.RowKit
set_option maxRecDepth 100000
set_option linter.unusedSimpArgs false
theorem UY:yu Tryz.prog 40 Tryz.f4.params.toList=some [.slice 1 (.int .u8), .int .u8, .slice 1 (.int .u8), .slice 6 Ba,DM, .int .u16, .int .u8, .int .u16]:=by kernel_rfl
theorem US:∀t∈Tryz.f4.params.toList,Tryz.prog.readableRec t=true/\t<Tryz.prog.types.size:=by
 have h:(Tryz.f4.params.toList.all λ t=>Tryz.prog.readableRec t&&decide (t<Tryz.prog.types.size))=true:=by kernel_rfl
 intro t ht;have:=jh.1 h t ht;simpa using this
theorem UZ:∀dss,wa [.slice 1 (.int .u8), .int .u8, .slice 1 (.int .u8), .slice 6 Ba,DM, .int .u16, .int .u8, .int .u16] dss->ah Tryz.prog 4 (qm [.slice 1 (.int .u8), .int .u8, .slice 1 (.int .u8), .slice 6 Ba,DM, .int .u16, .int .u8, .int .u16] dss) (λ r o=>r=[.one (.d (.v (.bool true)))]/\o=[]):=by intro dss h;obtain⟨d0,dss,rfl,h0,h⟩:=uq h;obtain⟨d1,dss,rfl,h1,h⟩:=uq h;obtain⟨d2,dss,rfl,h2,h⟩:=uq h;obtain⟨d3,dss,rfl,h3,h⟩:=uq h;obtain⟨d4,dss,rfl,h4,h⟩:=uq h;obtain⟨d5,dss,rfl,h5,h⟩:=uq h;obtain⟨d6,dss,rfl,h6,h⟩:=uq h;obtain⟨d7,dss,rfl,h7,h⟩:=uq h;obtain rfl:=YR h;obtain⟨x0,rfl,k0,m0⟩:=HM _ h0;obtain⟨x1,rfl,k1⟩:=mS _ h1;obtain⟨x2,rfl,k2,m2⟩:=HM _ h2;obtain⟨x3,rfl,k3,m3⟩:=aaw _ h3;obtain⟨x4,rfl,k4⟩:=Z4 _ h4;obtain⟨x5,rfl,k5⟩:=MV _ h5;obtain⟨x6,rfl,k6⟩:=mS _ h6;obtain⟨x7,rfl,k7⟩:=MV _ h7;have:=U0 x0 k0 m0 x1 x2 x3 x4 x5 x6 x7 ⟨k1,k2,m2,k3,m3,k4⟩ k5 k6 k7;exact ah.le this (by simp[qm,D',ow,ud,ve,yQ])
theorem UU:ownKnob Tryz.prog.godebug=none:=by kernel_rfl
theorem UQ:laidOutB Tryz.prog=true:=by kernel_rfl
theorem UX {H:Type}:∀(ds:List (DataW H)),ds.length=Tryz.f4.params.size->(Rows.packetBytesSpec.fn H ds).results=[.lit (.bool true)]/\(Rows.packetBytesSpec.fn H ds).args=ds/\(Rows.packetBytesSpec.fn H ds).vars=[]
 |[d0,d1,d2,d3,d4,d5,d6,d7],_=>⟨rfl,rfl,rfl⟩
 |[],h=>absurd h (by have e:Tryz.f4.params.size=8:=rfl;rw[e];simp)
 |[d0],h=>absurd h (by have e:Tryz.f4.params.size=8:=rfl;rw[e];simp)
 |[d0,d1],h=>absurd h (by have e:Tryz.f4.params.size=8:=rfl;rw[e];simp)
 |[d0,d1,d2],h=>absurd h (by have e:Tryz.f4.params.size=8:=rfl;rw[e];simp)
 |[d0,d1,d2,d3],h=>absurd h (by have e:Tryz.f4.params.size=8:=rfl;rw[e];simp)
 |[d0,d1,d2,d3,d4],h=>absurd h (by have e:Tryz.f4.params.size=8:=rfl;rw[e];simp)
 |[d0,d1,d2,d3,d4,d5],h=>absurd h (by have e:Tryz.f4.params.size=8:=rfl;rw[e];simp)
 |[d0,d1,d2,d3,d4,d5,d6],h=>absurd h (by have e:Tryz.f4.params.size=8:=rfl;rw[e];simp)
 |_::_::_::_::_::_::_::_::_::_,h=>absurd h (by have e:Tryz.f4.params.size=8:=rfl;rw[e];simp)
theorem UP (os:Os) (started:os.Started) (H:Type) (enc:TypeId×Value->H):
  ReturnsInHanded {} Tryz.checked os 4 .any (Rows.packetBytesSpec.pre6 enc Tryz.prog Tryz.f4 Rows.packetBytesRow.domain false) (Rows.packetBytesSpec.post enc Tryz.prog Tryz.f4 false true false false):=by
 refine returnsInHanded_of_change_sized (C:=Tryz.checked) UU started (by kernel_rfl) Tryz.func4
  (ChangeSpec.witness6 (enc:=enc) (C:=Tryz.checked) false ⟨#[], #[.slice none 0 0, .int .u8 0, .slice none 0 0, .slice none 0 0, .agg #[.int .u8 0, .int .u8 0, .int .u8 0, .int .u8 0, .slice none 0 0], .int .u16 0, .int .u8 0, .int .u16 0],[]⟩ 8 (by kernel_rfl) (by kernel_rfl) (by kernel_rfl) (by kernel_rfl)) ?_
 intro W base args ds gs before hval hW _ hsz _;exact VC (P:=Tryz.prog) (f:=4) (fn:=Tryz.f4) (s:=Rows.packetBytesSpec) (n:=40) UY rfl UX (tb:=4) (by kernel_rfl) Tryz.underlying4 UQ US UZ W base args ds gs before hval hW hsz
theorem packetBytes_holds:Rows.PacketBytesSaid:=
 OpenClaim.holds_of_wide 4 Tryz.f4 rfl rfl rfl rfl rfl rfl rfl ⟨rfl,rfl,rfl,rfl,rfl⟩ rfl rfl rfl rfl rfl (by kernel_rfl) Tryz.func4 (by kernel_rfl)
  (of_decide_eq_true (by kernel_rfl)) (by unfold Func.isWrapper;first|(rw[aj (by decide+kernel)];kernel_rfl)|(rw[aa (by decide+kernel)];exact⟨rfl,rfl⟩))
  (λ os started H enc _=>UP os started H enc)
end Go.Proofs.YtliimajkpggbhaaGreat
#print axioms Go.Proofs.YtliimajkpggbhaaGreat.packetBytes_holds
