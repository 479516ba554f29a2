import Derived.Test.YtniafckaafcpbaaGreatRows
import Derived.Test.YtniafckaafcpbaaGreatVN
import Derived.Test.YtniafckaafcpbaaGreatTY
namespace Go.Proofs.YtniafckaafcpbaaGreat
open Go.Pk Go.ChangeShapes Go.WideShapes Go.RowKit
set_option maxRecDepth 100000
set_option linter.unusedSimpArgs false
theorem zfn:shAll Tryz.prog 40 Tryz.f6.params.toList=some [.slice 6 shAct, .int .u8, .int .u8, .int .u8]:=by kernel_rfl
theorem zen:∀t∈Tryz.f6.params.toList,Tryz.prog.readableRec t=true∧t<Tryz.prog.types.size:=by
 have h:(Tryz.f6.params.toList.all fun t=>Tryz.prog.readableRec t&&decide (t<Tryz.prog.types.size))=true:=by kernel_rfl
 intro t ht
 have:=List.all_eq_true.1 h t ht
 simpa using this
theorem zfo:∀dss,ShAll [.slice 6 shAct, .int .u8, .int .u8, .int .u8] dss→CallOK Tryz.prog 6 (argsOf [.slice 6 shAct, .int .u8, .int .u8, .int .u8] dss) (fun r o=>r=[.one (.d (.v (.bool true)))]∧o=[]):=by
 intro dss h
 obtain⟨d0,dss,rfl,h0,h⟩:=zc0 h
 obtain⟨d1,dss,rfl,h1,h⟩:=zc0 h
 obtain⟨d2,dss,rfl,h2,h⟩:=zc0 h
 obtain⟨d3,dss,rfl,h3,h⟩:=zc0 h
 obtain rfl:=zj2 h
 obtain⟨x0,rfl,k0,m0⟩:=zng _ h0
 obtain⟨x1,rfl,k1⟩:=byte_of _ h1
 obtain⟨x2,rfl,k2⟩:=byte_of _ h2
 obtain⟨x3,rfl,k3⟩:=byte_of _ h3
 have:=zfq x0 k0 m0 x1 x2 x3 k1 k2 k3
 exact CallOK.le this (by simp[argsOf,argOf,argsLe,aLe,csLe,cLe])
theorem zeH:ownKnob Tryz.prog.godebug=none:=by kernel_rfl
theorem zeo:laidOutB Tryz.prog=true:=by kernel_rfl
theorem zfp {H:Type}:∀(ds:List (DataW H)),ds.length=Tryz.f6.params.size→(Rows.autoExpiresSpec.fn H ds).results=[.lit (.bool true)]∧(Rows.autoExpiresSpec.fn H ds).args=ds∧(Rows.autoExpiresSpec.fn H ds).vars=[]
 |[d0,d1,d2,d3],_=>⟨rfl,rfl,rfl⟩
 |[],h=>absurd h (by have e:Tryz.f6.params.size=4:=rfl;rw[e];simp)
 |[d0],h=>absurd h (by have e:Tryz.f6.params.size=4:=rfl;rw[e];simp)
 |[d0,d1],h=>absurd h (by have e:Tryz.f6.params.size=4:=rfl;rw[e];simp)
 |[d0,d1,d2],h=>absurd h (by have e:Tryz.f6.params.size=4:=rfl;rw[e];simp)
 |_::_::_::_::_::_,h=>absurd h (by have e:Tryz.f6.params.size=4:=rfl;rw[e];simp)
theorem zdA (os:Os) (started:os.Started) (H:Type) (enc:TypeId×Value→H):
  ReturnsInHanded {} Tryz.checked os 6 .any (Rows.autoExpiresSpec.pre6 enc Tryz.prog Tryz.f6 Rows.autoExpiresRow.domain false) (Rows.autoExpiresSpec.post enc Tryz.prog Tryz.f6 false true false false):=by
 refine returnsInHanded_of_change_sized (C:=Tryz.checked) zeH started (by kernel_rfl) Tryz.func6
  (ChangeSpec.witness6 (enc:=enc) (C:=Tryz.checked) false ⟨#[], #[.slice none 0 0, .int .u8 0, .int .u8 0, .int .u8 0],[]⟩ 8 (by kernel_rfl) (by kernel_rfl) (by kernel_rfl) (by kernel_rfl)) ?_
 intro W base args ds gs before hval hW _ hsz _
 exact zh7 (P:=Tryz.prog) (f:=6) (fn:=Tryz.f6) (s:=Rows.autoExpiresSpec) (n:=40) zfn rfl zfp (tb:=4) (by kernel_rfl) Tryz.underlying4 zeo zen zfo W base args ds gs before hval hW hsz
theorem autoExpires_holds:Rows.AutoExpiresSaid:=
 OpenClaim.holds_of_wide 6 Tryz.f6 rfl rfl rfl rfl rfl rfl rfl ⟨rfl,rfl,rfl,rfl,rfl⟩ rfl rfl rfl rfl rfl (by kernel_rfl) Tryz.func6 (by kernel_rfl)
  (of_decide_eq_true (by kernel_rfl)) (by unfold Func.isWrapper;first|(rw[if_pos (by decide+kernel)];kernel_rfl)|(rw[if_neg (by decide+kernel)];exact⟨rfl,rfl⟩))
  (fun os started H enc _=>zdA os started H enc)
end Go.Proofs.YtniafckaafcpbaaGreat
#print axioms Go.Proofs.YtniafckaafcpbaaGreat.autoExpires_holds
