import Derived.Test.YtniafckaafcpbaaGreatRows
import Derived.Test.YtniafckaafcpbaaGreatVS
import Derived.Test.YtniafckaafcpbaaGreatTZ
namespace Go.Proofs.YtniafckaafcpbaaGreat
open Go.Pk Go.ChangeShapes Go.WideShapes Go.RowKit
set_option maxRecDepth 100000
set_option linter.unusedSimpArgs false
theorem zjb:shAll Tryz.prog 40 Tryz.f4.params.toList=some [shState,shReq, .int .i64, .int .i64]:=by kernel_rfl
theorem zgC:∀t∈Tryz.f4.params.toList,Tryz.prog.readableRec t=true∧t<Tryz.prog.types.size:=by
 have h:(Tryz.f4.params.toList.all fun t=>Tryz.prog.readableRec t&&decide (t<Tryz.prog.types.size))=true:=by kernel_rfl
 intro t ht
 have:=List.all_eq_true.1 h t ht
 simpa using this
theorem zjc:∀dss,ShAll [shState,shReq, .int .i64, .int .i64] dss→CallOK Tryz.prog 4 (argsOf [shState,shReq, .int .i64, .int .i64] dss) (fun r o=>r=[.one (.d (.v (.bool true)))]∧o=[]):=by
 intro dss h
 obtain⟨d0,dss,rfl,h0,h⟩:=zc0 h
 obtain⟨d1,dss,rfl,h1,h⟩:=zc0 h
 obtain⟨d2,dss,rfl,h2,h⟩:=zc0 h
 obtain⟨d3,dss,rfl,h3,h⟩:=zc0 h
 obtain rfl:=zkl h
 obtain⟨x0,rfl,k0⟩:=zlE _ h0
 obtain⟨x1,rfl,k1⟩:=zn8 _ h1
 obtain⟨x2,rfl,k2⟩:=zcb _ h2
 obtain⟨x3,rfl,k3⟩:=zcb _ h3
 have:=zje x0 k0 x1 k1 x2 x3
 exact CallOK.le this (by simp[argsOf,argOf,argsLe,aLe,csLe,cLe])
theorem zhS:ownKnob Tryz.prog.godebug=none:=by kernel_rfl
theorem zgD:laidOutB Tryz.prog=true:=by kernel_rfl
theorem zjd {H:Type}:∀(ds:List (DataW H)),ds.length=Tryz.f4.params.size→(Rows.autoRawSpec.fn H ds).results=[.lit (.bool true)]∧(Rows.autoRawSpec.fn H ds).args=ds∧(Rows.autoRawSpec.fn H ds).vars=[]
 |[d0,d1,d2,d3],_=>⟨rfl,rfl,rfl⟩
 |[],h=>absurd h (by have e:Tryz.f4.params.size=4:=rfl;rw[e];simp)
 |[d0],h=>absurd h (by have e:Tryz.f4.params.size=4:=rfl;rw[e];simp)
 |[d0,d1],h=>absurd h (by have e:Tryz.f4.params.size=4:=rfl;rw[e];simp)
 |[d0,d1,d2],h=>absurd h (by have e:Tryz.f4.params.size=4:=rfl;rw[e];simp)
 |_::_::_::_::_::_,h=>absurd h (by have e:Tryz.f4.params.size=4:=rfl;rw[e];simp)
theorem zfi (os:Os) (started:os.Started) (H:Type) (enc:TypeId×Value→H):
  ReturnsInHanded {} Tryz.checked os 4 .any (Rows.autoRawSpec.pre6 enc Tryz.prog Tryz.f4 Rows.autoRawRow.domain false) (Rows.autoRawSpec.post enc Tryz.prog Tryz.f4 false true false false):=by
 refine returnsInHanded_of_change_sized (C:=Tryz.checked) zhS started (by kernel_rfl) Tryz.func4
  (ChangeSpec.witness6 (enc:=enc) (C:=Tryz.checked) false ⟨#[], #[.agg #[.int .i64 0, .int .i64 0, .int .i64 0, .slice none 0 0, .slice none 0 0, .slice none 0 0], .agg #[.int .i64 0, .int .i64 0, .int .i64 0, .int .i64 0, .string .empty], .int .i64 0, .int .i64 0],[]⟩ 8 (by kernel_rfl) (by kernel_rfl) (by kernel_rfl) (by kernel_rfl)) ?_
 intro W base args ds gs before hval hW _ hsz _
 exact zh7 (P:=Tryz.prog) (f:=4) (fn:=Tryz.f4) (s:=Rows.autoRawSpec) (n:=40) zjb rfl zjd (tb:=4) (by kernel_rfl) Tryz.underlying4 zgD zgC zjc W base args ds gs before hval hW hsz
theorem autoRaw_holds:Rows.AutoRawSaid:=
 OpenClaim.holds_of_wide 4 Tryz.f4 rfl rfl rfl rfl rfl rfl rfl ⟨rfl,rfl,rfl,rfl,rfl⟩ rfl rfl rfl rfl rfl (by kernel_rfl) Tryz.func4 (by kernel_rfl)
  (of_decide_eq_true (by kernel_rfl)) (by unfold Func.isWrapper;first|(rw[if_pos (by decide+kernel)];kernel_rfl)|(rw[if_neg (by decide+kernel)];exact⟨rfl,rfl⟩))
  (fun os started H enc _=>zfi os started H enc)
end Go.Proofs.YtniafckaafcpbaaGreat
#print axioms Go.Proofs.YtniafckaafcpbaaGreat.autoRaw_holds
