/- The given statement ExecRestoreSaid is proved of the program. No condition. -/
import Derived.Test.YtngleemijkaeoaaGreatRows
import Derived.Test.YtngleemijkaeoaaGreatEO
namespace Go.Proofs.YtngleemijkaeoaaGreat
open Go.Pk Go.ChangeShapes Go.WideShapes Go.RowKit
set_option maxRecDepth 100000
set_option linter.unusedSimpArgs false
theorem zib:zkZ Tryz.prog 40 Tryz.f7.params.toList=some [.slice 6 zoA, .int .u8, .int .u8, .int .u8, .int .u8, .int .u8]:=by kernel_rfl
theorem zgE:∀t∈Tryz.f7.params.toList,Tryz.prog.readableRec t=true∧t<Tryz.prog.types.size:=by
 have h:(Tryz.f7.params.toList.all fun t=>Tryz.prog.readableRec t&&decide (t<Tryz.prog.types.size))=true:=by kernel_rfl
 intro t ht
 have:=List.all_eq_true.1 h t ht
 simpa using this
theorem zic:∀dss,zjz [.slice 6 zoA, .int .u8, .int .u8, .int .u8, .int .u8, .int .u8] dss→CallOK Tryz.prog 7 (zda [.slice 6 zoA, .int .u8, .int .u8, .int .u8, .int .u8, .int .u8] dss) (fun r o=>r=[.one (.d (.v (.bool true)))]∧o=[]):=by
 intro dss h
 obtain⟨d0,dss,rfl,h0,h⟩:=zbX h
 obtain⟨d1,dss,rfl,h1,h⟩:=zbX h
 obtain⟨d2,dss,rfl,h2,h⟩:=zbX h
 obtain⟨d3,dss,rfl,h3,h⟩:=zbX h
 obtain⟨d4,dss,rfl,h4,h⟩:=zbX h
 obtain⟨d5,dss,rfl,h5,h⟩:=zbX h
 obtain rfl:=zhm h
 obtain⟨x0,rfl,k0,m0⟩:=zqI _ h0
 obtain⟨x1,rfl,k1⟩:=byte_of _ h1
 obtain⟨x2,rfl,k2⟩:=byte_of _ h2
 obtain⟨x3,rfl,k3⟩:=byte_of _ h3
 obtain⟨x4,rfl,k4⟩:=byte_of _ h4
 obtain⟨x5,rfl,k5⟩:=byte_of _ h5
 have:=zii x0 k0 m0 x1 x2 x3 k1 k2 k3 x4 k4 x5
 exact CallOK.le this (by simp[zda,zn9,zbZ,aLe,zjt,cLe])
theorem zg6:ownKnob Tryz.prog.godebug=none:=by kernel_rfl
theorem zgF:laidOutB Tryz.prog=true:=by kernel_rfl
theorem zid {H:Type}:∀(ds:List (DataW H)),ds.length=Tryz.f7.params.size→(Rows.execRestoreSpec.fn H ds).results=[.lit (.bool true)]∧(Rows.execRestoreSpec.fn H ds).args=ds∧(Rows.execRestoreSpec.fn H ds).vars=[]
 |[d0,d1,d2,d3,d4,d5],_=>⟨rfl,rfl,rfl⟩
 |[],h=>absurd h (by have e:Tryz.f7.params.size=6:=rfl;rw[e];simp)
 |[d0],h=>absurd h (by have e:Tryz.f7.params.size=6:=rfl;rw[e];simp)
 |[d0,d1],h=>absurd h (by have e:Tryz.f7.params.size=6:=rfl;rw[e];simp)
 |[d0,d1,d2],h=>absurd h (by have e:Tryz.f7.params.size=6:=rfl;rw[e];simp)
 |[d0,d1,d2,d3],h=>absurd h (by have e:Tryz.f7.params.size=6:=rfl;rw[e];simp)
 |[d0,d1,d2,d3,d4],h=>absurd h (by have e:Tryz.f7.params.size=6:=rfl;rw[e];simp)
 |_::_::_::_::_::_::_::_,h=>absurd h (by have e:Tryz.f7.params.size=6:=rfl;rw[e];simp)
theorem zfr (os:Os) (started:os.Started) (H:Type) (enc:TypeId×Value→H):
  ReturnsInHanded {} Tryz.checked os 7 .any (Rows.execRestoreSpec.pre6 enc Tryz.prog Tryz.f7 Rows.execRestoreRow.domain false) (Rows.execRestoreSpec.post enc Tryz.prog Tryz.f7 false true false false):=by
 refine returnsInHanded_of_change_sized (C:=Tryz.checked) zg6 started (by kernel_rfl) Tryz.func7
  (ChangeSpec.witness6 (enc:=enc) (C:=Tryz.checked) false ⟨#[], #[.slice none 0 0, .int .u8 0, .int .u8 0, .int .u8 0, .int .u8 0, .int .u8 0],[]⟩ 8 (by kernel_rfl) (by kernel_rfl) (by kernel_rfl) (by kernel_rfl)) ?_
 intro W base args ds gs before hval hW _ hsz _
 exact zfj (P:=Tryz.prog) (f:=7) (fn:=Tryz.f7) (s:=Rows.execRestoreSpec) (n:=40) zib rfl zid (tb:=4) (by kernel_rfl) Tryz.underlying4 zgF zgE zic W base args ds gs before hval hW hsz
theorem execRestore_holds:Rows.ExecRestoreSaid:=
 OpenClaim.holds_of_wide 7 Tryz.f7 rfl rfl rfl rfl rfl rfl rfl ⟨rfl,rfl,rfl,rfl,rfl⟩ rfl rfl rfl rfl rfl (by kernel_rfl) Tryz.func7 (by kernel_rfl)
  (of_decide_eq_true (by kernel_rfl)) (by unfold Func.isWrapper;first|(rw[if_pos (by decide+kernel)];kernel_rfl)|(rw[if_neg (by decide+kernel)];exact⟨rfl,rfl⟩))
  (fun os started H enc _=>zfr os started H enc)
end Go.Proofs.YtngleemijkaeoaaGreat
#print axioms Go.Proofs.YtngleemijkaeoaaGreat.execRestore_holds
