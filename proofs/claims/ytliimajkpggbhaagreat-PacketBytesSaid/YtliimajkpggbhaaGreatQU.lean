import Derived.Test.YtliimajkpggbhaaGreatK9
import Derived.Test.YtliimajkpggbhaaGreatTT
set_option maxHeartbeats 8000000
namespace Go.Proofs.YtliimajkpggbhaaGreat
open Go.Pk Tryz
set_option maxRecDepth 100000
set_option linter.unusedSimpArgs false
set_option linter.unusedVariables false
theorem aas {p:cf} (h:gm p=true):3≤(lr p).length:=by
 have ho:=(z7 h).1;obtain⟨kind,aA,slot,done,ba,aV,aJ,prom,snap⟩:=p;rcases kinds kind with rfl|rfl|rfl|rfl|rfl|rfl|rfl|rfl|rfl|⟨k1,k2,k3,k4,k5,k6,k7,k8,k9⟩
 .show 3≤([1]++gj ba).length;simp[gj,cg];omega
 .show 3≤([2]++fE aV).length;simp[fE,cg];omega
 .show 3≤([3]++bp [aA]).length;simp[bp,cg]
 .show 3≤([4]++(bp [aA]++i9 prom)).length;simp[bp,cg];omega
 .show 3≤([5]++(bp [aA,slot]++dB aJ)).length;simp[bp,cg];omega
 .show 3≤([6]++(bp [aA,slot]++dB aJ)).length;simp[bp,cg];omega
 .show 3≤([7]++bp [aA,done]).length;simp[bp,cg]
 .show 3≤([8]++bp [done]).length;simp[bp,cg]
 .show 3≤([9]++ie snap).length;simp[ie,cg];omega
 .simp only[kU,kt]at k1 k2 k3 k4 k5 k6 k7 k8 k9;unfold qQ at ho;simp only[k1,k2,k3,k4,k5,k6,k7,k8,k9,cE]at ho;cases ho
theorem Zc (a b:Int):aO (IntKind.u8.wrap ((BitVec.ofInt 8 a^^^BitVec.ofInt 8 b).toNat:Int)):=by
 have e:∀v:Int,IntKind.u8.wrap v=v % 256:=λ v=>by unfold IntKind.wrap;simp[IntKind.bits,IntKind.signed]
 unfold aO;rw[e];omega
theorem U0 (raw:List Int) (hrl:raw.length<2^60) (hrb:∀x∈raw,aO x) (kind:Int) (ns:List Int) (bO:List Act) (told:mD) (at0 by0 cut:Int) (h:(ub.mk kind ns bO told).ok) (hat:sY at0) (hby:aO by0) (hcut:sY cut):
  ah prog 4 [.f (de raw.length (ag raw)), .f (au kind), .f (al ns.length (ag ns)), .f (al bO.length (tE bO)), .f (.agg told.aC), .f (aw at0), .f (au by0), .f (aw cut)] (λ r o=>r=[rb true]/\o=[]):=by
 refine zh func4 results4 ntmps4 call4 ?_;simp only[f4,Option.getD];have haw:=Wh;cases hl:decide ((raw.length:Int)>3000)
 case true=>repeat'(first|exact zC|refine zq hl ?_|refine zx (haw) ?_|(apply aq<;>intro hb)|(apply I;exact zI)|(apply I<;>intro hg))
 case false=>
 have hrs:bu raw:=⟨hrl,hrb⟩;have a1:=Cv raw hrs (by simp at hl;omega);have a2:=M9 raw hrs;rw[KF hrs]at a2;have ga:=ML hrs;generalize pN raw=G at*;have sg:=Dw G.1 G.1 ga ga;rw[LU]at sg;have c1:=aaG _ h;have m1:=X5 _ h;have o1:=YU _ h;simp only at c1;generalize cT ⟨kind,ns,bO,told⟩=P at*;have l1:=aaU m1;have l3:=aas m1;have hb:=ac0 m1;have p1:=WT P o1 m1;generalize lr P=B at*;have hz1:((B.length:Int)==0)=false:=by
  have:B.length≠0:=by omega
  simpa using λ q=>this (by rw[q];rfl)
 have ht1:(ag B).take B.length=ag B:=dD;have hNl:(ag B).length=B.length:=by simp
 have hl47:(B.length≤2^47)=True:=b5 (by omega);have hl0:((B.length:Int)=0)=False:=eq_false (by omega);have hw16:IntKind.i64.wrap at0=at0:=by unfold sY at hat;exact wrap64 (by omega) (by omega)
 have hw17:IntKind.i64.wrap cut=cut:=by unfold sY at hcut;exact wrap64 (by omega) (by omega)
 obtain⟨k,hk,hkl⟩:∃k:Nat,at0.tmod (B.length:Int)=(k:Int)/\k<B.length:=by
  unfold sY at hat;refine⟨(at0.tmod (B.length:Int)).toNat, ?_, ?_⟩
  .rw[yp (Int.tmod_nonneg _ hat.1)]
  .have:=Int.tmod_lt_of_pos at0 (b:=(B.length:Int)) (by omega);have:=Int.tmod_nonneg (B.length:Int) hat.1;omega
 obtain⟨m,hm,hm3⟩:∃m:Nat,cut.tmod 3=(m:Int)/\m<3:=by
  unfold sY at hcut;refine⟨(cut.tmod 3).toNat, ?_, ?_⟩
  .rw[yp (Int.tmod_nonneg _ hcut.1)]
  .have:=Int.tmod_lt_of_pos cut (b:=3) (by omega);have:=Int.tmod_nonneg 3 hcut.1;omega
 have hatk:=oR hkl;have hatc:List.drop k (List.map C.d (ag B))=C.d (uD (B.getD k 0))::List.map C.d (ag (List.drop (k+1) B)):=by rw[←la,hatk];rfl
 have hw18:IntKind.i64.wrap ((B.length:Int) - (m:Int))=((B.length - m:Nat):Int):=by rw[wrap64 (by omega) (by omega)];omega
 have hkle:(k≤B.length)=True:=b5 (by omega);have hmle:(B.length - m≤B.length)=True:=b5 (by omega);have hz:=Zc (B.getD k 0) by0;generalize hzd:IntKind.u8.wrap ((BitVec.ofInt 8 (B.getD k 0)^^^BitVec.ofInt 8 by0).toNat:Int)=z at hz;have hzd2:IntKind.u8.wrap ((BitVec.ofInt IntKind.u8.bits (B.getD k 0)^^^BitVec.ofInt IntKind.u8.bits by0).toNat:Int)=z:=hzd;have hset:(List.map C.d (ag B)).set k (C.d (D.v (Value.int .u8 z)))=List.map C.d (ag (B.set k z)):=by simp only[ag,List.map_set]
 have hEl:(B.set k z).length=B.length:=u6;have hEb:∀x∈B.set k z,aO x:=λ x hx=>by
  rcases Bf hx with hx|rfl
  .exact hb x hx
  .exact hz
 have d1:((B.set k z).take (B.length - m)).length=B.length - m:=by rw[cu];omega
 have d2:ag ((B.set k z).take (B.length - m))=(ag (B.set k z)).take (B.length - m):=by simp only[ag,tj]
 have hDs:bu ((B.set k z).take (B.length - m)):=⟨by omega,λ x hx=>hEb x (jm hx)⟩;have b1:=Cv _ hDs (by omega);have b2:=M9 _ hDs;rw[KF hDs]at b2;have gb:=ML hDs;generalize pN ((B.set k z).take (B.length - m))=H at*;have sh:=Dw H.1 H.1 gb gb;rw[LU]at sh;rw[d1,d2]at b1 b2;have hEN:(ag (B.set k z)).length=B.length:=by simp
 generalize B.set k z=E at*;have hkL:((k:Int)<(B.length:Int))=True:=b5 (by omega)
 repeat'(first|(with_reducible first|refine bH _ _ ?_|refine fC ?_|refine fD ?_)|rw[dE]|simp only[hl,hz1,ht1,hNl,hl47,hl0,hw16,hw17,hk,hm,hatc,hset,hw18,hkle,hmle,hzd2,hkL,hkl,gW,bne_self_eq_false,cc,zY,Int.reduceEq,Int.reduceBEq,Int.reduceBNe,Nat.reduceSub,Nat.reduceEqDiff,Nat.reduceAdd,Nat.reduceMul,Nat.reduceLeDiff,Nat.reduceLT,Nat.reduceBEq,reduceCtorEq]|((first|((try refine eH ?_);apply eb)|(apply fm;intro _));(solve|exact(a1)|exact(a2)|exact(sg)|exact(c1)|exact(p1)|(refine ah.le (a1) ?_;exact zM)|(refine ah.le (a2) ?_;exact zM)|(refine ah.le (sg) ?_;exact zM)|(refine ah.le (c1) ?_;exact zM)|(refine ah.le (p1) ?_;exact zM)|fail);try case hn=>rfl)|refine eA ?_|refine aq (λ hb=> ?_) (λ hb=> ?_)|(refine And.intro ?_ ?_;exact zI)|refine And.intro (λ hg=> ?_) (λ hg=> ?_)|exact zC|fail)
 refine KG 91 (r':= ?r1) (h:=⟨23,1,0⟩) (lo:=0) (n:=B.length - m) (k:=B.length - m) (ds:=(ag E).take (B.length - m)) rfl rfl (Gh.HP 91 rfl ?hw1) trivial ⟨trivial,trivial⟩ ?hc1 b1 ?_
 case hw1=>simp only[zY,ht1,Nat.reduceSub,Nat.reduceEqDiff,Nat.reduceAdd,Nat.reduceMul,Nat.reduceLeDiff,Nat.reduceLT,Nat.reduceBEq,reduceCtorEq];rfl
 case hc1=>simp only[zY,Nat.reduceSub,Nat.reduceEqDiff,Nat.reduceAdd,Nat.reduceMul,Nat.reduceLeDiff,Nat.reduceLT,Nat.reduceBEq,reduceCtorEq]
 refine az (I hNl ht1) ?_;refine KG 96 (r':= ?r2) (h:=⟨23,1,0⟩) (lo:=0) (n:=B.length - m) (k:=B.length - m) (ds:=(ag E).take (B.length - m)) rfl rfl (Gh.HP 96 rfl ?hw2) trivial ⟨trivial,trivial⟩ ?hc2 b2 ?_
 case hw2=>simp only[zY,ht1,Nat.reduceSub,Nat.reduceEqDiff,Nat.reduceAdd,Nat.reduceMul,Nat.reduceLeDiff,Nat.reduceLT,Nat.reduceBEq,reduceCtorEq];rfl
 case hc2=>simp only[zY,Nat.reduceSub,Nat.reduceEqDiff,Nat.reduceAdd,Nat.reduceMul,Nat.reduceLeDiff,Nat.reduceLT,Nat.reduceBEq,reduceCtorEq]
 exact zW (I hNl (I ht1 @wo.{0})) (I (sh) (haw))
end Go.Proofs.YtliimajkpggbhaaGreat
