import Derived.Test.YtniafckaafcpbaaGreatC
namespace Go.Proofs.YtniafckaafcpbaaGreat
open Go.Pk
set_option maxRecDepth 100000
set_option linter.unusedSimpArgs false
set_option linter.unusedVariables false
def idxF {α:Type} (p:α→Bool):List α→Int→Int
 |[],_=> -1
 |x::l,i=>if p x=true then i else idxF p l (i+1)
theorem zcY {α:Type} (p:α→Bool) (l:List α):decide (idxF p l 0≥0)=l.any p:=by
 have h:∀(l:List α) (i:Int),0≤i→(0≤idxF p l i↔l.any p=true):=by
  intro l
  induction l with
  |nil=>intro i _;simp[idxF]
  |cons x l ih=>
   intro i hi
   simp only[idxF]
   by_cases hx:p x=true
   ·simp[hx,hi]
   ·rw[if_neg hx,ih (i+1) (by omega)];simp[hx]
 rw[Bool.eq_iff_iff]
 simpa using h l 0 (Int.le_refl _)
theorem zdm {k:Nat}:toDs (sub 0 0 k [])=some []:=by unfold sub;simp[toDs]
theorem rfs1 {a b:RO}:rfsLe [.one a] [.one b]=(roLe a b∧True):=rfl
theorem zat {i n:Nat} (h:i<n) (hn:n<2^62):IntKind.i64.wrap ((i:Int)+1)=((i+1:Nat):Int):=by rw[wrap64 (by omega) (by omega)];rfl
theorem zf5 {n:Nat} (h:n<2^63):IntKind.u64.wrap (n:Int)=n:=by
 unfold IntKind.wrap
 simp[IntKind.signed,IntKind.bits]
 omega
theorem znj:Go.Pk.bad.x= .one .dead:=rfl
abbrev intAV:Int→AV:=fun x=> .one (di x)
abbrev sessAV:Sess→AV:=fun x=> .agg (x.enc.map C.d)
abbrev lockAV:Lk→AV:=fun x=> .agg (x.enc.map C.d)
abbrev memoAV:Memo→AV:=fun x=> .agg (x.enc.map C.d)
theorem zkg (l:List Int) (hl:l.length<2^62) (p:Int→Bool) (f:Nat) (caps:List C) (hc:lendAs [] (caps.map AV.one)=some (caps.map fun c=> .f (.one c)))
  (hp:∀x∈l,CallOK Tryz.prog f (.f (intAV x)::caps.map fun c=> .f (.one c)) (fun r o=>r=[rb (p x)]∧o=[])):
  CallOK Tryz.prog 142 [.f (al l.length (intsE l)), .f (.one (.clos f caps))] (fun r o=>r=[ri (idxF p l 0)]∧o=[]):=by
 refine zak zaA mixed (T:=Ty) (n:=19) Tryz.func142 (c:=Tryz.f142.body.getD .skip) rfl Tryz.results142 Tryz.ntmps142 Tryz.call142 ?_
 simp only[Tryz.f142,Option.getD]
 repeat(first|with_reducible refine zaa _ _ ?_|with_reducible refine And.imp_right (zaa _ _) ?_|with_reducible refine And.imp_right (And.imp_right (zaa _ _)) ?_|with_reducible refine And.imp_right (And.imp_right (And.imp_right (zaa _ _))) ?_|rw[zad]|simp only[zB,Nat.reduceSub,Nat.reduceEqDiff,Nat.reduceAdd,Nat.reduceMul,Nat.reduceLeDiff,Nat.reduceLT,Nat.reduceBEq,reduceCtorEq])
 refine zau (τ:=Nat) (fun i=>⟨[al l.length (intsE l), .one (.clos f caps),dd,dd,ai 0,dd,al l.length (intsE l),ai l.length,ai i,dd,dd,dd,dd,dd,dd,dd,dd,dd,dd],[]⟩) (fun i=>i≤l.length) (fun i=>idxF p (l.drop i) i) (fun i=>l.length - i) 0 (Gh.fgt ?_) (Nat.zero_le _) ?_
 ·simp only[zaS,zaT,za4,Int.natCast_zero]
 intro i hi0 hF K hK
 repeat(first|with_reducible refine zaa _ _ ?_|with_reducible refine And.imp_right (zaa _ _) ?_|with_reducible refine And.imp_right (And.imp_right (zaa _ _)) ?_|with_reducible refine And.imp_right (And.imp_right (And.imp_right (zaa _ _))) ?_|rw[zad]|simp only[zB,Nat.reduceSub,Nat.reduceEqDiff,Nat.reduceAdd,Nat.reduceMul,Nat.reduceLeDiff,Nat.reduceLT,Nat.reduceBEq,reduceCtorEq])
 rw[zcr]
 refine⟨trivial,fun hlt=> ?_,fun hge=> ?_⟩
 ·have hi:i<l.length:=by simpa using hlt
  rw[List.drop_eq_getElem_cons hi,idxF]at hF
  have hat:=ints_at hi
  simp only[List.cons_append,List.nil_append]at hat
  repeat(first|with_reducible refine zaa _ _ ?_|with_reducible refine And.imp_right (zaa _ _) ?_|with_reducible refine And.imp_right (And.imp_right (zaa _ _)) ?_|with_reducible refine And.imp_right (And.imp_right (And.imp_right (zaa _ _))) ?_|rw[zad]|simp only[zB,ziB,hat,hc,Nat.reduceSub,Nat.reduceEqDiff,Nat.reduceAdd,Nat.reduceMul,Nat.reduceLeDiff,Nat.reduceLT,Nat.reduceBEq,reduceCtorEq])
  refine⟨⟨Int.natCast_nonneg i,by omega⟩, ?_⟩
  refine zaj (hp _ (List.getElem_mem hi)) ?_
  repeat(first|with_reducible refine zaa _ _ ?_|with_reducible refine And.imp_right (zaa _ _) ?_|with_reducible refine And.imp_right (And.imp_right (zaa _ _)) ?_|with_reducible refine And.imp_right (And.imp_right (And.imp_right (zaa _ _))) ?_|rw[zad]|simp only[zB,Nat.reduceSub,Nat.reduceEqDiff,Nat.reduceAdd,Nat.reduceMul,Nat.reduceLeDiff,Nat.reduceLT,Nat.reduceBEq,reduceCtorEq])
  refine zac (fun hb=> ?_) (fun hb=> ?_)
  ·rw[if_pos hb]at hF
   repeat(first|with_reducible refine zaa _ _ ?_|with_reducible refine And.imp_right (zaa _ _) ?_|with_reducible refine And.imp_right (And.imp_right (zaa _ _)) ?_|with_reducible refine And.imp_right (And.imp_right (And.imp_right (zaa _ _))) ?_|rw[zad]|simp only[zB,Nat.reduceSub,Nat.reduceEqDiff,Nat.reduceAdd,Nat.reduceMul,Nat.reduceLeDiff,Nat.reduceLT,Nat.reduceBEq,reduceCtorEq])
   rw[hF];rfl
  ·rw[if_neg (by simp[hb])]at hF
   repeat(first|with_reducible refine zaa _ _ ?_|with_reducible refine And.imp_right (zaa _ _) ?_|with_reducible refine And.imp_right (And.imp_right (zaa _ _)) ?_|with_reducible refine And.imp_right (And.imp_right (And.imp_right (zaa _ _))) ?_|rw[zad]|simp only[zB,Nat.reduceSub,Nat.reduceEqDiff,Nat.reduceAdd,Nat.reduceMul,Nat.reduceLeDiff,Nat.reduceLT,Nat.reduceBEq,reduceCtorEq])
   refine hK _ (i+1) (Gh.fgt ?_) hi (by simp only[List.drop_eq_getElem_cons hi,idxF];rw[if_neg (by simp[hb])];rfl) (by omega)
   have hw:IntKind.i64.wrap ((i:Int)+1)=((i+1:Nat):Int):=by rw[wrap64 (by omega) (by omega)];rfl
   simp only[hw,zaS,zaT,za4]
 ·have hi:i=l.length:=by
   have:¬(i:Int)<l.length:=by simpa using hge
   omega
  rw[hi,List.drop_length,idxF]at hF
  repeat(first|with_reducible refine zaa _ _ ?_|with_reducible refine And.imp_right (zaa _ _) ?_|with_reducible refine And.imp_right (And.imp_right (zaa _ _)) ?_|with_reducible refine And.imp_right (And.imp_right (And.imp_right (zaa _ _))) ?_|rw[zad]|simp only[zB,Nat.reduceSub,Nat.reduceEqDiff,Nat.reduceAdd,Nat.reduceMul,Nat.reduceLeDiff,Nat.reduceLT,Nat.reduceBEq,reduceCtorEq])
  rw[hF];rfl
theorem zfr (l:List Sess) (hl:l.length<2^62) (p:Sess→Bool) (f:Nat) (caps:List C) (hc:lendAs [] (caps.map AV.one)=some (caps.map fun c=> .f (.one c)))
  (hp:∀x∈l,CallOK Tryz.prog f (.f (sessAV x)::caps.map fun c=> .f (.one c)) (fun r o=>r=[rb (p x)]∧o=[])):
  CallOK Tryz.prog 103 [.f (al l.length (sessE l)), .f (.one (.clos f caps))] (fun r o=>r=[ri (idxF p l 0)]∧o=[]):=by
 refine zak zaA mixed (T:=Ty) (n:=19) Tryz.func103 (c:=Tryz.f103.body.getD .skip) rfl Tryz.results103 Tryz.ntmps103 Tryz.call103 ?_
 simp only[Tryz.f103,Option.getD]
 repeat(first|with_reducible refine zaa _ _ ?_|with_reducible refine And.imp_right (zaa _ _) ?_|with_reducible refine And.imp_right (And.imp_right (zaa _ _)) ?_|with_reducible refine And.imp_right (And.imp_right (And.imp_right (zaa _ _))) ?_|rw[zad]|simp only[zB,Nat.reduceSub,Nat.reduceEqDiff,Nat.reduceAdd,Nat.reduceMul,Nat.reduceLeDiff,Nat.reduceLT,Nat.reduceBEq,reduceCtorEq])
 refine zau (τ:=Nat) (fun i=>⟨[al l.length (sessE l), .one (.clos f caps),dd,dd,ai 0,dd,al l.length (sessE l),ai l.length,ai i,dd,dd,dd,dd,dd,dd,dd,dd,dd,dd],[]⟩) (fun i=>i≤l.length) (fun i=>idxF p (l.drop i) i) (fun i=>l.length - i) 0 (Gh.fgt ?_) (Nat.zero_le _) ?_
 ·simp only[zaS,zaT,za4,Int.natCast_zero]
 intro i hi0 hF K hK
 repeat(first|with_reducible refine zaa _ _ ?_|with_reducible refine And.imp_right (zaa _ _) ?_|with_reducible refine And.imp_right (And.imp_right (zaa _ _)) ?_|with_reducible refine And.imp_right (And.imp_right (And.imp_right (zaa _ _))) ?_|rw[zad]|simp only[zB,Nat.reduceSub,Nat.reduceEqDiff,Nat.reduceAdd,Nat.reduceMul,Nat.reduceLeDiff,Nat.reduceLT,Nat.reduceBEq,reduceCtorEq])
 rw[zcr]
 refine⟨trivial,fun hlt=> ?_,fun hge=> ?_⟩
 ·have hi:i<l.length:=by simpa using hlt
  rw[List.drop_eq_getElem_cons hi,idxF]at hF
  have hat:=zaV hi
  simp only[List.cons_append,List.nil_append]at hat
  repeat(first|with_reducible refine zaa _ _ ?_|with_reducible refine And.imp_right (zaa _ _) ?_|with_reducible refine And.imp_right (And.imp_right (zaa _ _)) ?_|with_reducible refine And.imp_right (And.imp_right (And.imp_right (zaa _ _))) ?_|rw[zad]|simp only[zB,zax,hat,hc,Nat.reduceSub,Nat.reduceEqDiff,Nat.reduceAdd,Nat.reduceMul,Nat.reduceLeDiff,Nat.reduceLT,Nat.reduceBEq,reduceCtorEq])
  refine⟨⟨Int.natCast_nonneg i,by omega⟩, ?_⟩
  refine zaj (hp _ (List.getElem_mem hi)) ?_
  repeat(first|with_reducible refine zaa _ _ ?_|with_reducible refine And.imp_right (zaa _ _) ?_|with_reducible refine And.imp_right (And.imp_right (zaa _ _)) ?_|with_reducible refine And.imp_right (And.imp_right (And.imp_right (zaa _ _))) ?_|rw[zad]|simp only[zB,Nat.reduceSub,Nat.reduceEqDiff,Nat.reduceAdd,Nat.reduceMul,Nat.reduceLeDiff,Nat.reduceLT,Nat.reduceBEq,reduceCtorEq])
  refine zac (fun hb=> ?_) (fun hb=> ?_)
  ·rw[if_pos hb]at hF
   repeat(first|with_reducible refine zaa _ _ ?_|with_reducible refine And.imp_right (zaa _ _) ?_|with_reducible refine And.imp_right (And.imp_right (zaa _ _)) ?_|with_reducible refine And.imp_right (And.imp_right (And.imp_right (zaa _ _))) ?_|rw[zad]|simp only[zB,Nat.reduceSub,Nat.reduceEqDiff,Nat.reduceAdd,Nat.reduceMul,Nat.reduceLeDiff,Nat.reduceLT,Nat.reduceBEq,reduceCtorEq])
   rw[hF];rfl
  ·rw[if_neg (by simp[hb])]at hF
   repeat(first|with_reducible refine zaa _ _ ?_|with_reducible refine And.imp_right (zaa _ _) ?_|with_reducible refine And.imp_right (And.imp_right (zaa _ _)) ?_|with_reducible refine And.imp_right (And.imp_right (And.imp_right (zaa _ _))) ?_|rw[zad]|simp only[zB,Nat.reduceSub,Nat.reduceEqDiff,Nat.reduceAdd,Nat.reduceMul,Nat.reduceLeDiff,Nat.reduceLT,Nat.reduceBEq,reduceCtorEq])
   refine hK _ (i+1) (Gh.fgt ?_) hi (by simp only[List.drop_eq_getElem_cons hi,idxF];rw[if_neg (by simp[hb])];rfl) (by omega)
   have hw:IntKind.i64.wrap ((i:Int)+1)=((i+1:Nat):Int):=by rw[wrap64 (by omega) (by omega)];rfl
   simp only[hw,zaS,zaT,za4]
 ·have hi:i=l.length:=by
   have:¬(i:Int)<l.length:=by simpa using hge
   omega
  rw[hi,List.drop_length,idxF]at hF
  repeat(first|with_reducible refine zaa _ _ ?_|with_reducible refine And.imp_right (zaa _ _) ?_|with_reducible refine And.imp_right (And.imp_right (zaa _ _)) ?_|with_reducible refine And.imp_right (And.imp_right (And.imp_right (zaa _ _))) ?_|rw[zad]|simp only[zB,Nat.reduceSub,Nat.reduceEqDiff,Nat.reduceAdd,Nat.reduceMul,Nat.reduceLeDiff,Nat.reduceLT,Nat.reduceBEq,reduceCtorEq])
  rw[hF];rfl
theorem zjo (l:List Lk) (hl:l.length<2^62) (p:Lk→Bool) (f:Nat) (caps:List C) (hc:lendAs [] (caps.map AV.one)=some (caps.map fun c=> .f (.one c)))
  (hp:∀x∈l,CallOK Tryz.prog f (.f (lockAV x)::caps.map fun c=> .f (.one c)) (fun r o=>r=[rb (p x)]∧o=[])):
  CallOK Tryz.prog 128 [.f (al l.length (locksE l)), .f (.one (.clos f caps))] (fun r o=>r=[ri (idxF p l 0)]∧o=[]):=by
 refine zak zaA mixed (T:=Ty) (n:=19) Tryz.func128 (c:=Tryz.f128.body.getD .skip) rfl Tryz.results128 Tryz.ntmps128 Tryz.call128 ?_
 simp only[Tryz.f128,Option.getD]
 repeat(first|with_reducible refine zaa _ _ ?_|with_reducible refine And.imp_right (zaa _ _) ?_|with_reducible refine And.imp_right (And.imp_right (zaa _ _)) ?_|with_reducible refine And.imp_right (And.imp_right (And.imp_right (zaa _ _))) ?_|rw[zad]|simp only[zB,Nat.reduceSub,Nat.reduceEqDiff,Nat.reduceAdd,Nat.reduceMul,Nat.reduceLeDiff,Nat.reduceLT,Nat.reduceBEq,reduceCtorEq])
 refine zau (τ:=Nat) (fun i=>⟨[al l.length (locksE l), .one (.clos f caps),dd,dd,ai 0,dd,al l.length (locksE l),ai l.length,ai i,dd,dd,dd,dd,dd,dd,dd,dd,dd,dd],[]⟩) (fun i=>i≤l.length) (fun i=>idxF p (l.drop i) i) (fun i=>l.length - i) 0 (Gh.fgt ?_) (Nat.zero_le _) ?_
 ·simp only[zaS,zaT,za4,Int.natCast_zero]
 intro i hi0 hF K hK
 repeat(first|with_reducible refine zaa _ _ ?_|with_reducible refine And.imp_right (zaa _ _) ?_|with_reducible refine And.imp_right (And.imp_right (zaa _ _)) ?_|with_reducible refine And.imp_right (And.imp_right (And.imp_right (zaa _ _))) ?_|rw[zad]|simp only[zB,Nat.reduceSub,Nat.reduceEqDiff,Nat.reduceAdd,Nat.reduceMul,Nat.reduceLeDiff,Nat.reduceLT,Nat.reduceBEq,reduceCtorEq])
 rw[zcr]
 refine⟨trivial,fun hlt=> ?_,fun hge=> ?_⟩
 ·have hi:i<l.length:=by simpa using hlt
  rw[List.drop_eq_getElem_cons hi,idxF]at hF
  have hat:=zaG hi
  simp only[List.cons_append,List.nil_append]at hat
  repeat(first|with_reducible refine zaa _ _ ?_|with_reducible refine And.imp_right (zaa _ _) ?_|with_reducible refine And.imp_right (And.imp_right (zaa _ _)) ?_|with_reducible refine And.imp_right (And.imp_right (And.imp_right (zaa _ _))) ?_|rw[zad]|simp only[zB,zam,hat,hc,Nat.reduceSub,Nat.reduceEqDiff,Nat.reduceAdd,Nat.reduceMul,Nat.reduceLeDiff,Nat.reduceLT,Nat.reduceBEq,reduceCtorEq])
  refine⟨⟨Int.natCast_nonneg i,by omega⟩, ?_⟩
  refine zaj (hp _ (List.getElem_mem hi)) ?_
  repeat(first|with_reducible refine zaa _ _ ?_|with_reducible refine And.imp_right (zaa _ _) ?_|with_reducible refine And.imp_right (And.imp_right (zaa _ _)) ?_|with_reducible refine And.imp_right (And.imp_right (And.imp_right (zaa _ _))) ?_|rw[zad]|simp only[zB,Nat.reduceSub,Nat.reduceEqDiff,Nat.reduceAdd,Nat.reduceMul,Nat.reduceLeDiff,Nat.reduceLT,Nat.reduceBEq,reduceCtorEq])
  refine zac (fun hb=> ?_) (fun hb=> ?_)
  ·rw[if_pos hb]at hF
   repeat(first|with_reducible refine zaa _ _ ?_|with_reducible refine And.imp_right (zaa _ _) ?_|with_reducible refine And.imp_right (And.imp_right (zaa _ _)) ?_|with_reducible refine And.imp_right (And.imp_right (And.imp_right (zaa _ _))) ?_|rw[zad]|simp only[zB,Nat.reduceSub,Nat.reduceEqDiff,Nat.reduceAdd,Nat.reduceMul,Nat.reduceLeDiff,Nat.reduceLT,Nat.reduceBEq,reduceCtorEq])
   rw[hF];rfl
  ·rw[if_neg (by simp[hb])]at hF
   repeat(first|with_reducible refine zaa _ _ ?_|with_reducible refine And.imp_right (zaa _ _) ?_|with_reducible refine And.imp_right (And.imp_right (zaa _ _)) ?_|with_reducible refine And.imp_right (And.imp_right (And.imp_right (zaa _ _))) ?_|rw[zad]|simp only[zB,Nat.reduceSub,Nat.reduceEqDiff,Nat.reduceAdd,Nat.reduceMul,Nat.reduceLeDiff,Nat.reduceLT,Nat.reduceBEq,reduceCtorEq])
   refine hK _ (i+1) (Gh.fgt ?_) hi (by simp only[List.drop_eq_getElem_cons hi,idxF];rw[if_neg (by simp[hb])];rfl) (by omega)
   have hw:IntKind.i64.wrap ((i:Int)+1)=((i+1:Nat):Int):=by rw[wrap64 (by omega) (by omega)];rfl
   simp only[hw,zaS,zaT,za4]
 ·have hi:i=l.length:=by
   have:¬(i:Int)<l.length:=by simpa using hge
   omega
  rw[hi,List.drop_length,idxF]at hF
  repeat(first|with_reducible refine zaa _ _ ?_|with_reducible refine And.imp_right (zaa _ _) ?_|with_reducible refine And.imp_right (And.imp_right (zaa _ _)) ?_|with_reducible refine And.imp_right (And.imp_right (And.imp_right (zaa _ _))) ?_|rw[zad]|simp only[zB,Nat.reduceSub,Nat.reduceEqDiff,Nat.reduceAdd,Nat.reduceMul,Nat.reduceLeDiff,Nat.reduceLT,Nat.reduceBEq,reduceCtorEq])
  rw[hF];rfl
theorem zf6 (l:List Sess) (hl:l.length<2^62) (p:Sess→Bool) (f:Nat) (caps:List C) (hc:lendAs [] (caps.map AV.one)=some (caps.map fun c=> .f (.one c))) (hc2:lendC.lendCs [] caps=some caps)
  (hp:∀x∈l,CallOK Tryz.prog f (.f (sessAV x)::caps.map fun c=> .f (.one c)) (fun r o=>r=[rb (p x)]∧o=[])):
  CallOK Tryz.prog 125 [.f (al l.length (sessE l)), .f (.one (.clos f caps))] (fun r o=>r=[rb (l.any p)]∧o=[]):=by
 refine zak zaA mixed (T:=Ty) (n:=9) Tryz.func125 (c:=Tryz.f125.body.getD .skip) rfl Tryz.results125 Tryz.ntmps125 Tryz.call125 ?_
 simp only[Tryz.f125,Option.getD]
 repeat(first|with_reducible refine zaa _ _ ?_|with_reducible refine And.imp_right (zaa _ _) ?_|with_reducible refine And.imp_right (And.imp_right (zaa _ _)) ?_|with_reducible refine And.imp_right (And.imp_right (And.imp_right (zaa _ _))) ?_|rw[zad]|simp only[zB,hc2,Nat.reduceSub,Nat.reduceEqDiff,Nat.reduceAdd,Nat.reduceMul,Nat.reduceLeDiff,Nat.reduceLT,Nat.reduceBEq,reduceCtorEq])
 refine zaj (zfr l hl p f caps hc hp) ?_
 repeat(first|with_reducible refine zaa _ _ ?_|with_reducible refine And.imp_right (zaa _ _) ?_|with_reducible refine And.imp_right (And.imp_right (zaa _ _)) ?_|with_reducible refine And.imp_right (And.imp_right (And.imp_right (zaa _ _))) ?_|rw[zad]|simp only[zB,Nat.reduceSub,Nat.reduceEqDiff,Nat.reduceAdd,Nat.reduceMul,Nat.reduceLeDiff,Nat.reduceLT,Nat.reduceBEq,reduceCtorEq])
 rw[zcY]
theorem zf7 (l:List Lk) (hl:l.length<2^62) (p:Lk→Bool) (f:Nat) (caps:List C) (hc:lendAs [] (caps.map AV.one)=some (caps.map fun c=> .f (.one c))) (hc2:lendC.lendCs [] caps=some caps)
  (hp:∀x∈l,CallOK Tryz.prog f (.f (lockAV x)::caps.map fun c=> .f (.one c)) (fun r o=>r=[rb (p x)]∧o=[])):
  CallOK Tryz.prog 94 [.f (al l.length (locksE l)), .f (.one (.clos f caps))] (fun r o=>r=[rb (l.any p)]∧o=[]):=by
 refine zak zaA mixed (T:=Ty) (n:=9) Tryz.func94 (c:=Tryz.f94.body.getD .skip) rfl Tryz.results94 Tryz.ntmps94 Tryz.call94 ?_
 simp only[Tryz.f94,Option.getD]
 repeat(first|with_reducible refine zaa _ _ ?_|with_reducible refine And.imp_right (zaa _ _) ?_|with_reducible refine And.imp_right (And.imp_right (zaa _ _)) ?_|with_reducible refine And.imp_right (And.imp_right (And.imp_right (zaa _ _))) ?_|rw[zad]|simp only[zB,hc2,Nat.reduceSub,Nat.reduceEqDiff,Nat.reduceAdd,Nat.reduceMul,Nat.reduceLeDiff,Nat.reduceLT,Nat.reduceBEq,reduceCtorEq])
 refine zaj (zjo l hl p f caps hc hp) ?_
 repeat(first|with_reducible refine zaa _ _ ?_|with_reducible refine And.imp_right (zaa _ _) ?_|with_reducible refine And.imp_right (And.imp_right (zaa _ _)) ?_|with_reducible refine And.imp_right (And.imp_right (And.imp_right (zaa _ _))) ?_|rw[zad]|simp only[zB,Nat.reduceSub,Nat.reduceEqDiff,Nat.reduceAdd,Nat.reduceMul,Nat.reduceLeDiff,Nat.reduceLT,Nat.reduceBEq,reduceCtorEq])
 rw[zcY]
theorem zcf (n:Nat) (L:List D) (hL:L.length=n) (hn:n<2^40):CallOK Tryz.prog 62 [.f (al n L)] (fun r o=>r=[.one (.own 1 n L false)]∧o=[]):=by
 refine CallOK.nil ?_
 refine zak zaA mixed (T:=Ty) (n:=8) Tryz.func62 (c:=Tryz.f62.body.getD .skip) rfl Tryz.results62 Tryz.ntmps62 Tryz.call62 ?_
 simp only[Tryz.f62,Option.getD]
 rcases Nat.eq_zero_or_pos n with rfl|hp
 ·obtain rfl:L=[]:=List.eq_nil_of_length_eq_zero (by omega)
  repeat(first|with_reducible refine zaa _ _ ?_|with_reducible refine And.imp_right (zaa _ _) ?_|with_reducible refine And.imp_right (And.imp_right (zaa _ _)) ?_|with_reducible refine And.imp_right (And.imp_right (And.imp_right (zaa _ _))) ?_|rw[zad]|simp only[zB,Option.map_some,zbd,zdm,Nat.mul_one,Nat.reduceSub,Nat.reduceEqDiff,Nat.reduceAdd,Nat.reduceMul,Nat.reduceLeDiff,Nat.reduceLT,Nat.reduceBEq,reduceCtorEq])
  refine⟨?_, ?_, ?_⟩
  ·repeat(first|with_reducible refine zaa _ _ ?_|with_reducible refine And.imp_right (zaa _ _) ?_|with_reducible refine And.imp_right (And.imp_right (zaa _ _)) ?_|with_reducible refine And.imp_right (And.imp_right (And.imp_right (zaa _ _))) ?_|rw[zad]|simp only[zB,List.map_nil,Nat.reduceSub,Nat.reduceEqDiff,Nat.reduceAdd,Nat.reduceMul,Nat.reduceLeDiff,Nat.reduceLT,Nat.reduceBEq,reduceCtorEq])
   simp[rfs1,roLe]
  ·simp
  ·repeat(first|with_reducible refine zaa _ _ ?_|with_reducible refine And.imp_right (zaa _ _) ?_|with_reducible refine And.imp_right (And.imp_right (zaa _ _)) ?_|with_reducible refine And.imp_right (And.imp_right (And.imp_right (zaa _ _))) ?_|rw[zad]|simp only[zB,List.map_nil,Nat.reduceSub,Nat.reduceEqDiff,Nat.reduceAdd,Nat.reduceMul,Nat.reduceLeDiff,Nat.reduceLT,Nat.reduceBEq,reduceCtorEq])
   simp[rfs1,roLe]
 ·have h0:n≠0:=by omega
  have h1:L≠[]:=fun h=>by rw[h]at hL;simp at hL;omega
  repeat(first|with_reducible refine zaa _ _ ?_|with_reducible refine And.imp_right (zaa _ _) ?_|with_reducible refine And.imp_right (And.imp_right (zaa _ _)) ?_|with_reducible refine And.imp_right (And.imp_right (And.imp_right (zaa _ _))) ?_|rw[zad]|simp only[zB,Option.map_some,zbd,zdm,h0,h1,Nat.mul_one,Nat.reduceSub,Nat.reduceEqDiff,Nat.reduceAdd,Nat.reduceMul,Nat.reduceLeDiff,Nat.reduceLT,Nat.reduceBEq,reduceCtorEq])
  refine⟨trivial,fun hb=>by simp at hb,fun hb=> ?_⟩
  repeat(first|with_reducible refine zaa _ _ ?_|with_reducible refine And.imp_right (zaa _ _) ?_|with_reducible refine And.imp_right (And.imp_right (zaa _ _)) ?_|with_reducible refine And.imp_right (And.imp_right (And.imp_right (zaa _ _))) ?_|rw[zad]|simp only[zB,Option.map_some,zbd,zdm,h0,h1,List.map_nil,List.nil_append,zaF,Nat.mul_one,Nat.reduceSub,Nat.reduceEqDiff,Nat.reduceAdd,Nat.reduceMul,Nat.reduceLeDiff,Nat.reduceLT,Nat.reduceBEq,reduceCtorEq])
  refine⟨by simp,⟨hL,by omega⟩, ?_⟩
  simp[rfs1,roLe]
theorem zd2 (n:Nat) (L:List D) (hL:L.length=n*3) (hn:n<2^40):CallOK Tryz.prog 60 [.f (al n L)] (fun r o=>r=[.one (.own 3 n L false)]∧o=[]):=by
 refine CallOK.nil ?_
 refine zak zaA mixed (T:=Ty) (n:=8) Tryz.func60 (c:=Tryz.f60.body.getD .skip) rfl Tryz.results60 Tryz.ntmps60 Tryz.call60 ?_
 simp only[Tryz.f60,Option.getD]
 rcases Nat.eq_zero_or_pos n with rfl|hp
 ·obtain rfl:L=[]:=List.eq_nil_of_length_eq_zero (by omega)
  repeat(first|with_reducible refine zaa _ _ ?_|with_reducible refine And.imp_right (zaa _ _) ?_|with_reducible refine And.imp_right (And.imp_right (zaa _ _)) ?_|with_reducible refine And.imp_right (And.imp_right (And.imp_right (zaa _ _))) ?_|rw[zad]|simp only[zB,Option.map_some,zbd,zdm,Nat.mul_one,Nat.reduceSub,Nat.reduceEqDiff,Nat.reduceAdd,Nat.reduceMul,Nat.reduceLeDiff,Nat.reduceLT,Nat.reduceBEq,reduceCtorEq])
  refine⟨?_, ?_, ?_⟩
  ·repeat(first|with_reducible refine zaa _ _ ?_|with_reducible refine And.imp_right (zaa _ _) ?_|with_reducible refine And.imp_right (And.imp_right (zaa _ _)) ?_|with_reducible refine And.imp_right (And.imp_right (And.imp_right (zaa _ _))) ?_|rw[zad]|simp only[zB,List.map_nil,Nat.reduceSub,Nat.reduceEqDiff,Nat.reduceAdd,Nat.reduceMul,Nat.reduceLeDiff,Nat.reduceLT,Nat.reduceBEq,reduceCtorEq])
   simp[rfs1,roLe]
  ·simp
  ·repeat(first|with_reducible refine zaa _ _ ?_|with_reducible refine And.imp_right (zaa _ _) ?_|with_reducible refine And.imp_right (And.imp_right (zaa _ _)) ?_|with_reducible refine And.imp_right (And.imp_right (And.imp_right (zaa _ _))) ?_|rw[zad]|simp only[zB,List.map_nil,Nat.reduceSub,Nat.reduceEqDiff,Nat.reduceAdd,Nat.reduceMul,Nat.reduceLeDiff,Nat.reduceLT,Nat.reduceBEq,reduceCtorEq])
   simp[rfs1,roLe]
 ·have h0:n≠0:=by omega
  have h1:L≠[]:=fun h=>by rw[h]at hL;simp at hL;omega
  repeat(first|with_reducible refine zaa _ _ ?_|with_reducible refine And.imp_right (zaa _ _) ?_|with_reducible refine And.imp_right (And.imp_right (zaa _ _)) ?_|with_reducible refine And.imp_right (And.imp_right (And.imp_right (zaa _ _))) ?_|rw[zad]|simp only[zB,Option.map_some,zbd,zdm,h0,h1,Nat.mul_one,Nat.reduceSub,Nat.reduceEqDiff,Nat.reduceAdd,Nat.reduceMul,Nat.reduceLeDiff,Nat.reduceLT,Nat.reduceBEq,reduceCtorEq])
  refine⟨trivial,fun hb=>by simp at hb,fun hb=> ?_⟩
  repeat(first|with_reducible refine zaa _ _ ?_|with_reducible refine And.imp_right (zaa _ _) ?_|with_reducible refine And.imp_right (And.imp_right (zaa _ _)) ?_|with_reducible refine And.imp_right (And.imp_right (And.imp_right (zaa _ _))) ?_|rw[zad]|simp only[zB,Option.map_some,zbd,zdm,h0,h1,List.map_nil,List.nil_append,zaF,Nat.mul_one,Nat.reduceSub,Nat.reduceEqDiff,Nat.reduceAdd,Nat.reduceMul,Nat.reduceLeDiff,Nat.reduceLT,Nat.reduceBEq,reduceCtorEq])
  refine⟨by simp,⟨hL,by omega⟩, ?_⟩
  simp[rfs1,roLe]
theorem zfs (n:Nat) (L:List D) (hL:L.length=n*4) (hn:n<2^40):CallOK Tryz.prog 61 [.f (al n L)] (fun r o=>r=[.one (.own 4 n L false)]∧o=[]):=by
 refine CallOK.nil ?_
 refine zak zaA mixed (T:=Ty) (n:=8) Tryz.func61 (c:=Tryz.f61.body.getD .skip) rfl Tryz.results61 Tryz.ntmps61 Tryz.call61 ?_
 simp only[Tryz.f61,Option.getD]
 rcases Nat.eq_zero_or_pos n with rfl|hp
 ·obtain rfl:L=[]:=List.eq_nil_of_length_eq_zero (by omega)
  repeat(first|with_reducible refine zaa _ _ ?_|with_reducible refine And.imp_right (zaa _ _) ?_|with_reducible refine And.imp_right (And.imp_right (zaa _ _)) ?_|with_reducible refine And.imp_right (And.imp_right (And.imp_right (zaa _ _))) ?_|rw[zad]|simp only[zB,Option.map_some,zbd,zdm,Nat.mul_one,Nat.reduceSub,Nat.reduceEqDiff,Nat.reduceAdd,Nat.reduceMul,Nat.reduceLeDiff,Nat.reduceLT,Nat.reduceBEq,reduceCtorEq])
  refine⟨?_, ?_, ?_⟩
  ·repeat(first|with_reducible refine zaa _ _ ?_|with_reducible refine And.imp_right (zaa _ _) ?_|with_reducible refine And.imp_right (And.imp_right (zaa _ _)) ?_|with_reducible refine And.imp_right (And.imp_right (And.imp_right (zaa _ _))) ?_|rw[zad]|simp only[zB,List.map_nil,Nat.reduceSub,Nat.reduceEqDiff,Nat.reduceAdd,Nat.reduceMul,Nat.reduceLeDiff,Nat.reduceLT,Nat.reduceBEq,reduceCtorEq])
   simp[rfs1,roLe]
  ·simp
  ·repeat(first|with_reducible refine zaa _ _ ?_|with_reducible refine And.imp_right (zaa _ _) ?_|with_reducible refine And.imp_right (And.imp_right (zaa _ _)) ?_|with_reducible refine And.imp_right (And.imp_right (And.imp_right (zaa _ _))) ?_|rw[zad]|simp only[zB,List.map_nil,Nat.reduceSub,Nat.reduceEqDiff,Nat.reduceAdd,Nat.reduceMul,Nat.reduceLeDiff,Nat.reduceLT,Nat.reduceBEq,reduceCtorEq])
   simp[rfs1,roLe]
 ·have h0:n≠0:=by omega
  have h1:L≠[]:=fun h=>by rw[h]at hL;simp at hL;omega
  repeat(first|with_reducible refine zaa _ _ ?_|with_reducible refine And.imp_right (zaa _ _) ?_|with_reducible refine And.imp_right (And.imp_right (zaa _ _)) ?_|with_reducible refine And.imp_right (And.imp_right (And.imp_right (zaa _ _))) ?_|rw[zad]|simp only[zB,Option.map_some,zbd,zdm,h0,h1,Nat.mul_one,Nat.reduceSub,Nat.reduceEqDiff,Nat.reduceAdd,Nat.reduceMul,Nat.reduceLeDiff,Nat.reduceLT,Nat.reduceBEq,reduceCtorEq])
  refine⟨trivial,fun hb=>by simp at hb,fun hb=> ?_⟩
  repeat(first|with_reducible refine zaa _ _ ?_|with_reducible refine And.imp_right (zaa _ _) ?_|with_reducible refine And.imp_right (And.imp_right (zaa _ _)) ?_|with_reducible refine And.imp_right (And.imp_right (And.imp_right (zaa _ _))) ?_|rw[zad]|simp only[zB,Option.map_some,zbd,zdm,h0,h1,List.map_nil,List.nil_append,zaF,Nat.mul_one,Nat.reduceSub,Nat.reduceEqDiff,Nat.reduceAdd,Nat.reduceMul,Nat.reduceLeDiff,Nat.reduceLT,Nat.reduceBEq,reduceCtorEq])
  refine⟨by simp,⟨hL,by omega⟩, ?_⟩
  simp[rfs1,roLe]
theorem zft (n:Nat) (L:List D) (hL:L.length=n*6) (hn:n<2^40):CallOK Tryz.prog 63 [.f (al n L)] (fun r o=>r=[.one (.own 6 n L false)]∧o=[]):=by
 refine CallOK.nil ?_
 refine zak zaA mixed (T:=Ty) (n:=8) Tryz.func63 (c:=Tryz.f63.body.getD .skip) rfl Tryz.results63 Tryz.ntmps63 Tryz.call63 ?_
 simp only[Tryz.f63,Option.getD]
 rcases Nat.eq_zero_or_pos n with rfl|hp
 ·obtain rfl:L=[]:=List.eq_nil_of_length_eq_zero (by omega)
  repeat(first|with_reducible refine zaa _ _ ?_|with_reducible refine And.imp_right (zaa _ _) ?_|with_reducible refine And.imp_right (And.imp_right (zaa _ _)) ?_|with_reducible refine And.imp_right (And.imp_right (And.imp_right (zaa _ _))) ?_|rw[zad]|simp only[zB,Option.map_some,zbd,zdm,Nat.mul_one,Nat.reduceSub,Nat.reduceEqDiff,Nat.reduceAdd,Nat.reduceMul,Nat.reduceLeDiff,Nat.reduceLT,Nat.reduceBEq,reduceCtorEq])
  refine⟨?_, ?_, ?_⟩
  ·repeat(first|with_reducible refine zaa _ _ ?_|with_reducible refine And.imp_right (zaa _ _) ?_|with_reducible refine And.imp_right (And.imp_right (zaa _ _)) ?_|with_reducible refine And.imp_right (And.imp_right (And.imp_right (zaa _ _))) ?_|rw[zad]|simp only[zB,List.map_nil,Nat.reduceSub,Nat.reduceEqDiff,Nat.reduceAdd,Nat.reduceMul,Nat.reduceLeDiff,Nat.reduceLT,Nat.reduceBEq,reduceCtorEq])
   simp[rfs1,roLe]
  ·simp
  ·repeat(first|with_reducible refine zaa _ _ ?_|with_reducible refine And.imp_right (zaa _ _) ?_|with_reducible refine And.imp_right (And.imp_right (zaa _ _)) ?_|with_reducible refine And.imp_right (And.imp_right (And.imp_right (zaa _ _))) ?_|rw[zad]|simp only[zB,List.map_nil,Nat.reduceSub,Nat.reduceEqDiff,Nat.reduceAdd,Nat.reduceMul,Nat.reduceLeDiff,Nat.reduceLT,Nat.reduceBEq,reduceCtorEq])
   simp[rfs1,roLe]
 ·have h0:n≠0:=by omega
  have h1:L≠[]:=fun h=>by rw[h]at hL;simp at hL;omega
  repeat(first|with_reducible refine zaa _ _ ?_|with_reducible refine And.imp_right (zaa _ _) ?_|with_reducible refine And.imp_right (And.imp_right (zaa _ _)) ?_|with_reducible refine And.imp_right (And.imp_right (And.imp_right (zaa _ _))) ?_|rw[zad]|simp only[zB,Option.map_some,zbd,zdm,h0,h1,Nat.mul_one,Nat.reduceSub,Nat.reduceEqDiff,Nat.reduceAdd,Nat.reduceMul,Nat.reduceLeDiff,Nat.reduceLT,Nat.reduceBEq,reduceCtorEq])
  refine⟨trivial,fun hb=>by simp at hb,fun hb=> ?_⟩
  repeat(first|with_reducible refine zaa _ _ ?_|with_reducible refine And.imp_right (zaa _ _) ?_|with_reducible refine And.imp_right (And.imp_right (zaa _ _)) ?_|with_reducible refine And.imp_right (And.imp_right (And.imp_right (zaa _ _))) ?_|rw[zad]|simp only[zB,Option.map_some,zbd,zdm,h0,h1,List.map_nil,List.nil_append,zaF,Nat.mul_one,Nat.reduceSub,Nat.reduceEqDiff,Nat.reduceAdd,Nat.reduceMul,Nat.reduceLeDiff,Nat.reduceLT,Nat.reduceBEq,reduceCtorEq])
  refine⟨by simp,⟨hL,by omega⟩, ?_⟩
  simp[rfs1,roLe]
theorem zcx (n:Nat) (L:List D) (hL:L.length=n*2) (hn:n<2^40):CallOK Tryz.prog 64 [.f (al n L)] (fun r o=>r=[.one (.own 2 n L false)]∧o=[]):=by
 refine CallOK.nil ?_
 refine zak zaA mixed (T:=Ty) (n:=8) Tryz.func64 (c:=Tryz.f64.body.getD .skip) rfl Tryz.results64 Tryz.ntmps64 Tryz.call64 ?_
 simp only[Tryz.f64,Option.getD]
 rcases Nat.eq_zero_or_pos n with rfl|hp
 ·obtain rfl:L=[]:=List.eq_nil_of_length_eq_zero (by omega)
  repeat(first|with_reducible refine zaa _ _ ?_|with_reducible refine And.imp_right (zaa _ _) ?_|with_reducible refine And.imp_right (And.imp_right (zaa _ _)) ?_|with_reducible refine And.imp_right (And.imp_right (And.imp_right (zaa _ _))) ?_|rw[zad]|simp only[zB,Option.map_some,zbd,zdm,Nat.mul_one,Nat.reduceSub,Nat.reduceEqDiff,Nat.reduceAdd,Nat.reduceMul,Nat.reduceLeDiff,Nat.reduceLT,Nat.reduceBEq,reduceCtorEq])
  refine⟨?_, ?_, ?_⟩
  ·repeat(first|with_reducible refine zaa _ _ ?_|with_reducible refine And.imp_right (zaa _ _) ?_|with_reducible refine And.imp_right (And.imp_right (zaa _ _)) ?_|with_reducible refine And.imp_right (And.imp_right (And.imp_right (zaa _ _))) ?_|rw[zad]|simp only[zB,List.map_nil,Nat.reduceSub,Nat.reduceEqDiff,Nat.reduceAdd,Nat.reduceMul,Nat.reduceLeDiff,Nat.reduceLT,Nat.reduceBEq,reduceCtorEq])
   simp[rfs1,roLe]
  ·simp
  ·repeat(first|with_reducible refine zaa _ _ ?_|with_reducible refine And.imp_right (zaa _ _) ?_|with_reducible refine And.imp_right (And.imp_right (zaa _ _)) ?_|with_reducible refine And.imp_right (And.imp_right (And.imp_right (zaa _ _))) ?_|rw[zad]|simp only[zB,List.map_nil,Nat.reduceSub,Nat.reduceEqDiff,Nat.reduceAdd,Nat.reduceMul,Nat.reduceLeDiff,Nat.reduceLT,Nat.reduceBEq,reduceCtorEq])
   simp[rfs1,roLe]
 ·have h0:n≠0:=by omega
  have h1:L≠[]:=fun h=>by rw[h]at hL;simp at hL;omega
  repeat(first|with_reducible refine zaa _ _ ?_|with_reducible refine And.imp_right (zaa _ _) ?_|with_reducible refine And.imp_right (And.imp_right (zaa _ _)) ?_|with_reducible refine And.imp_right (And.imp_right (And.imp_right (zaa _ _))) ?_|rw[zad]|simp only[zB,Option.map_some,zbd,zdm,h0,h1,Nat.mul_one,Nat.reduceSub,Nat.reduceEqDiff,Nat.reduceAdd,Nat.reduceMul,Nat.reduceLeDiff,Nat.reduceLT,Nat.reduceBEq,reduceCtorEq])
  refine⟨trivial,fun hb=>by simp at hb,fun hb=> ?_⟩
  repeat(first|with_reducible refine zaa _ _ ?_|with_reducible refine And.imp_right (zaa _ _) ?_|with_reducible refine And.imp_right (And.imp_right (zaa _ _)) ?_|with_reducible refine And.imp_right (And.imp_right (And.imp_right (zaa _ _))) ?_|rw[zad]|simp only[zB,Option.map_some,zbd,zdm,h0,h1,List.map_nil,List.nil_append,zaF,Nat.mul_one,Nat.reduceSub,Nat.reduceEqDiff,Nat.reduceAdd,Nat.reduceMul,Nat.reduceLeDiff,Nat.reduceLT,Nat.reduceBEq,reduceCtorEq])
  refine⟨by simp,⟨hL,by omega⟩, ?_⟩
  simp[rfs1,roLe]
set_option maxHeartbeats 1000000 in
theorem zgU (l:List Sess) (hl:l.length<2^62) (t:Int) (c:Sess→Int) (f:Nat) (m:Nat) (hm:m≤l.length) (h1:∀j (hj:j<l.length),j<m→c l[j]<0) (h2:∀j (hj:j<l.length),m≤j→0≤c l[j])
  (hp:∀x∈l,CallOK Tryz.prog f [.f (sessAV x), .f (ai t)] (fun r o=>r=[ri (c x)]∧o=[])):
  CallOK Tryz.prog 106 [.f (al l.length (sessE l)), .f (ai t), .f (.one (.clos f []))] (fun r o=>r=[ri m,rb ((l[m]?.map fun x=>c x==0).getD false)]∧o=[]):=by
 refine zak zaA mixed (T:=Ty) (n:=49) Tryz.func106 (c:=Tryz.f106.body.getD .skip) rfl Tryz.results106 Tryz.ntmps106 Tryz.call106 ?_
 simp only[Tryz.f106,Option.getD]
 repeat(first|with_reducible refine zaa _ _ ?_|with_reducible refine And.imp_right (zaa _ _) ?_|with_reducible refine And.imp_right (And.imp_right (zaa _ _)) ?_|with_reducible refine And.imp_right (And.imp_right (And.imp_right (zaa _ _))) ?_|rw[zad]|simp only[zB,Nat.reduceSub,Nat.reduceEqDiff,Nat.reduceAdd,Nat.reduceMul,Nat.reduceLeDiff,Nat.reduceLT,Nat.reduceBEq,reduceCtorEq])
 refine zau (τ:=Nat×Nat) (fun q=>⟨[al l.length (sessE l),ai t, .one (.clos f []),dd,dd,dd,dd,dd,ai l.length,ai q.1,ai q.2,dd,dd,dd,dd,dd,dd,dd,dd,dd,dd,dd,dd,dd,dd,dd,dd,dd,dd,dd,dd,dd,dd,dd,dd,dd,dd,dd,dd,dd,dd,dd,dd,dd,dd,dd,dd,dd,dd],[]⟩) (fun q=>q.1≤m∧m≤q.2∧q.2≤l.length) (fun _=>()) (fun q=>q.2 - q.1) (0,l.length) (Gh.fgt ?_) ⟨Nat.zero_le _,hm,Nat.le_refl _⟩ ?_
 ·simp only[zaS,zaT,za4,Int.natCast_zero]
 intro⟨lo,hi⟩ ⟨b1,b2,b3⟩ hF K hK
 simp only at b1 b2 b3 hF hK⊢
 repeat(first|with_reducible refine zaa _ _ ?_|with_reducible refine And.imp_right (zaa _ _) ?_|with_reducible refine And.imp_right (And.imp_right (zaa _ _)) ?_|with_reducible refine And.imp_right (And.imp_right (And.imp_right (zaa _ _))) ?_|rw[zad]|simp only[zB,Nat.reduceSub,Nat.reduceEqDiff,Nat.reduceAdd,Nat.reduceMul,Nat.reduceLeDiff,Nat.reduceLT,Nat.reduceBEq,reduceCtorEq])
 refine zac (fun hlt=> ?_) (fun hge=> ?_)
 ·have hlt:lo<hi:=by simpa using hlt
  obtain⟨q,hq⟩:∃q:Nat,q=(lo+hi) / 2:=⟨_,rfl⟩
  have hw1:IntKind.i64.wrap ((lo:Int)+hi)=((lo+hi:Nat):Int):=by rw[wrap64 (by omega) (by omega)];rfl
  have hw2:IntKind.u64.wrap ((lo+hi:Nat):Int)=((lo+hi:Nat):Int):=zf5 (by omega)
  have hw3:IntKind.i64.wrap (((lo+hi:Nat):Int).fdiv (2^(min (Int.toNat 1) IntKind.u64.bits)))=(q:Int):=by
   rw[show(2:Int)^(min (Int.toNat 1) IntKind.u64.bits)=2 by decide,hq,show(((lo+hi:Nat):Int)).fdiv 2=(((lo+hi) / 2:Nat):Int) by rw[Int.fdiv_eq_ediv_of_nonneg _ (by decide)];rfl]
   exact wrap64 (by omega) (by omega)
  have hqh:q<hi:=by omega
  have hql:q<l.length:=by omega
  have hat:=zaV hql
  simp only[List.cons_append,List.nil_append]at hat
  have hcp:=hp _ (List.getElem_mem hql)
  have hw4:IntKind.i64.wrap ((q:Int)+1)=((q+1:Nat):Int):=by rw[wrap64 (by omega) (by omega)];rfl
  have h10:∀(a b:Option Value),(if(1:Int)<0 then a else b)=b:=fun a b=>if_neg (by decide)
  clear hlt
  repeat'(first|with_reducible refine zaa _ _ ?_|rw[zad]|simp only[zB,h10,hw1,hw2,hw3,zax,hat,Nat.mul_one,Nat.reduceSub,Nat.reduceEqDiff,Nat.reduceAdd,Nat.reduceMul,Nat.reduceLeDiff,Nat.reduceLT,Nat.reduceBEq,reduceCtorEq]|((first|((try refine zai ?_);apply zaj)|(apply zah;intro _));(solve|exact(hcp)|(refine CallOK.le (hcp) ?_;exact zM)|fail);try case hn=>rfl)|refine zab ?_|refine zac (fun hb=> ?_) (fun hb=> ?_)|(refine And.intro ?_ ?_;exact zI)|refine And.intro (fun hg=> ?_) (fun hg=> ?_)|exact zC|fail)
  ·have hqm:q<m:=by
    rcases Nat.lt_or_ge q m with h|h
    ·exact h
    ·have:=h2 q hql h
     have hb':c l[q]<0:=by simpa using hb
     omega
   refine hK _ (q+1,hi) (Gh.fgt ?_) ⟨by simp only;omega,b2,b3⟩ trivial (by simp only;omega)
   simp only[hw4,zaS,zaT,za4]
  ·have hqm:m≤q:=by
    rcases Nat.lt_or_ge q m with h|h
    ·have:=h1 q hql h
     have hb':¬c l[q]<0:=by simpa using hb
     omega
    ·exact h
   refine hK _ (lo,q) (Gh.fgt ?_) ⟨b1,hqm,by simp only;omega⟩ trivial (by simp only;omega)
   simp only[zaS,zaT,za4]
 ·have he:lo=m:=by
   have:¬(lo:Int)<hi:=by simpa using hge
   omega
  subst he
  by_cases hlt:lo<l.length
  ·have hat:=zaV hlt
   simp only[List.cons_append,List.nil_append]at hat
   have hcp:=hp _ (List.getElem_mem hlt)
   have hd:decide ((lo:Int)<l.length)=true:=by simpa using hlt
   repeat'(first|with_reducible refine zaa _ _ ?_|rw[zad]|simp only[zB,hd,zax,hat,Nat.mul_one,Nat.reduceSub,Nat.reduceEqDiff,Nat.reduceAdd,Nat.reduceMul,Nat.reduceLeDiff,Nat.reduceLT,Nat.reduceBEq,reduceCtorEq]|((first|((try refine zai ?_);apply zaj)|(apply zah;intro _));(solve|exact(hcp)|(refine CallOK.le (hcp) ?_;exact zM)|fail);try case hn=>rfl)|refine zab ?_|refine zac (fun hb=> ?_) (fun hb=> ?_)|(refine And.intro ?_ ?_;exact zI)|refine And.intro (fun hg=> ?_) (fun hg=> ?_)|exact zC|fail)
   rw[List.getElem?_eq_getElem hlt];rfl
  ·have hd:decide ((lo:Int)<l.length)=false:=by simp;omega
   have hn:l[lo]? =none:=List.getElem?_eq_none (by omega)
   repeat'(first|with_reducible refine zaa _ _ ?_|rw[zad]|simp only[zB,hd,zax,Nat.mul_one,hn,znj,Option.map_none,Nat.reduceSub,Nat.reduceEqDiff,Nat.reduceAdd,Nat.reduceMul,Nat.reduceLeDiff,Nat.reduceLT,Nat.reduceBEq,reduceCtorEq]|refine zab ?_|refine zac (fun hb=> ?_) (fun hb=> ?_)|(refine And.intro ?_ ?_;exact zI)|refine And.intro (fun hg=> ?_) (fun hg=> ?_)|exact zC|fail)
set_option maxHeartbeats 1000000 in
theorem zgV (l:List Memo) (hl:l.length<2^62) (t:Int) (c:Memo→Int) (f:Nat) (m:Nat) (hm:m≤l.length) (h1:∀j (hj:j<l.length),j<m→c l[j]<0) (h2:∀j (hj:j<l.length),m≤j→0≤c l[j])
  (hp:∀x∈l,CallOK Tryz.prog f [.f (memoAV x), .f (ai t)] (fun r o=>r=[ri (c x)]∧o=[])):
  CallOK Tryz.prog 110 [.f (al l.length (memosE l)), .f (ai t), .f (.one (.clos f []))] (fun r o=>r=[ri m,rb ((l[m]?.map fun x=>c x==0).getD false)]∧o=[]):=by
 refine zak zaA mixed (T:=Ty) (n:=49) Tryz.func110 (c:=Tryz.f110.body.getD .skip) rfl Tryz.results110 Tryz.ntmps110 Tryz.call110 ?_
 simp only[Tryz.f110,Option.getD]
 repeat(first|with_reducible refine zaa _ _ ?_|with_reducible refine And.imp_right (zaa _ _) ?_|with_reducible refine And.imp_right (And.imp_right (zaa _ _)) ?_|with_reducible refine And.imp_right (And.imp_right (And.imp_right (zaa _ _))) ?_|rw[zad]|simp only[zB,Nat.reduceSub,Nat.reduceEqDiff,Nat.reduceAdd,Nat.reduceMul,Nat.reduceLeDiff,Nat.reduceLT,Nat.reduceBEq,reduceCtorEq])
 refine zau (τ:=Nat×Nat) (fun q=>⟨[al l.length (memosE l),ai t, .one (.clos f []),dd,dd,dd,dd,dd,ai l.length,ai q.1,ai q.2,dd,dd,dd,dd,dd,dd,dd,dd,dd,dd,dd,dd,dd,dd,dd,dd,dd,dd,dd,dd,dd,dd,dd,dd,dd,dd,dd,dd,dd,dd,dd,dd,dd,dd,dd,dd,dd,dd],[]⟩) (fun q=>q.1≤m∧m≤q.2∧q.2≤l.length) (fun _=>()) (fun q=>q.2 - q.1) (0,l.length) (Gh.fgt ?_) ⟨Nat.zero_le _,hm,Nat.le_refl _⟩ ?_
 ·simp only[zaS,zaT,za4,Int.natCast_zero]
 intro⟨lo,hi⟩ ⟨b1,b2,b3⟩ hF K hK
 simp only at b1 b2 b3 hF hK⊢
 repeat(first|with_reducible refine zaa _ _ ?_|with_reducible refine And.imp_right (zaa _ _) ?_|with_reducible refine And.imp_right (And.imp_right (zaa _ _)) ?_|with_reducible refine And.imp_right (And.imp_right (And.imp_right (zaa _ _))) ?_|rw[zad]|simp only[zB,Nat.reduceSub,Nat.reduceEqDiff,Nat.reduceAdd,Nat.reduceMul,Nat.reduceLeDiff,Nat.reduceLT,Nat.reduceBEq,reduceCtorEq])
 refine zac (fun hlt=> ?_) (fun hge=> ?_)
 ·have hlt:lo<hi:=by simpa using hlt
  obtain⟨q,hq⟩:∃q:Nat,q=(lo+hi) / 2:=⟨_,rfl⟩
  have hw1:IntKind.i64.wrap ((lo:Int)+hi)=((lo+hi:Nat):Int):=by rw[wrap64 (by omega) (by omega)];rfl
  have hw2:IntKind.u64.wrap ((lo+hi:Nat):Int)=((lo+hi:Nat):Int):=zf5 (by omega)
  have hw3:IntKind.i64.wrap (((lo+hi:Nat):Int).fdiv (2^(min (Int.toNat 1) IntKind.u64.bits)))=(q:Int):=by
   rw[show(2:Int)^(min (Int.toNat 1) IntKind.u64.bits)=2 by decide,hq,show(((lo+hi:Nat):Int)).fdiv 2=(((lo+hi) / 2:Nat):Int) by rw[Int.fdiv_eq_ediv_of_nonneg _ (by decide)];rfl]
   exact wrap64 (by omega) (by omega)
  have hqh:q<hi:=by omega
  have hql:q<l.length:=by omega
  have hat:=za2 hql
  simp only[List.cons_append,List.nil_append]at hat
  have hcp:=hp _ (List.getElem_mem hql)
  have hw4:IntKind.i64.wrap ((q:Int)+1)=((q+1:Nat):Int):=by rw[wrap64 (by omega) (by omega)];rfl
  have h10:∀(a b:Option Value),(if(1:Int)<0 then a else b)=b:=fun a b=>if_neg (by decide)
  clear hlt
  repeat'(first|with_reducible refine zaa _ _ ?_|rw[zad]|simp only[zB,h10,hw1,hw2,hw3,zaD,hat,Nat.mul_one,Nat.reduceSub,Nat.reduceEqDiff,Nat.reduceAdd,Nat.reduceMul,Nat.reduceLeDiff,Nat.reduceLT,Nat.reduceBEq,reduceCtorEq]|((first|((try refine zai ?_);apply zaj)|(apply zah;intro _));(solve|exact(hcp)|(refine CallOK.le (hcp) ?_;exact zM)|fail);try case hn=>rfl)|refine zab ?_|refine zac (fun hb=> ?_) (fun hb=> ?_)|(refine And.intro ?_ ?_;exact zI)|refine And.intro (fun hg=> ?_) (fun hg=> ?_)|exact zC|fail)
  ·have hqm:q<m:=by
    rcases Nat.lt_or_ge q m with h|h
    ·exact h
    ·have:=h2 q hql h
     have hb':c l[q]<0:=by simpa using hb
     omega
   refine hK _ (q+1,hi) (Gh.fgt ?_) ⟨by simp only;omega,b2,b3⟩ trivial (by simp only;omega)
   simp only[hw4,zaS,zaT,za4]
  ·have hqm:m≤q:=by
    rcases Nat.lt_or_ge q m with h|h
    ·have:=h1 q hql h
     have hb':¬c l[q]<0:=by simpa using hb
     omega
    ·exact h
   refine hK _ (lo,q) (Gh.fgt ?_) ⟨b1,hqm,by simp only;omega⟩ trivial (by simp only;omega)
   simp only[zaS,zaT,za4]
 ·have he:lo=m:=by
   have:¬(lo:Int)<hi:=by simpa using hge
   omega
  subst he
  by_cases hlt:lo<l.length
  ·have hat:=za2 hlt
   simp only[List.cons_append,List.nil_append]at hat
   have hcp:=hp _ (List.getElem_mem hlt)
   have hd:decide ((lo:Int)<l.length)=true:=by simpa using hlt
   repeat'(first|with_reducible refine zaa _ _ ?_|rw[zad]|simp only[zB,hd,zaD,hat,Nat.mul_one,Nat.reduceSub,Nat.reduceEqDiff,Nat.reduceAdd,Nat.reduceMul,Nat.reduceLeDiff,Nat.reduceLT,Nat.reduceBEq,reduceCtorEq]|((first|((try refine zai ?_);apply zaj)|(apply zah;intro _));(solve|exact(hcp)|(refine CallOK.le (hcp) ?_;exact zM)|fail);try case hn=>rfl)|refine zab ?_|refine zac (fun hb=> ?_) (fun hb=> ?_)|(refine And.intro ?_ ?_;exact zI)|refine And.intro (fun hg=> ?_) (fun hg=> ?_)|exact zC|fail)
   rw[List.getElem?_eq_getElem hlt];rfl
  ·have hd:decide ((lo:Int)<l.length)=false:=by simp;omega
   have hn:l[lo]? =none:=List.getElem?_eq_none (by omega)
   repeat'(first|with_reducible refine zaa _ _ ?_|rw[zad]|simp only[zB,hd,zaD,Nat.mul_one,hn,znj,Option.map_none,Nat.reduceSub,Nat.reduceEqDiff,Nat.reduceAdd,Nat.reduceMul,Nat.reduceLeDiff,Nat.reduceLT,Nat.reduceBEq,reduceCtorEq]|refine zab ?_|refine zac (fun hb=> ?_) (fun hb=> ?_)|(refine And.intro ?_ ?_;exact zI)|refine And.intro (fun hg=> ?_) (fun hg=> ?_)|exact zC|fail)
set_option maxHeartbeats 1000000 in
theorem zgW (l:List Lk) (hl:l.length<2^62) (t:ByteArray) (c:Lk→Int) (f:Nat) (m:Nat) (hm:m≤l.length) (h1:∀j (hj:j<l.length),j<m→c l[j]<0) (h2:∀j (hj:j<l.length),m≤j→0≤c l[j])
  (hp:∀x∈l,CallOK Tryz.prog f [.f (lockAV x), .f (ast t)] (fun r o=>r=[ri (c x)]∧o=[])):
  CallOK Tryz.prog 135 [.f (al l.length (locksE l)), .f (ast t), .f (.one (.clos f []))] (fun r o=>r=[ri m,rb ((l[m]?.map fun x=>c x==0).getD false)]∧o=[]):=by
 refine zak zaA mixed (T:=Ty) (n:=49) Tryz.func135 (c:=Tryz.f135.body.getD .skip) rfl Tryz.results135 Tryz.ntmps135 Tryz.call135 ?_
 simp only[Tryz.f135,Option.getD]
 repeat(first|with_reducible refine zaa _ _ ?_|with_reducible refine And.imp_right (zaa _ _) ?_|with_reducible refine And.imp_right (And.imp_right (zaa _ _)) ?_|with_reducible refine And.imp_right (And.imp_right (And.imp_right (zaa _ _))) ?_|rw[zad]|simp only[zB,Nat.reduceSub,Nat.reduceEqDiff,Nat.reduceAdd,Nat.reduceMul,Nat.reduceLeDiff,Nat.reduceLT,Nat.reduceBEq,reduceCtorEq])
 refine zau (τ:=Nat×Nat) (fun q=>⟨[al l.length (locksE l),ast t, .one (.clos f []),dd,dd,dd,dd,dd,ai l.length,ai q.1,ai q.2,dd,dd,dd,dd,dd,dd,dd,dd,dd,dd,dd,dd,dd,dd,dd,dd,dd,dd,dd,dd,dd,dd,dd,dd,dd,dd,dd,dd,dd,dd,dd,dd,dd,dd,dd,dd,dd,dd],[]⟩) (fun q=>q.1≤m∧m≤q.2∧q.2≤l.length) (fun _=>()) (fun q=>q.2 - q.1) (0,l.length) (Gh.fgt ?_) ⟨Nat.zero_le _,hm,Nat.le_refl _⟩ ?_
 ·simp only[zaS,zaT,za4,Int.natCast_zero]
 intro⟨lo,hi⟩ ⟨b1,b2,b3⟩ hF K hK
 simp only at b1 b2 b3 hF hK⊢
 repeat(first|with_reducible refine zaa _ _ ?_|with_reducible refine And.imp_right (zaa _ _) ?_|with_reducible refine And.imp_right (And.imp_right (zaa _ _)) ?_|with_reducible refine And.imp_right (And.imp_right (And.imp_right (zaa _ _))) ?_|rw[zad]|simp only[zB,Nat.reduceSub,Nat.reduceEqDiff,Nat.reduceAdd,Nat.reduceMul,Nat.reduceLeDiff,Nat.reduceLT,Nat.reduceBEq,reduceCtorEq])
 refine zac (fun hlt=> ?_) (fun hge=> ?_)
 ·have hlt:lo<hi:=by simpa using hlt
  obtain⟨q,hq⟩:∃q:Nat,q=(lo+hi) / 2:=⟨_,rfl⟩
  have hw1:IntKind.i64.wrap ((lo:Int)+hi)=((lo+hi:Nat):Int):=by rw[wrap64 (by omega) (by omega)];rfl
  have hw2:IntKind.u64.wrap ((lo+hi:Nat):Int)=((lo+hi:Nat):Int):=zf5 (by omega)
  have hw3:IntKind.i64.wrap (((lo+hi:Nat):Int).fdiv (2^(min (Int.toNat 1) IntKind.u64.bits)))=(q:Int):=by
   rw[show(2:Int)^(min (Int.toNat 1) IntKind.u64.bits)=2 by decide,hq,show(((lo+hi:Nat):Int)).fdiv 2=(((lo+hi) / 2:Nat):Int) by rw[Int.fdiv_eq_ediv_of_nonneg _ (by decide)];rfl]
   exact wrap64 (by omega) (by omega)
  have hqh:q<hi:=by omega
  have hql:q<l.length:=by omega
  have hat:=zaG hql
  simp only[List.cons_append,List.nil_append]at hat
  have hcp:=hp _ (List.getElem_mem hql)
  have hw4:IntKind.i64.wrap ((q:Int)+1)=((q+1:Nat):Int):=by rw[wrap64 (by omega) (by omega)];rfl
  have h10:∀(a b:Option Value),(if(1:Int)<0 then a else b)=b:=fun a b=>if_neg (by decide)
  clear hlt
  repeat'(first|with_reducible refine zaa _ _ ?_|rw[zad]|simp only[zB,h10,hw1,hw2,hw3,zam,hat,Nat.mul_one,Nat.reduceSub,Nat.reduceEqDiff,Nat.reduceAdd,Nat.reduceMul,Nat.reduceLeDiff,Nat.reduceLT,Nat.reduceBEq,reduceCtorEq]|((first|((try refine zai ?_);apply zaj)|(apply zah;intro _));(solve|exact(hcp)|(refine CallOK.le (hcp) ?_;exact zM)|fail);try case hn=>rfl)|refine zab ?_|refine zac (fun hb=> ?_) (fun hb=> ?_)|(refine And.intro ?_ ?_;exact zI)|refine And.intro (fun hg=> ?_) (fun hg=> ?_)|exact zC|fail)
  ·have hqm:q<m:=by
    rcases Nat.lt_or_ge q m with h|h
    ·exact h
    ·have:=h2 q hql h
     have hb':c l[q]<0:=by simpa using hb
     omega
   refine hK _ (q+1,hi) (Gh.fgt ?_) ⟨by simp only;omega,b2,b3⟩ trivial (by simp only;omega)
   simp only[hw4,zaS,zaT,za4]
  ·have hqm:m≤q:=by
    rcases Nat.lt_or_ge q m with h|h
    ·have:=h1 q hql h
     have hb':¬c l[q]<0:=by simpa using hb
     omega
    ·exact h
   refine hK _ (lo,q) (Gh.fgt ?_) ⟨b1,hqm,by simp only;omega⟩ trivial (by simp only;omega)
   simp only[zaS,zaT,za4]
 ·have he:lo=m:=by
   have:¬(lo:Int)<hi:=by simpa using hge
   omega
  subst he
  by_cases hlt:lo<l.length
  ·have hat:=zaG hlt
   simp only[List.cons_append,List.nil_append]at hat
   have hcp:=hp _ (List.getElem_mem hlt)
   have hd:decide ((lo:Int)<l.length)=true:=by simpa using hlt
   repeat'(first|with_reducible refine zaa _ _ ?_|rw[zad]|simp only[zB,hd,zam,hat,Nat.mul_one,Nat.reduceSub,Nat.reduceEqDiff,Nat.reduceAdd,Nat.reduceMul,Nat.reduceLeDiff,Nat.reduceLT,Nat.reduceBEq,reduceCtorEq]|((first|((try refine zai ?_);apply zaj)|(apply zah;intro _));(solve|exact(hcp)|(refine CallOK.le (hcp) ?_;exact zM)|fail);try case hn=>rfl)|refine zab ?_|refine zac (fun hb=> ?_) (fun hb=> ?_)|(refine And.intro ?_ ?_;exact zI)|refine And.intro (fun hg=> ?_) (fun hg=> ?_)|exact zC|fail)
   rw[List.getElem?_eq_getElem hlt];rfl
  ·have hd:decide ((lo:Int)<l.length)=false:=by simp;omega
   have hn:l[lo]? =none:=List.getElem?_eq_none (by omega)
   repeat'(first|with_reducible refine zaa _ _ ?_|rw[zad]|simp only[zB,hd,zam,Nat.mul_one,hn,znj,Option.map_none,Nat.reduceSub,Nat.reduceEqDiff,Nat.reduceAdd,Nat.reduceMul,Nat.reduceLeDiff,Nat.reduceLT,Nat.reduceBEq,reduceCtorEq]|refine zab ?_|refine zac (fun hb=> ?_) (fun hb=> ?_)|(refine And.intro ?_ ?_;exact zI)|refine And.intro (fun hg=> ?_) (fun hg=> ?_)|exact zC|fail)
end Go.Proofs.YtniafckaafcpbaaGreat
