import Derived.Test.YtngleemijkaeoaaGreatC
namespace Go.Proofs.YtngleemijkaeoaaGreat
open Go.Pk
set_option maxRecDepth 100000
set_option linter.unusedSimpArgs false
set_option linter.unusedVariables false
def zck {α:Type} (p:α→Bool):List α→Int→Int
 |[],_=> -1
 |x::l,i=>if p x=true then i else zck p l (i+1)
theorem zdu {α:Type} (p:α→Bool) (l:List α):decide (zck p l 0≥0)=l.any p:=by
 have h:∀(l:List α) (i:Int),0≤i→(0≤zck p l i↔l.any p=true):=by
  intro l
  induction l with
  |nil=>intro i _;simp[zck]
  |cons x l ih=>
   intro i hi
   simp only[zck]
   by_cases hx:p x=true
   ·simp[hx,hi]
   ·rw[if_neg hx,ih (i+1) (by omega)];simp[hx]
 rw[Bool.eq_iff_iff]
 simpa using h l 0 (Int.le_refl _)
theorem zfe {k:Nat}:toDs (sub 0 0 k [])=some []:=by unfold sub;simp[toDs]
theorem zh9 {a b:RO}:zbj [.one a] [.one b]=(za4 a b∧True):=rfl
theorem zan {i n:Nat} (h:i<n) (hn:n<2^62):IntKind.i64.wrap ((i:Int)+1)=((i+1:Nat):Int):=by rw[wrap64 (by omega) (by omega)];rfl
theorem zjh {n:Nat} (h:n<2^63):IntKind.u64.wrap (n:Int)=n:=by
 unfold IntKind.wrap
 simp[IntKind.signed,IntKind.bits]
 omega
theorem ztf:Go.Pk.bad.x= .one .dead:=rfl
abbrev ztg:Int→AV:=fun x=> .one (di x)
abbrev zhk:Sess→AV:=fun x=> .agg (x.enc.map C.d)
abbrev zky:Lk→AV:=fun x=> .agg (x.enc.map C.d)
abbrev zsr:Memo→AV:=fun x=> .agg (x.enc.map C.d)
theorem zkz (l:List Int) (hl:l.length<2^62) (p:Int→Bool) (f:Nat) (caps:List C) (hc:lendAs [] (caps.map AV.one)=some (caps.map fun c=> .f (.one c)))
  (hp:∀x∈l,CallOK Tryz.prog f (.f (ztg x)::caps.map fun c=> .f (.one c)) (fun r o=>r=[rb (p x)]∧o=[])):
  CallOK Tryz.prog 144 [.f (al l.length (zaw l)), .f (.one (.clos f caps))] (fun r o=>r=[ri (zck p l 0)]∧o=[]):=by
 refine zac zar mixed (T:=Ty) (n:=19) Tryz.func144 (c:=Tryz.f144.body.getD .skip) rfl Tryz.results144 Tryz.ntmps144 Tryz.call144 ?_
 simp only[Tryz.f144,Option.getD]
 refine zw ?_
 refine zao (τ:=Nat) (fun i=>⟨[al l.length (zaw l), .one (.clos f caps),dd,dd,ai 0,dd,al l.length (zaw l),ai l.length,ai i,dd,dd,dd,dd,dd,dd,dd,dd,dd,dd],[]⟩) (fun i=>i≤l.length) (fun i=>zck p (l.drop i) i) (fun i=>l.length - i) 0 (Gh.fgt ?_) (Nat.zero_le _) ?_
 ·simp only[zaR,zaS,za5,Int.natCast_zero]
 intro i hi0 hF K hK
 refine zw ?_
 rw[zcL]
 refine⟨trivial,fun hlt=> ?_,fun hge=> ?_⟩
 ·have hi:i<l.length:=by simpa using hlt
  rw[List.drop_eq_getElem_cons hi,zck]at hF
  have hat:=ints_at hi
  simp only[List.cons_append,List.nil_append]at hat
  repeat(first|with_reducible refine zab _ _ ?_|with_reducible refine And.imp_right (zab _ _) ?_|with_reducible refine And.imp_right (And.imp_right (zab _ _)) ?_|with_reducible refine And.imp_right (And.imp_right (And.imp_right (zab _ _))) ?_|rw[zaj]|simp only[zB,zm3,hat,hc,Nat.reduceSub,Nat.reduceEqDiff,Nat.reduceAdd,Nat.reduceMul,Nat.reduceLeDiff,Nat.reduceLT,Nat.reduceBEq,reduceCtorEq])
  refine⟨⟨Int.natCast_nonneg i,by omega⟩, ?_⟩
  refine zaA (hp _ (List.getElem_mem hi)) ?_
  refine zw ?_
  refine zaa (fun hb=> ?_) (fun hb=> ?_)
  ·rw[if_pos hb]at hF
   refine zw ?_
   rw[hF];rfl
  ·rw[if_neg (by simp[hb])]at hF
   refine zw ?_
   refine hK _ (i+1) (Gh.fgt ?_) hi (by simp only[List.drop_eq_getElem_cons hi,zck];rw[if_neg (by simp[hb])];rfl) (by omega)
   have hw:IntKind.i64.wrap ((i:Int)+1)=((i+1:Nat):Int):=by rw[wrap64 (by omega) (by omega)];rfl
   simp only[hw,zaR,zaS,za5]
 ·have hi:i=l.length:=by
   have:¬(i:Int)<l.length:=by simpa using hge
   omega
  rw[hi,List.drop_length,zck]at hF
  refine zw ?_
  rw[hF];rfl
theorem zit (l:List Sess) (hl:l.length<2^62) (p:Sess→Bool) (f:Nat) (caps:List C) (hc:lendAs [] (caps.map AV.one)=some (caps.map fun c=> .f (.one c)))
  (hp:∀x∈l,CallOK Tryz.prog f (.f (zhk x)::caps.map fun c=> .f (.one c)) (fun r o=>r=[rb (p x)]∧o=[])):
  CallOK Tryz.prog 116 [.f (al l.length (zaE l)), .f (.one (.clos f caps))] (fun r o=>r=[ri (zck p l 0)]∧o=[]):=by
 refine zac zar mixed (T:=Ty) (n:=19) Tryz.func116 (c:=Tryz.f116.body.getD .skip) rfl Tryz.results116 Tryz.ntmps116 Tryz.call116 ?_
 simp only[Tryz.f116,Option.getD]
 refine zw ?_
 refine zao (τ:=Nat) (fun i=>⟨[al l.length (zaE l), .one (.clos f caps),dd,dd,ai 0,dd,al l.length (zaE l),ai l.length,ai i,dd,dd,dd,dd,dd,dd,dd,dd,dd,dd],[]⟩) (fun i=>i≤l.length) (fun i=>zck p (l.drop i) i) (fun i=>l.length - i) 0 (Gh.fgt ?_) (Nat.zero_le _) ?_
 ·simp only[zaR,zaS,za5,Int.natCast_zero]
 intro i hi0 hF K hK
 refine zw ?_
 rw[zcL]
 refine⟨trivial,fun hlt=> ?_,fun hge=> ?_⟩
 ·have hi:i<l.length:=by simpa using hlt
  rw[List.drop_eq_getElem_cons hi,zck]at hF
  have hat:=zbM hi
  simp only[List.cons_append,List.nil_append]at hat
  repeat(first|with_reducible refine zab _ _ ?_|with_reducible refine And.imp_right (zab _ _) ?_|with_reducible refine And.imp_right (And.imp_right (zab _ _)) ?_|with_reducible refine And.imp_right (And.imp_right (And.imp_right (zab _ _))) ?_|rw[zaj]|simp only[zB,zai,hat,hc,Nat.reduceSub,Nat.reduceEqDiff,Nat.reduceAdd,Nat.reduceMul,Nat.reduceLeDiff,Nat.reduceLT,Nat.reduceBEq,reduceCtorEq])
  refine⟨⟨Int.natCast_nonneg i,by omega⟩, ?_⟩
  refine zaA (hp _ (List.getElem_mem hi)) ?_
  refine zw ?_
  refine zaa (fun hb=> ?_) (fun hb=> ?_)
  ·rw[if_pos hb]at hF
   refine zw ?_
   rw[hF];rfl
  ·rw[if_neg (by simp[hb])]at hF
   refine zw ?_
   refine hK _ (i+1) (Gh.fgt ?_) hi (by simp only[List.drop_eq_getElem_cons hi,zck];rw[if_neg (by simp[hb])];rfl) (by omega)
   have hw:IntKind.i64.wrap ((i:Int)+1)=((i+1:Nat):Int):=by rw[wrap64 (by omega) (by omega)];rfl
   simp only[hw,zaR,zaS,za5]
 ·have hi:i=l.length:=by
   have:¬(i:Int)<l.length:=by simpa using hge
   omega
  rw[hi,List.drop_length,zck]at hF
  refine zw ?_
  rw[hF];rfl
theorem znV (l:List Lk) (hl:l.length<2^62) (p:Lk→Bool) (f:Nat) (caps:List C) (hc:lendAs [] (caps.map AV.one)=some (caps.map fun c=> .f (.one c)))
  (hp:∀x∈l,CallOK Tryz.prog f (.f (zky x)::caps.map fun c=> .f (.one c)) (fun r o=>r=[rb (p x)]∧o=[])):
  CallOK Tryz.prog 181 [.f (al l.length (zaf l)), .f (.one (.clos f caps))] (fun r o=>r=[ri (zck p l 0)]∧o=[]):=by
 refine zac zar mixed (T:=Ty) (n:=19) Tryz.func181 (c:=Tryz.f181.body.getD .skip) rfl Tryz.results181 Tryz.ntmps181 Tryz.call181 ?_
 simp only[Tryz.f181,Option.getD]
 refine zw ?_
 refine zao (τ:=Nat) (fun i=>⟨[al l.length (zaf l), .one (.clos f caps),dd,dd,ai 0,dd,al l.length (zaf l),ai l.length,ai i,dd,dd,dd,dd,dd,dd,dd,dd,dd,dd],[]⟩) (fun i=>i≤l.length) (fun i=>zck p (l.drop i) i) (fun i=>l.length - i) 0 (Gh.fgt ?_) (Nat.zero_le _) ?_
 ·simp only[zaR,zaS,za5,Int.natCast_zero]
 intro i hi0 hF K hK
 refine zw ?_
 rw[zcL]
 refine⟨trivial,fun hlt=> ?_,fun hge=> ?_⟩
 ·have hi:i<l.length:=by simpa using hlt
  rw[List.drop_eq_getElem_cons hi,zck]at hF
  have hat:=zaO hi
  simp only[List.cons_append,List.nil_append]at hat
  repeat(first|with_reducible refine zab _ _ ?_|with_reducible refine And.imp_right (zab _ _) ?_|with_reducible refine And.imp_right (And.imp_right (zab _ _)) ?_|with_reducible refine And.imp_right (And.imp_right (And.imp_right (zab _ _))) ?_|rw[zaj]|simp only[zB,zae,hat,hc,Nat.reduceSub,Nat.reduceEqDiff,Nat.reduceAdd,Nat.reduceMul,Nat.reduceLeDiff,Nat.reduceLT,Nat.reduceBEq,reduceCtorEq])
  refine⟨⟨Int.natCast_nonneg i,by omega⟩, ?_⟩
  refine zaA (hp _ (List.getElem_mem hi)) ?_
  refine zw ?_
  refine zaa (fun hb=> ?_) (fun hb=> ?_)
  ·rw[if_pos hb]at hF
   refine zw ?_
   rw[hF];rfl
  ·rw[if_neg (by simp[hb])]at hF
   refine zw ?_
   refine hK _ (i+1) (Gh.fgt ?_) hi (by simp only[List.drop_eq_getElem_cons hi,zck];rw[if_neg (by simp[hb])];rfl) (by omega)
   have hw:IntKind.i64.wrap ((i:Int)+1)=((i+1:Nat):Int):=by rw[wrap64 (by omega) (by omega)];rfl
   simp only[hw,zaR,zaS,za5]
 ·have hi:i=l.length:=by
   have:¬(i:Int)<l.length:=by simpa using hge
   omega
  rw[hi,List.drop_length,zck]at hF
  refine zw ?_
  rw[hF];rfl
theorem zji (l:List Sess) (hl:l.length<2^62) (p:Sess→Bool) (f:Nat) (caps:List C) (hc:lendAs [] (caps.map AV.one)=some (caps.map fun c=> .f (.one c))) (hc2:lendC.lendCs [] caps=some caps)
  (hp:∀x∈l,CallOK Tryz.prog f (.f (zhk x)::caps.map fun c=> .f (.one c)) (fun r o=>r=[rb (p x)]∧o=[])):
  CallOK Tryz.prog 168 [.f (al l.length (zaE l)), .f (.one (.clos f caps))] (fun r o=>r=[rb (l.any p)]∧o=[]):=by
 refine zac zar mixed (T:=Ty) (n:=9) Tryz.func168 (c:=Tryz.f168.body.getD .skip) rfl Tryz.results168 Tryz.ntmps168 Tryz.call168 ?_
 simp only[Tryz.f168,Option.getD]
 repeat(first|with_reducible refine zab _ _ ?_|with_reducible refine And.imp_right (zab _ _) ?_|with_reducible refine And.imp_right (And.imp_right (zab _ _)) ?_|with_reducible refine And.imp_right (And.imp_right (And.imp_right (zab _ _))) ?_|rw[zaj]|simp only[zB,hc2,Nat.reduceSub,Nat.reduceEqDiff,Nat.reduceAdd,Nat.reduceMul,Nat.reduceLeDiff,Nat.reduceLT,Nat.reduceBEq,reduceCtorEq])
 refine zaA (zit l hl p f caps hc hp) ?_
 refine zw ?_
 rw[zdu]
theorem zjj (l:List Lk) (hl:l.length<2^62) (p:Lk→Bool) (f:Nat) (caps:List C) (hc:lendAs [] (caps.map AV.one)=some (caps.map fun c=> .f (.one c))) (hc2:lendC.lendCs [] caps=some caps)
  (hp:∀x∈l,CallOK Tryz.prog f (.f (zky x)::caps.map fun c=> .f (.one c)) (fun r o=>r=[rb (p x)]∧o=[])):
  CallOK Tryz.prog 176 [.f (al l.length (zaf l)), .f (.one (.clos f caps))] (fun r o=>r=[rb (l.any p)]∧o=[]):=by
 refine zac zar mixed (T:=Ty) (n:=9) Tryz.func176 (c:=Tryz.f176.body.getD .skip) rfl Tryz.results176 Tryz.ntmps176 Tryz.call176 ?_
 simp only[Tryz.f176,Option.getD]
 repeat(first|with_reducible refine zab _ _ ?_|with_reducible refine And.imp_right (zab _ _) ?_|with_reducible refine And.imp_right (And.imp_right (zab _ _)) ?_|with_reducible refine And.imp_right (And.imp_right (And.imp_right (zab _ _))) ?_|rw[zaj]|simp only[zB,hc2,Nat.reduceSub,Nat.reduceEqDiff,Nat.reduceAdd,Nat.reduceMul,Nat.reduceLeDiff,Nat.reduceLT,Nat.reduceBEq,reduceCtorEq])
 refine zaA (znV l hl p f caps hc hp) ?_
 refine zw ?_
 rw[zdu]
theorem zc5 (n:Nat) (L:List D) (hL:L.length=n) (hn:n<2^40):CallOK Tryz.prog 72 [.f (al n L)] (fun r o=>r=[.one (.own 1 n L false)]∧o=[]):=by
 refine CallOK.nil ?_
 refine zac zar mixed (T:=Ty) (n:=8) Tryz.func72 (c:=Tryz.f72.body.getD .skip) rfl Tryz.results72 Tryz.ntmps72 Tryz.call72 ?_
 simp only[Tryz.f72,Option.getD]
 rcases Nat.eq_zero_or_pos n with rfl|hp
 ·obtain rfl:L=[]:=List.eq_nil_of_length_eq_zero (by omega)
  repeat(first|with_reducible refine zab _ _ ?_|with_reducible refine And.imp_right (zab _ _) ?_|with_reducible refine And.imp_right (And.imp_right (zab _ _)) ?_|with_reducible refine And.imp_right (And.imp_right (And.imp_right (zab _ _))) ?_|rw[zaj]|simp only[zB,Option.map_some,zbV,zfe,Nat.mul_one,Nat.reduceSub,Nat.reduceEqDiff,Nat.reduceAdd,Nat.reduceMul,Nat.reduceLeDiff,Nat.reduceLT,Nat.reduceBEq,reduceCtorEq])
  refine⟨?_, ?_, ?_⟩
  ·repeat(first|with_reducible refine zab _ _ ?_|with_reducible refine And.imp_right (zab _ _) ?_|with_reducible refine And.imp_right (And.imp_right (zab _ _)) ?_|with_reducible refine And.imp_right (And.imp_right (And.imp_right (zab _ _))) ?_|rw[zaj]|simp only[zB,List.map_nil,Nat.reduceSub,Nat.reduceEqDiff,Nat.reduceAdd,Nat.reduceMul,Nat.reduceLeDiff,Nat.reduceLT,Nat.reduceBEq,reduceCtorEq])
   simp[zh9,za4]
  ·simp
  ·repeat(first|with_reducible refine zab _ _ ?_|with_reducible refine And.imp_right (zab _ _) ?_|with_reducible refine And.imp_right (And.imp_right (zab _ _)) ?_|with_reducible refine And.imp_right (And.imp_right (And.imp_right (zab _ _))) ?_|rw[zaj]|simp only[zB,List.map_nil,Nat.reduceSub,Nat.reduceEqDiff,Nat.reduceAdd,Nat.reduceMul,Nat.reduceLeDiff,Nat.reduceLT,Nat.reduceBEq,reduceCtorEq])
   simp[zh9,za4]
 ·have h0:n≠0:=by omega
  have h1:L≠[]:=fun h=>by rw[h]at hL;simp at hL;omega
  repeat(first|with_reducible refine zab _ _ ?_|with_reducible refine And.imp_right (zab _ _) ?_|with_reducible refine And.imp_right (And.imp_right (zab _ _)) ?_|with_reducible refine And.imp_right (And.imp_right (And.imp_right (zab _ _))) ?_|rw[zaj]|simp only[zB,Option.map_some,zbV,zfe,h0,h1,Nat.mul_one,Nat.reduceSub,Nat.reduceEqDiff,Nat.reduceAdd,Nat.reduceMul,Nat.reduceLeDiff,Nat.reduceLT,Nat.reduceBEq,reduceCtorEq])
  refine⟨trivial,fun hb=>by simp at hb,fun hb=> ?_⟩
  repeat(first|with_reducible refine zab _ _ ?_|with_reducible refine And.imp_right (zab _ _) ?_|with_reducible refine And.imp_right (And.imp_right (zab _ _)) ?_|with_reducible refine And.imp_right (And.imp_right (And.imp_right (zab _ _))) ?_|rw[zaj]|simp only[zB,Option.map_some,zbV,zfe,h0,h1,List.map_nil,List.nil_append,zaG,Nat.mul_one,Nat.reduceSub,Nat.reduceEqDiff,Nat.reduceAdd,Nat.reduceMul,Nat.reduceLeDiff,Nat.reduceLT,Nat.reduceBEq,reduceCtorEq])
  refine⟨by simp,⟨hL,by omega⟩, ?_⟩
  simp[zh9,za4]
theorem zeJ (n:Nat) (L:List D) (hL:L.length=n*3) (hn:n<2^40):CallOK Tryz.prog 70 [.f (al n L)] (fun r o=>r=[.one (.own 3 n L false)]∧o=[]):=by
 refine CallOK.nil ?_
 refine zac zar mixed (T:=Ty) (n:=8) Tryz.func70 (c:=Tryz.f70.body.getD .skip) rfl Tryz.results70 Tryz.ntmps70 Tryz.call70 ?_
 simp only[Tryz.f70,Option.getD]
 rcases Nat.eq_zero_or_pos n with rfl|hp
 ·obtain rfl:L=[]:=List.eq_nil_of_length_eq_zero (by omega)
  repeat(first|with_reducible refine zab _ _ ?_|with_reducible refine And.imp_right (zab _ _) ?_|with_reducible refine And.imp_right (And.imp_right (zab _ _)) ?_|with_reducible refine And.imp_right (And.imp_right (And.imp_right (zab _ _))) ?_|rw[zaj]|simp only[zB,Option.map_some,zbV,zfe,Nat.mul_one,Nat.reduceSub,Nat.reduceEqDiff,Nat.reduceAdd,Nat.reduceMul,Nat.reduceLeDiff,Nat.reduceLT,Nat.reduceBEq,reduceCtorEq])
  refine⟨?_, ?_, ?_⟩
  ·repeat(first|with_reducible refine zab _ _ ?_|with_reducible refine And.imp_right (zab _ _) ?_|with_reducible refine And.imp_right (And.imp_right (zab _ _)) ?_|with_reducible refine And.imp_right (And.imp_right (And.imp_right (zab _ _))) ?_|rw[zaj]|simp only[zB,List.map_nil,Nat.reduceSub,Nat.reduceEqDiff,Nat.reduceAdd,Nat.reduceMul,Nat.reduceLeDiff,Nat.reduceLT,Nat.reduceBEq,reduceCtorEq])
   simp[zh9,za4]
  ·simp
  ·repeat(first|with_reducible refine zab _ _ ?_|with_reducible refine And.imp_right (zab _ _) ?_|with_reducible refine And.imp_right (And.imp_right (zab _ _)) ?_|with_reducible refine And.imp_right (And.imp_right (And.imp_right (zab _ _))) ?_|rw[zaj]|simp only[zB,List.map_nil,Nat.reduceSub,Nat.reduceEqDiff,Nat.reduceAdd,Nat.reduceMul,Nat.reduceLeDiff,Nat.reduceLT,Nat.reduceBEq,reduceCtorEq])
   simp[zh9,za4]
 ·have h0:n≠0:=by omega
  have h1:L≠[]:=fun h=>by rw[h]at hL;simp at hL;omega
  repeat(first|with_reducible refine zab _ _ ?_|with_reducible refine And.imp_right (zab _ _) ?_|with_reducible refine And.imp_right (And.imp_right (zab _ _)) ?_|with_reducible refine And.imp_right (And.imp_right (And.imp_right (zab _ _))) ?_|rw[zaj]|simp only[zB,Option.map_some,zbV,zfe,h0,h1,Nat.mul_one,Nat.reduceSub,Nat.reduceEqDiff,Nat.reduceAdd,Nat.reduceMul,Nat.reduceLeDiff,Nat.reduceLT,Nat.reduceBEq,reduceCtorEq])
  refine⟨trivial,fun hb=>by simp at hb,fun hb=> ?_⟩
  repeat(first|with_reducible refine zab _ _ ?_|with_reducible refine And.imp_right (zab _ _) ?_|with_reducible refine And.imp_right (And.imp_right (zab _ _)) ?_|with_reducible refine And.imp_right (And.imp_right (And.imp_right (zab _ _))) ?_|rw[zaj]|simp only[zB,Option.map_some,zbV,zfe,h0,h1,List.map_nil,List.nil_append,zaG,Nat.mul_one,Nat.reduceSub,Nat.reduceEqDiff,Nat.reduceAdd,Nat.reduceMul,Nat.reduceLeDiff,Nat.reduceLT,Nat.reduceBEq,reduceCtorEq])
  refine⟨by simp,⟨hL,by omega⟩, ?_⟩
  simp[zh9,za4]
theorem zgd (n:Nat) (L:List D) (hL:L.length=n*4) (hn:n<2^40):CallOK Tryz.prog 71 [.f (al n L)] (fun r o=>r=[.one (.own 4 n L false)]∧o=[]):=by
 refine CallOK.nil ?_
 refine zac zar mixed (T:=Ty) (n:=8) Tryz.func71 (c:=Tryz.f71.body.getD .skip) rfl Tryz.results71 Tryz.ntmps71 Tryz.call71 ?_
 simp only[Tryz.f71,Option.getD]
 rcases Nat.eq_zero_or_pos n with rfl|hp
 ·obtain rfl:L=[]:=List.eq_nil_of_length_eq_zero (by omega)
  repeat(first|with_reducible refine zab _ _ ?_|with_reducible refine And.imp_right (zab _ _) ?_|with_reducible refine And.imp_right (And.imp_right (zab _ _)) ?_|with_reducible refine And.imp_right (And.imp_right (And.imp_right (zab _ _))) ?_|rw[zaj]|simp only[zB,Option.map_some,zbV,zfe,Nat.mul_one,Nat.reduceSub,Nat.reduceEqDiff,Nat.reduceAdd,Nat.reduceMul,Nat.reduceLeDiff,Nat.reduceLT,Nat.reduceBEq,reduceCtorEq])
  refine⟨?_, ?_, ?_⟩
  ·repeat(first|with_reducible refine zab _ _ ?_|with_reducible refine And.imp_right (zab _ _) ?_|with_reducible refine And.imp_right (And.imp_right (zab _ _)) ?_|with_reducible refine And.imp_right (And.imp_right (And.imp_right (zab _ _))) ?_|rw[zaj]|simp only[zB,List.map_nil,Nat.reduceSub,Nat.reduceEqDiff,Nat.reduceAdd,Nat.reduceMul,Nat.reduceLeDiff,Nat.reduceLT,Nat.reduceBEq,reduceCtorEq])
   simp[zh9,za4]
  ·simp
  ·repeat(first|with_reducible refine zab _ _ ?_|with_reducible refine And.imp_right (zab _ _) ?_|with_reducible refine And.imp_right (And.imp_right (zab _ _)) ?_|with_reducible refine And.imp_right (And.imp_right (And.imp_right (zab _ _))) ?_|rw[zaj]|simp only[zB,List.map_nil,Nat.reduceSub,Nat.reduceEqDiff,Nat.reduceAdd,Nat.reduceMul,Nat.reduceLeDiff,Nat.reduceLT,Nat.reduceBEq,reduceCtorEq])
   simp[zh9,za4]
 ·have h0:n≠0:=by omega
  have h1:L≠[]:=fun h=>by rw[h]at hL;simp at hL;omega
  repeat(first|with_reducible refine zab _ _ ?_|with_reducible refine And.imp_right (zab _ _) ?_|with_reducible refine And.imp_right (And.imp_right (zab _ _)) ?_|with_reducible refine And.imp_right (And.imp_right (And.imp_right (zab _ _))) ?_|rw[zaj]|simp only[zB,Option.map_some,zbV,zfe,h0,h1,Nat.mul_one,Nat.reduceSub,Nat.reduceEqDiff,Nat.reduceAdd,Nat.reduceMul,Nat.reduceLeDiff,Nat.reduceLT,Nat.reduceBEq,reduceCtorEq])
  refine⟨trivial,fun hb=>by simp at hb,fun hb=> ?_⟩
  repeat(first|with_reducible refine zab _ _ ?_|with_reducible refine And.imp_right (zab _ _) ?_|with_reducible refine And.imp_right (And.imp_right (zab _ _)) ?_|with_reducible refine And.imp_right (And.imp_right (And.imp_right (zab _ _))) ?_|rw[zaj]|simp only[zB,Option.map_some,zbV,zfe,h0,h1,List.map_nil,List.nil_append,zaG,Nat.mul_one,Nat.reduceSub,Nat.reduceEqDiff,Nat.reduceAdd,Nat.reduceMul,Nat.reduceLeDiff,Nat.reduceLT,Nat.reduceBEq,reduceCtorEq])
  refine⟨by simp,⟨hL,by omega⟩, ?_⟩
  simp[zh9,za4]
theorem zge (n:Nat) (L:List D) (hL:L.length=n*6) (hn:n<2^40):CallOK Tryz.prog 73 [.f (al n L)] (fun r o=>r=[.one (.own 6 n L false)]∧o=[]):=by
 refine CallOK.nil ?_
 refine zac zar mixed (T:=Ty) (n:=8) Tryz.func73 (c:=Tryz.f73.body.getD .skip) rfl Tryz.results73 Tryz.ntmps73 Tryz.call73 ?_
 simp only[Tryz.f73,Option.getD]
 rcases Nat.eq_zero_or_pos n with rfl|hp
 ·obtain rfl:L=[]:=List.eq_nil_of_length_eq_zero (by omega)
  repeat(first|with_reducible refine zab _ _ ?_|with_reducible refine And.imp_right (zab _ _) ?_|with_reducible refine And.imp_right (And.imp_right (zab _ _)) ?_|with_reducible refine And.imp_right (And.imp_right (And.imp_right (zab _ _))) ?_|rw[zaj]|simp only[zB,Option.map_some,zbV,zfe,Nat.mul_one,Nat.reduceSub,Nat.reduceEqDiff,Nat.reduceAdd,Nat.reduceMul,Nat.reduceLeDiff,Nat.reduceLT,Nat.reduceBEq,reduceCtorEq])
  refine⟨?_, ?_, ?_⟩
  ·repeat(first|with_reducible refine zab _ _ ?_|with_reducible refine And.imp_right (zab _ _) ?_|with_reducible refine And.imp_right (And.imp_right (zab _ _)) ?_|with_reducible refine And.imp_right (And.imp_right (And.imp_right (zab _ _))) ?_|rw[zaj]|simp only[zB,List.map_nil,Nat.reduceSub,Nat.reduceEqDiff,Nat.reduceAdd,Nat.reduceMul,Nat.reduceLeDiff,Nat.reduceLT,Nat.reduceBEq,reduceCtorEq])
   simp[zh9,za4]
  ·simp
  ·repeat(first|with_reducible refine zab _ _ ?_|with_reducible refine And.imp_right (zab _ _) ?_|with_reducible refine And.imp_right (And.imp_right (zab _ _)) ?_|with_reducible refine And.imp_right (And.imp_right (And.imp_right (zab _ _))) ?_|rw[zaj]|simp only[zB,List.map_nil,Nat.reduceSub,Nat.reduceEqDiff,Nat.reduceAdd,Nat.reduceMul,Nat.reduceLeDiff,Nat.reduceLT,Nat.reduceBEq,reduceCtorEq])
   simp[zh9,za4]
 ·have h0:n≠0:=by omega
  have h1:L≠[]:=fun h=>by rw[h]at hL;simp at hL;omega
  repeat(first|with_reducible refine zab _ _ ?_|with_reducible refine And.imp_right (zab _ _) ?_|with_reducible refine And.imp_right (And.imp_right (zab _ _)) ?_|with_reducible refine And.imp_right (And.imp_right (And.imp_right (zab _ _))) ?_|rw[zaj]|simp only[zB,Option.map_some,zbV,zfe,h0,h1,Nat.mul_one,Nat.reduceSub,Nat.reduceEqDiff,Nat.reduceAdd,Nat.reduceMul,Nat.reduceLeDiff,Nat.reduceLT,Nat.reduceBEq,reduceCtorEq])
  refine⟨trivial,fun hb=>by simp at hb,fun hb=> ?_⟩
  repeat(first|with_reducible refine zab _ _ ?_|with_reducible refine And.imp_right (zab _ _) ?_|with_reducible refine And.imp_right (And.imp_right (zab _ _)) ?_|with_reducible refine And.imp_right (And.imp_right (And.imp_right (zab _ _))) ?_|rw[zaj]|simp only[zB,Option.map_some,zbV,zfe,h0,h1,List.map_nil,List.nil_append,zaG,Nat.mul_one,Nat.reduceSub,Nat.reduceEqDiff,Nat.reduceAdd,Nat.reduceMul,Nat.reduceLeDiff,Nat.reduceLT,Nat.reduceBEq,reduceCtorEq])
  refine⟨by simp,⟨hL,by omega⟩, ?_⟩
  simp[zh9,za4]
theorem zc6 (n:Nat) (L:List D) (hL:L.length=n*2) (hn:n<2^40):CallOK Tryz.prog 74 [.f (al n L)] (fun r o=>r=[.one (.own 2 n L false)]∧o=[]):=by
 refine CallOK.nil ?_
 refine zac zar mixed (T:=Ty) (n:=8) Tryz.func74 (c:=Tryz.f74.body.getD .skip) rfl Tryz.results74 Tryz.ntmps74 Tryz.call74 ?_
 simp only[Tryz.f74,Option.getD]
 rcases Nat.eq_zero_or_pos n with rfl|hp
 ·obtain rfl:L=[]:=List.eq_nil_of_length_eq_zero (by omega)
  repeat(first|with_reducible refine zab _ _ ?_|with_reducible refine And.imp_right (zab _ _) ?_|with_reducible refine And.imp_right (And.imp_right (zab _ _)) ?_|with_reducible refine And.imp_right (And.imp_right (And.imp_right (zab _ _))) ?_|rw[zaj]|simp only[zB,Option.map_some,zbV,zfe,Nat.mul_one,Nat.reduceSub,Nat.reduceEqDiff,Nat.reduceAdd,Nat.reduceMul,Nat.reduceLeDiff,Nat.reduceLT,Nat.reduceBEq,reduceCtorEq])
  refine⟨?_, ?_, ?_⟩
  ·repeat(first|with_reducible refine zab _ _ ?_|with_reducible refine And.imp_right (zab _ _) ?_|with_reducible refine And.imp_right (And.imp_right (zab _ _)) ?_|with_reducible refine And.imp_right (And.imp_right (And.imp_right (zab _ _))) ?_|rw[zaj]|simp only[zB,List.map_nil,Nat.reduceSub,Nat.reduceEqDiff,Nat.reduceAdd,Nat.reduceMul,Nat.reduceLeDiff,Nat.reduceLT,Nat.reduceBEq,reduceCtorEq])
   simp[zh9,za4]
  ·simp
  ·repeat(first|with_reducible refine zab _ _ ?_|with_reducible refine And.imp_right (zab _ _) ?_|with_reducible refine And.imp_right (And.imp_right (zab _ _)) ?_|with_reducible refine And.imp_right (And.imp_right (And.imp_right (zab _ _))) ?_|rw[zaj]|simp only[zB,List.map_nil,Nat.reduceSub,Nat.reduceEqDiff,Nat.reduceAdd,Nat.reduceMul,Nat.reduceLeDiff,Nat.reduceLT,Nat.reduceBEq,reduceCtorEq])
   simp[zh9,za4]
 ·have h0:n≠0:=by omega
  have h1:L≠[]:=fun h=>by rw[h]at hL;simp at hL;omega
  repeat(first|with_reducible refine zab _ _ ?_|with_reducible refine And.imp_right (zab _ _) ?_|with_reducible refine And.imp_right (And.imp_right (zab _ _)) ?_|with_reducible refine And.imp_right (And.imp_right (And.imp_right (zab _ _))) ?_|rw[zaj]|simp only[zB,Option.map_some,zbV,zfe,h0,h1,Nat.mul_one,Nat.reduceSub,Nat.reduceEqDiff,Nat.reduceAdd,Nat.reduceMul,Nat.reduceLeDiff,Nat.reduceLT,Nat.reduceBEq,reduceCtorEq])
  refine⟨trivial,fun hb=>by simp at hb,fun hb=> ?_⟩
  repeat(first|with_reducible refine zab _ _ ?_|with_reducible refine And.imp_right (zab _ _) ?_|with_reducible refine And.imp_right (And.imp_right (zab _ _)) ?_|with_reducible refine And.imp_right (And.imp_right (And.imp_right (zab _ _))) ?_|rw[zaj]|simp only[zB,Option.map_some,zbV,zfe,h0,h1,List.map_nil,List.nil_append,zaG,Nat.mul_one,Nat.reduceSub,Nat.reduceEqDiff,Nat.reduceAdd,Nat.reduceMul,Nat.reduceLeDiff,Nat.reduceLT,Nat.reduceBEq,reduceCtorEq])
  refine⟨by simp,⟨hL,by omega⟩, ?_⟩
  simp[zh9,za4]
set_option maxHeartbeats 1000000 in
theorem zkA (l:List Sess) (hl:l.length<2^62) (t:Int) (c:Sess→Int) (f:Nat) (m:Nat) (hm:m≤l.length) (h1:∀j (hj:j<l.length),j<m→c l[j]<0) (h2:∀j (hj:j<l.length),m≤j→0≤c l[j])
  (hp:∀x∈l,CallOK Tryz.prog f [.f (zhk x), .f (ai t)] (fun r o=>r=[ri (c x)]∧o=[])):
  CallOK Tryz.prog 150 [.f (al l.length (zaE l)), .f (ai t), .f (.one (.clos f []))] (fun r o=>r=[ri m,rb ((l[m]?.map fun x=>c x==0).getD false)]∧o=[]):=by
 refine zac zar mixed (T:=Ty) (n:=49) Tryz.func150 (c:=Tryz.f150.body.getD .skip) rfl Tryz.results150 Tryz.ntmps150 Tryz.call150 ?_
 simp only[Tryz.f150,Option.getD]
 refine zw ?_
 refine zao (τ:=Nat×Nat) (fun q=>⟨[al l.length (zaE l),ai t, .one (.clos f []),dd,dd,dd,dd,dd,ai l.length,ai q.1,ai q.2,dd,dd,dd,dd,dd,dd,dd,dd,dd,dd,dd,dd,dd,dd,dd,dd,dd,dd,dd,dd,dd,dd,dd,dd,dd,dd,dd,dd,dd,dd,dd,dd,dd,dd,dd,dd,dd,dd],[]⟩) (fun q=>q.1≤m∧m≤q.2∧q.2≤l.length) (fun _=>()) (fun q=>q.2 - q.1) (0,l.length) (Gh.fgt ?_) ⟨Nat.zero_le _,hm,Nat.le_refl _⟩ ?_
 ·simp only[zaR,zaS,za5,Int.natCast_zero]
 intro⟨lo,hi⟩ ⟨b1,b2,b3⟩ hF K hK
 simp only at b1 b2 b3 hF hK⊢
 refine zw ?_
 refine zaa (fun hlt=> ?_) (fun hge=> ?_)
 ·have hlt:lo<hi:=by simpa using hlt
  obtain⟨q,hq⟩:∃q:Nat,q=(lo+hi) / 2:=⟨_,rfl⟩
  have hw1:IntKind.i64.wrap ((lo:Int)+hi)=((lo+hi:Nat):Int):=by rw[wrap64 (by omega) (by omega)];rfl
  have hw2:IntKind.u64.wrap ((lo+hi:Nat):Int)=((lo+hi:Nat):Int):=zjh (by omega)
  have hw3:IntKind.i64.wrap (((lo+hi:Nat):Int).fdiv (2^(min (Int.toNat 1) IntKind.u64.bits)))=(q:Int):=by
   rw[show(2:Int)^(min (Int.toNat 1) IntKind.u64.bits)=2 by decide,hq,show(((lo+hi:Nat):Int)).fdiv 2=(((lo+hi) / 2:Nat):Int) by rw[Int.fdiv_eq_ediv_of_nonneg _ (by decide)];rfl]
   exact wrap64 (by omega) (by omega)
  have hqh:q<hi:=by omega
  have hql:q<l.length:=by omega
  have hat:=zbM hql
  simp only[List.cons_append,List.nil_append]at hat
  have hcp:=hp _ (List.getElem_mem hql)
  have hw4:IntKind.i64.wrap ((q:Int)+1)=((q+1:Nat):Int):=by rw[wrap64 (by omega) (by omega)];rfl
  have h10:∀(a b:Option Value),(if(1:Int)<0 then a else b)=b:=fun a b=>if_neg (by decide)
  clear hlt
  repeat'(first|with_reducible refine zab _ _ ?_|rw[zaj]|simp only[zB,h10,hw1,hw2,hw3,zai,hat,Nat.mul_one,Nat.reduceSub,Nat.reduceEqDiff,Nat.reduceAdd,Nat.reduceMul,Nat.reduceLeDiff,Nat.reduceLT,Nat.reduceBEq,reduceCtorEq]|((first|((try refine zax ?_);apply zaA)|(apply zaB;intro _));(solve|exact(hcp)|(refine CallOK.le (hcp) ?_;exact zM)|fail);try case hn=>rfl)|refine zal ?_|refine zaa (fun hb=> ?_) (fun hb=> ?_)|(refine And.intro ?_ ?_;exact zI)|refine And.intro (fun hg=> ?_) (fun hg=> ?_)|exact zC|fail)
  ·have hqm:q<m:=by
    rcases Nat.lt_or_ge q m with h|h
    ·exact h
    ·have:=h2 q hql h
     have hb':c l[q]<0:=by simpa using hb
     omega
   refine hK _ (q+1,hi) (Gh.fgt ?_) ⟨by simp only;omega,b2,b3⟩ trivial (by simp only;omega)
   simp only[hw4,zaR,zaS,za5]
  ·have hqm:m≤q:=by
    rcases Nat.lt_or_ge q m with h|h
    ·have:=h1 q hql h
     have hb':¬c l[q]<0:=by simpa using hb
     omega
    ·exact h
   refine hK _ (lo,q) (Gh.fgt ?_) ⟨b1,hqm,by simp only;omega⟩ trivial (by simp only;omega)
   simp only[zaR,zaS,za5]
 ·have he:lo=m:=by
   have:¬(lo:Int)<hi:=by simpa using hge
   omega
  subst he
  by_cases hlt:lo<l.length
  ·have hat:=zbM hlt
   simp only[List.cons_append,List.nil_append]at hat
   have hcp:=hp _ (List.getElem_mem hlt)
   have hd:decide ((lo:Int)<l.length)=true:=by simpa using hlt
   repeat'(first|with_reducible refine zab _ _ ?_|rw[zaj]|simp only[zB,hd,zai,hat,Nat.mul_one,Nat.reduceSub,Nat.reduceEqDiff,Nat.reduceAdd,Nat.reduceMul,Nat.reduceLeDiff,Nat.reduceLT,Nat.reduceBEq,reduceCtorEq]|((first|((try refine zax ?_);apply zaA)|(apply zaB;intro _));(solve|exact(hcp)|(refine CallOK.le (hcp) ?_;exact zM)|fail);try case hn=>rfl)|refine zal ?_|refine zaa (fun hb=> ?_) (fun hb=> ?_)|(refine And.intro ?_ ?_;exact zI)|refine And.intro (fun hg=> ?_) (fun hg=> ?_)|exact zC|fail)
   rw[List.getElem?_eq_getElem hlt];rfl
  ·have hd:decide ((lo:Int)<l.length)=false:=by simp;omega
   have hn:l[lo]? =none:=List.getElem?_eq_none (by omega)
   repeat'(first|with_reducible refine zab _ _ ?_|rw[zaj]|simp only[zB,hd,zai,Nat.mul_one,hn,ztf,Option.map_none,Nat.reduceSub,Nat.reduceEqDiff,Nat.reduceAdd,Nat.reduceMul,Nat.reduceLeDiff,Nat.reduceLT,Nat.reduceBEq,reduceCtorEq]|refine zal ?_|refine zaa (fun hb=> ?_) (fun hb=> ?_)|(refine And.intro ?_ ?_;exact zI)|refine And.intro (fun hg=> ?_) (fun hg=> ?_)|exact zC|fail)
set_option maxHeartbeats 1000000 in
theorem zkB (l:List Memo) (hl:l.length<2^62) (t:Int) (c:Memo→Int) (f:Nat) (m:Nat) (hm:m≤l.length) (h1:∀j (hj:j<l.length),j<m→c l[j]<0) (h2:∀j (hj:j<l.length),m≤j→0≤c l[j])
  (hp:∀x∈l,CallOK Tryz.prog f [.f (zsr x), .f (ai t)] (fun r o=>r=[ri (c x)]∧o=[])):
  CallOK Tryz.prog 110 [.f (al l.length (zav l)), .f (ai t), .f (.one (.clos f []))] (fun r o=>r=[ri m,rb ((l[m]?.map fun x=>c x==0).getD false)]∧o=[]):=by
 refine zac zar mixed (T:=Ty) (n:=49) Tryz.func110 (c:=Tryz.f110.body.getD .skip) rfl Tryz.results110 Tryz.ntmps110 Tryz.call110 ?_
 simp only[Tryz.f110,Option.getD]
 refine zw ?_
 refine zao (τ:=Nat×Nat) (fun q=>⟨[al l.length (zav l),ai t, .one (.clos f []),dd,dd,dd,dd,dd,ai l.length,ai q.1,ai q.2,dd,dd,dd,dd,dd,dd,dd,dd,dd,dd,dd,dd,dd,dd,dd,dd,dd,dd,dd,dd,dd,dd,dd,dd,dd,dd,dd,dd,dd,dd,dd,dd,dd,dd,dd,dd,dd,dd],[]⟩) (fun q=>q.1≤m∧m≤q.2∧q.2≤l.length) (fun _=>()) (fun q=>q.2 - q.1) (0,l.length) (Gh.fgt ?_) ⟨Nat.zero_le _,hm,Nat.le_refl _⟩ ?_
 ·simp only[zaR,zaS,za5,Int.natCast_zero]
 intro⟨lo,hi⟩ ⟨b1,b2,b3⟩ hF K hK
 simp only at b1 b2 b3 hF hK⊢
 refine zw ?_
 refine zaa (fun hlt=> ?_) (fun hge=> ?_)
 ·have hlt:lo<hi:=by simpa using hlt
  obtain⟨q,hq⟩:∃q:Nat,q=(lo+hi) / 2:=⟨_,rfl⟩
  have hw1:IntKind.i64.wrap ((lo:Int)+hi)=((lo+hi:Nat):Int):=by rw[wrap64 (by omega) (by omega)];rfl
  have hw2:IntKind.u64.wrap ((lo+hi:Nat):Int)=((lo+hi:Nat):Int):=zjh (by omega)
  have hw3:IntKind.i64.wrap (((lo+hi:Nat):Int).fdiv (2^(min (Int.toNat 1) IntKind.u64.bits)))=(q:Int):=by
   rw[show(2:Int)^(min (Int.toNat 1) IntKind.u64.bits)=2 by decide,hq,show(((lo+hi:Nat):Int)).fdiv 2=(((lo+hi) / 2:Nat):Int) by rw[Int.fdiv_eq_ediv_of_nonneg _ (by decide)];rfl]
   exact wrap64 (by omega) (by omega)
  have hqh:q<hi:=by omega
  have hql:q<l.length:=by omega
  have hat:=zbx hql
  simp only[List.cons_append,List.nil_append]at hat
  have hcp:=hp _ (List.getElem_mem hql)
  have hw4:IntKind.i64.wrap ((q:Int)+1)=((q+1:Nat):Int):=by rw[wrap64 (by omega) (by omega)];rfl
  have h10:∀(a b:Option Value),(if(1:Int)<0 then a else b)=b:=fun a b=>if_neg (by decide)
  clear hlt
  repeat'(first|with_reducible refine zab _ _ ?_|rw[zaj]|simp only[zB,h10,hw1,hw2,hw3,zak,hat,Nat.mul_one,Nat.reduceSub,Nat.reduceEqDiff,Nat.reduceAdd,Nat.reduceMul,Nat.reduceLeDiff,Nat.reduceLT,Nat.reduceBEq,reduceCtorEq]|((first|((try refine zax ?_);apply zaA)|(apply zaB;intro _));(solve|exact(hcp)|(refine CallOK.le (hcp) ?_;exact zM)|fail);try case hn=>rfl)|refine zal ?_|refine zaa (fun hb=> ?_) (fun hb=> ?_)|(refine And.intro ?_ ?_;exact zI)|refine And.intro (fun hg=> ?_) (fun hg=> ?_)|exact zC|fail)
  ·have hqm:q<m:=by
    rcases Nat.lt_or_ge q m with h|h
    ·exact h
    ·have:=h2 q hql h
     have hb':c l[q]<0:=by simpa using hb
     omega
   refine hK _ (q+1,hi) (Gh.fgt ?_) ⟨by simp only;omega,b2,b3⟩ trivial (by simp only;omega)
   simp only[hw4,zaR,zaS,za5]
  ·have hqm:m≤q:=by
    rcases Nat.lt_or_ge q m with h|h
    ·have:=h1 q hql h
     have hb':¬c l[q]<0:=by simpa using hb
     omega
    ·exact h
   refine hK _ (lo,q) (Gh.fgt ?_) ⟨b1,hqm,by simp only;omega⟩ trivial (by simp only;omega)
   simp only[zaR,zaS,za5]
 ·have he:lo=m:=by
   have:¬(lo:Int)<hi:=by simpa using hge
   omega
  subst he
  by_cases hlt:lo<l.length
  ·have hat:=zbx hlt
   simp only[List.cons_append,List.nil_append]at hat
   have hcp:=hp _ (List.getElem_mem hlt)
   have hd:decide ((lo:Int)<l.length)=true:=by simpa using hlt
   repeat'(first|with_reducible refine zab _ _ ?_|rw[zaj]|simp only[zB,hd,zak,hat,Nat.mul_one,Nat.reduceSub,Nat.reduceEqDiff,Nat.reduceAdd,Nat.reduceMul,Nat.reduceLeDiff,Nat.reduceLT,Nat.reduceBEq,reduceCtorEq]|((first|((try refine zax ?_);apply zaA)|(apply zaB;intro _));(solve|exact(hcp)|(refine CallOK.le (hcp) ?_;exact zM)|fail);try case hn=>rfl)|refine zal ?_|refine zaa (fun hb=> ?_) (fun hb=> ?_)|(refine And.intro ?_ ?_;exact zI)|refine And.intro (fun hg=> ?_) (fun hg=> ?_)|exact zC|fail)
   rw[List.getElem?_eq_getElem hlt];rfl
  ·have hd:decide ((lo:Int)<l.length)=false:=by simp;omega
   have hn:l[lo]? =none:=List.getElem?_eq_none (by omega)
   repeat'(first|with_reducible refine zab _ _ ?_|rw[zaj]|simp only[zB,hd,zak,Nat.mul_one,hn,ztf,Option.map_none,Nat.reduceSub,Nat.reduceEqDiff,Nat.reduceAdd,Nat.reduceMul,Nat.reduceLeDiff,Nat.reduceLT,Nat.reduceBEq,reduceCtorEq]|refine zal ?_|refine zaa (fun hb=> ?_) (fun hb=> ?_)|(refine And.intro ?_ ?_;exact zI)|refine And.intro (fun hg=> ?_) (fun hg=> ?_)|exact zC|fail)
set_option maxHeartbeats 1000000 in
theorem zkC (l:List Lk) (hl:l.length<2^62) (t:ByteArray) (c:Lk→Int) (f:Nat) (m:Nat) (hm:m≤l.length) (h1:∀j (hj:j<l.length),j<m→c l[j]<0) (h2:∀j (hj:j<l.length),m≤j→0≤c l[j])
  (hp:∀x∈l,CallOK Tryz.prog f [.f (zky x), .f (ast t)] (fun r o=>r=[ri (c x)]∧o=[])):
  CallOK Tryz.prog 155 [.f (al l.length (zaf l)), .f (ast t), .f (.one (.clos f []))] (fun r o=>r=[ri m,rb ((l[m]?.map fun x=>c x==0).getD false)]∧o=[]):=by
 refine zac zar mixed (T:=Ty) (n:=49) Tryz.func155 (c:=Tryz.f155.body.getD .skip) rfl Tryz.results155 Tryz.ntmps155 Tryz.call155 ?_
 simp only[Tryz.f155,Option.getD]
 refine zw ?_
 refine zao (τ:=Nat×Nat) (fun q=>⟨[al l.length (zaf l),ast t, .one (.clos f []),dd,dd,dd,dd,dd,ai l.length,ai q.1,ai q.2,dd,dd,dd,dd,dd,dd,dd,dd,dd,dd,dd,dd,dd,dd,dd,dd,dd,dd,dd,dd,dd,dd,dd,dd,dd,dd,dd,dd,dd,dd,dd,dd,dd,dd,dd,dd,dd,dd],[]⟩) (fun q=>q.1≤m∧m≤q.2∧q.2≤l.length) (fun _=>()) (fun q=>q.2 - q.1) (0,l.length) (Gh.fgt ?_) ⟨Nat.zero_le _,hm,Nat.le_refl _⟩ ?_
 ·simp only[zaR,zaS,za5,Int.natCast_zero]
 intro⟨lo,hi⟩ ⟨b1,b2,b3⟩ hF K hK
 simp only at b1 b2 b3 hF hK⊢
 refine zw ?_
 refine zaa (fun hlt=> ?_) (fun hge=> ?_)
 ·have hlt:lo<hi:=by simpa using hlt
  obtain⟨q,hq⟩:∃q:Nat,q=(lo+hi) / 2:=⟨_,rfl⟩
  have hw1:IntKind.i64.wrap ((lo:Int)+hi)=((lo+hi:Nat):Int):=by rw[wrap64 (by omega) (by omega)];rfl
  have hw2:IntKind.u64.wrap ((lo+hi:Nat):Int)=((lo+hi:Nat):Int):=zjh (by omega)
  have hw3:IntKind.i64.wrap (((lo+hi:Nat):Int).fdiv (2^(min (Int.toNat 1) IntKind.u64.bits)))=(q:Int):=by
   rw[show(2:Int)^(min (Int.toNat 1) IntKind.u64.bits)=2 by decide,hq,show(((lo+hi:Nat):Int)).fdiv 2=(((lo+hi) / 2:Nat):Int) by rw[Int.fdiv_eq_ediv_of_nonneg _ (by decide)];rfl]
   exact wrap64 (by omega) (by omega)
  have hqh:q<hi:=by omega
  have hql:q<l.length:=by omega
  have hat:=zaO hql
  simp only[List.cons_append,List.nil_append]at hat
  have hcp:=hp _ (List.getElem_mem hql)
  have hw4:IntKind.i64.wrap ((q:Int)+1)=((q+1:Nat):Int):=by rw[wrap64 (by omega) (by omega)];rfl
  have h10:∀(a b:Option Value),(if(1:Int)<0 then a else b)=b:=fun a b=>if_neg (by decide)
  clear hlt
  repeat'(first|with_reducible refine zab _ _ ?_|rw[zaj]|simp only[zB,h10,hw1,hw2,hw3,zae,hat,Nat.mul_one,Nat.reduceSub,Nat.reduceEqDiff,Nat.reduceAdd,Nat.reduceMul,Nat.reduceLeDiff,Nat.reduceLT,Nat.reduceBEq,reduceCtorEq]|((first|((try refine zax ?_);apply zaA)|(apply zaB;intro _));(solve|exact(hcp)|(refine CallOK.le (hcp) ?_;exact zM)|fail);try case hn=>rfl)|refine zal ?_|refine zaa (fun hb=> ?_) (fun hb=> ?_)|(refine And.intro ?_ ?_;exact zI)|refine And.intro (fun hg=> ?_) (fun hg=> ?_)|exact zC|fail)
  ·have hqm:q<m:=by
    rcases Nat.lt_or_ge q m with h|h
    ·exact h
    ·have:=h2 q hql h
     have hb':c l[q]<0:=by simpa using hb
     omega
   refine hK _ (q+1,hi) (Gh.fgt ?_) ⟨by simp only;omega,b2,b3⟩ trivial (by simp only;omega)
   simp only[hw4,zaR,zaS,za5]
  ·have hqm:m≤q:=by
    rcases Nat.lt_or_ge q m with h|h
    ·have:=h1 q hql h
     have hb':¬c l[q]<0:=by simpa using hb
     omega
    ·exact h
   refine hK _ (lo,q) (Gh.fgt ?_) ⟨b1,hqm,by simp only;omega⟩ trivial (by simp only;omega)
   simp only[zaR,zaS,za5]
 ·have he:lo=m:=by
   have:¬(lo:Int)<hi:=by simpa using hge
   omega
  subst he
  by_cases hlt:lo<l.length
  ·have hat:=zaO hlt
   simp only[List.cons_append,List.nil_append]at hat
   have hcp:=hp _ (List.getElem_mem hlt)
   have hd:decide ((lo:Int)<l.length)=true:=by simpa using hlt
   repeat'(first|with_reducible refine zab _ _ ?_|rw[zaj]|simp only[zB,hd,zae,hat,Nat.mul_one,Nat.reduceSub,Nat.reduceEqDiff,Nat.reduceAdd,Nat.reduceMul,Nat.reduceLeDiff,Nat.reduceLT,Nat.reduceBEq,reduceCtorEq]|((first|((try refine zax ?_);apply zaA)|(apply zaB;intro _));(solve|exact(hcp)|(refine CallOK.le (hcp) ?_;exact zM)|fail);try case hn=>rfl)|refine zal ?_|refine zaa (fun hb=> ?_) (fun hb=> ?_)|(refine And.intro ?_ ?_;exact zI)|refine And.intro (fun hg=> ?_) (fun hg=> ?_)|exact zC|fail)
   rw[List.getElem?_eq_getElem hlt];rfl
  ·have hd:decide ((lo:Int)<l.length)=false:=by simp;omega
   have hn:l[lo]? =none:=List.getElem?_eq_none (by omega)
   repeat'(first|with_reducible refine zab _ _ ?_|rw[zaj]|simp only[zB,hd,zae,Nat.mul_one,hn,ztf,Option.map_none,Nat.reduceSub,Nat.reduceEqDiff,Nat.reduceAdd,Nat.reduceMul,Nat.reduceLeDiff,Nat.reduceLT,Nat.reduceBEq,reduceCtorEq]|refine zal ?_|refine zaa (fun hb=> ?_) (fun hb=> ?_)|(refine And.intro ?_ ?_;exact zI)|refine And.intro (fun hg=> ?_) (fun hg=> ?_)|exact zC|fail)
theorem zis {α:Type}:∀(xs pre mid post:List α),mid.length=xs.length→fillAt pre.length xs (pre++(mid++post))=pre++(xs++post)
 |[],pre,mid,post,h=>by
  have:mid=[]:=List.eq_nil_of_length_eq_zero h
  subst this;rfl
 |x::xs,pre,m::mid,post,h=>by
  have:=zis xs (pre++[x]) mid post (by simpa using h)
  rw[fillAt]
  simp only[List.length_append,List.length_cons,List.length_nil,Nat.zero_add,List.append_assoc,List.cons_append,List.nil_append]at this⊢
  rw[←this]
  congr 1
  simp[List.set_append]
 |x::xs,pre,[],post,h=>by simp at h
theorem zeI {α:Type} (enc:α→List D) (sz:Nat) (h:∀x,(enc x).length=sz) {l:List α} {i:Nat} (hi:i<l.length) (x:α):
  fillAt (i*sz) ((enc x).map C.d) ((l.flatMap enc).map C.d)=((l.set i x).flatMap enc).map C.d:=by
 have e1:l=l.take i++(l[i]::l.drop (i+1)):=by rw[List.getElem_cons_drop];simp
 have e2:l.set i x=l.take i++(x::l.drop (i+1)):=by rw[List.set_eq_take_append_cons_drop,if_pos hi]
 have hl:((l.take i).flatMap enc).length=i*sz:=by rw[zcl enc sz h,List.length_take];congr 1;omega
 rw[e2]
 conv=>lhs;rw[e1]
 simp only[List.flatMap_append,List.flatMap_cons,List.map_append]
 have:=zis ((enc x).map C.d) (((l.take i).flatMap enc).map C.d) ((enc l[i]).map C.d) (((l.drop (i+1)).flatMap enc).map C.d) (by simp[h])
 rw[List.length_map,hl]at this
 exact this
theorem zb2 {α:Type} (enc:α→List D) (sz:Nat) (h:∀x,(enc x).length=sz) {l:List α} {i k:Nat} (hi:i<l.length) (hk:k<sz) (v:D) (x:α) (hx:enc x=(enc l[i]).set k v):
  ((l.flatMap enc).map C.d).set (i*sz+k) (C.d v)=((l.set i x).flatMap enc).map C.d:=by
 have e1:l=l.take i++(l[i]::l.drop (i+1)):=by rw[List.getElem_cons_drop];simp
 have e2:l.set i x=l.take i++(x::l.drop (i+1)):=by rw[List.set_eq_take_append_cons_drop,if_pos hi]
 have hl:((l.take i).flatMap enc).length=i*sz:=by rw[zcl enc sz h,List.length_take];congr 1;omega
 rw[e2]
 conv=>lhs;rw[e1]
 rw[←List.map_set]
 simp only[List.flatMap_append,List.flatMap_cons]
 rw[List.set_append,if_neg (by omega),List.set_append,if_pos (by rw[h];omega),show i*sz+k - ((l.take i).flatMap enc).length=k by omega,hx]
theorem zma {α:Type} (enc:α→List D) (sz:Nat) (h:∀x,(enc x).length=sz) {l:List α} {k:Nat} (hk:k≤l.length) (x:α):
  (l.take k++x::l.drop k).flatMap enc=(l.flatMap enc).take (k*sz)++(enc x++(l.flatMap enc).drop (k*sz)):=by
 rw[zc8 enc sz h hk,zhq enc sz h hk,List.flatMap_append,List.flatMap_cons]
theorem zjg {α:Type} {l:List α} {k:Nat} (hk:k≤l.length) (x:α):(l.take k++x::l.drop k).length=l.length+1:=by
 rw[List.length_append,List.length_take,List.length_cons,List.length_drop];omega
theorem zkw {α:Type} (enc:α→List D) (sz:Nat) (h:∀x,(enc x).length=sz) {l:List α} {k:Nat} (hk:k<l.length):
  (l.eraseIdx k).flatMap enc=(l.flatMap enc).take (k*sz)++(l.flatMap enc).drop ((k+1)*sz):=by
 rw[zc8 enc sz h (by omega),zhq enc sz h hk,List.eraseIdx_eq_take_drop_succ,List.flatMap_append]
theorem zkx {α:Type} {l:List α} {k:Nat} (hk:k<l.length):(l.eraseIdx k).length=l.length - 1:=by rw[List.length_eraseIdx,if_pos hk]
theorem zd3 {α:Type} {l:List α} {i:Nat} (h:i<l.length) (x:α):(l.set i x).take (i+1)=l.take i++[x]:=by
 rw[List.set_eq_take_append_cons_drop,if_pos h]
 have:(l.take i).length=i:=by rw[List.length_take];omega
 rw[List.take_append,this,List.take_of_length_le (by omega),show i+1 - i=1 by omega]
 rfl
theorem zfd {α:Type} {l:List α} {i j:Nat} (h:i<j) (x:α):(l.set i x).drop j=l.drop j:=by
 apply List.ext_getElem?
 intro k
 rw[List.getElem?_drop,List.getElem?_drop,List.getElem?_set_ne (by omega)]
theorem zd4 {α:Type} (p:α→Bool):∀(l:List α) (i:Nat),(∀x∈l,p x=false)∧zck p l i= -1∨∃k,∃h:k<l.length,zck p l i=((i+k:Nat):Int)∧p l[k]=true∧∀x∈l.take k,p x=false
 |[],i=> .inl ⟨fun x hx=>(List.not_mem_nil hx).elim,rfl⟩
 |x::l,i=>by
  rw[zck]
  by_cases hx:p x=true
  ·rw[if_pos hx]
   exact .inr ⟨0,by simp,rfl,by simpa using hx,fun y hy=>by simp at hy⟩
  ·rw[if_neg hx]
   have hx':p x=false:=by simpa using hx
   rcases zd4 p l (i+1)with⟨h1,h2⟩|⟨k,hk,h1,h2,h3⟩
   ·exact .inl ⟨fun y hy=>(List.mem_cons.1 hy).elim (fun e=>e▸hx') (fun e=>h1 y e),by simpa using h2⟩
   ·refine .inr ⟨k+1,by simpa using hk, ?_,by simpa using h2,fun y hy=> ?_⟩
    ·have:((i:Int)+1)=((i+1:Nat):Int):=rfl
     rw[this,h1];congr 1;omega
    ·rw[List.take_succ_cons]at hy
     exact(List.mem_cons.1 hy).elim (fun e=>e▸hx') (fun e=>h3 y e)
set_option maxHeartbeats 2000000 in
theorem zo9 (l:List Sess) (hl:l.length<2^40) (p:Sess→Bool) (f:Nat) (caps:List C) (hc2:∀r,lendC.lendCs r caps=some caps) (hc3:∀r,lendAs r (caps.map AV.one)=some (caps.map fun c=> .f (.one c)))
  (hcur:∀Z r,zjm Z r caps=true) (hcan:∀Z,zgH Z caps=caps)
  (hp:∀x∈l,CallOK Tryz.prog f (.f (zhk x)::caps.map fun c=> .f (.one c)) (fun r o=>r=[rb (p x)]∧o=[])):
  CallOK Tryz.prog 76 [.row 3 l.length (zaE l), .f (.one (.clos f caps))]
   (fun r o=>r=[.one (.own 3 (l.filter fun x=> !p x).length (zaE (l.filter fun x=> !p x)) true)]∧o=[[]]):=by
 refine CallOK.wk ?_ (by rw[zai];omega)
 refine zac zar mixed (T:=Ty) (n:=42) Tryz.func76 (c:=Tryz.f76.body.getD .skip) rfl Tryz.results76 Tryz.ntmps76 Tryz.call76 ?_
 simp only[Tryz.f76,Option.getD]
 have hix:=zit l (by omega) p f caps (hc3 []) hp
 have hfc:∀Z r xs ys,fgc Z r (.one (.clos f caps)::xs) (.one (.clos f caps)::ys)=fgc Z r xs ys:=fun Z r xs ys=>zgV (by simp[zka,zmc,hcur]) (by simp[zj9,zia,hcan])
 rcases zd4 p l 0 with⟨h1,h2⟩|⟨k,hk,h1,h2,h3⟩
 ·have hfil:l.filter (fun x=> !p x)=l:=List.filter_eq_self.2 fun x hx=>by rw[h1 x hx];rfl
  rw[hfil]
  rw[show((0:Nat):Int)=0 from rfl]at h2
  rw[h2]at hix
  repeat'(first|refine zq (I hc2 @beq_self_eq_true.{0}) ?_|exact zd (I hc2 @beq_self_eq_true.{0})|refine zc (hix) ?_|refine zg (hix) ?_|(refine zaa ?_ ?_<;>intro hb)|(refine And.intro ?_ ?_;exact zI)|(refine And.intro ?_ ?_<;>intro hg)|exact zC|fail)
  exact⟨[],_,by rw[List.append_nil], .inl trivial⟩
 ·rw[show((0:Nat):Int)=0 from rfl,Nat.zero_add]at h1
  rw[h1]at hix
  have hne:((k:Int)== -1)=false:=by simp
  have hw0:=zan hk (by omega)
  repeat'(first|refine zq (I hc2 (I hne hw0)) ?_|exact zd (I hc2 (I hne hw0))|refine zc (hix) ?_|refine zg (hix) ?_|(refine zaa ?_ ?_<;>intro hb)|(refine And.intro ?_ ?_;exact zI)|(refine And.intro ?_ ?_<;>intro hg)|exact zC|fail)
  refine zao (τ:=Nat×Nat×List Sess) (fun t=>⟨[.one (.own ⟨0,1,0⟩ 0 l.length), .one (.clos f caps),dd,dd,dd,ai t.1,ai t.2.1,dd,dd,dd,dd,dd,dd,dd,dd,dd,dd,dd,dd,dd,dd,dd,dd,dd,dd,dd,dd,dd,dd,dd,dd,dd,dd,dd,dd,dd,dd,dd,dd,dd,dd,dd],[(0,{next:=1,l:=[none,some {e:=0,var:=false,fz:=false,bor:=true,sz:=3,cells:=(zaE t.2.2).map C.d}]}),(7,⟨2,[]⟩)]⟩)
   (fun t=>t.1<t.2.1∧t.2.1≤l.length∧t.2.2.length=l.length∧t.2.2.take t.1=(l.take t.2.1).filter (fun x=> !p x)∧t.2.2.drop t.2.1=l.drop t.2.1) (fun _=>()) (fun t=>l.length - t.2.1) (k,k+1,l)
   (Gh.canon [0] [7] [0] (zk hfc) rfl rfl) ⟨Nat.lt_succ_self _,hk,rfl, ?_,rfl⟩ ?_
  ·rw[List.take_add_one,List.filter_append,List.getElem?_eq_getElem hk]
   simp only[Option.toList,List.filter_cons,h2,List.filter_nil]
   simp only[Bool.not_true,Bool.false_eq_true,if_false,List.append_nil]
   exact(List.filter_eq_self.2 fun x hx=>by rw[h3 x hx];rfl).symm
  intro⟨i,j,L⟩ ⟨j1,j2,j3,j4,j5⟩ hF K hK
  simp only at j1 j2 j3 j4 j5 hF hK⊢
  refine zw ?_
  refine zaa (fun hlt=> ?_) (fun hge=> ?_)
  ·have hj:j<l.length:=by simpa using hlt
   have hjL:j<L.length:=by omega
   have hLj:L[j]=l[j]:=by
    have e1:=List.drop_eq_getElem_cons hjL
    rw[j5,List.drop_eq_getElem_cons hj]at e1
    exact(List.cons.inj e1).1.symm
   have hat:=zbM hjL
   rw[hLj]at hat
   simp only[List.cons_append,List.nil_append]at hat
   have hcp:=hp _ (List.getElem_mem hj)
   have hwj:=zan hj (by omega)
   have hwi:=zan (show i<l.length by omega) (by omega)
   have hset:=zeI Sess.enc 3 (fun _=>rfl) (show i<L.length by omega) l[j]
   simp only[fillAt,List.map_cons,List.map_nil,Nat.mul_one]at hset
   have htk:(l.take (j+1)).filter (fun x=> !p x)=(l.take j).filter (fun x=> !p x)++(if p l[j]=true then []else [l[j]]):=by
    rw[List.take_add_one,List.filter_append,List.getElem?_eq_getElem hj]
    simp only[Option.toList,List.filter_cons,List.filter_nil]
    cases p l[j]<;>simp
   cases hpj:p l[j]
   ·rw[hpj]at hcp htk
    repeat'(first|refine zq (I hc3 (I @zmd (I hat (I @List.map_cons.{0,0} (I @zai (I j3 (I @Bool.not_false hset))))))) ?_|exact zd (I hc3 (I @zmd (I hat (I @List.map_cons.{0,0} (I @zai (I j3 (I @Bool.not_false hset)))))))|refine zc (hcp) ?_|refine zg (hcp) ?_|(refine zaa ?_ ?_<;>intro hb)|(refine And.intro ?_ ?_;exact zI)|(refine And.intro ?_ ?_<;>intro hg)|exact zC|fail)
    refine hK _ (i+1,j+1,L.set i l[j]) (Gh.canon [0] [] [0] (zk (I hfc (I hwi hwj))) rfl rfl) ⟨by simp only;omega,hj,by simp only[List.length_set];exact j3, ?_, ?_⟩ trivial (by simp only;omega)
    ·simp only
     rw[zd3 (by omega),htk,j4];rfl
    ·simp only
     rw[zfd (by omega),←List.drop_drop,j5,List.drop_drop]
   ·rw[hpj]at hcp htk
    repeat'(first|refine zq (I hc3 (I @zmd (I hat (I @List.map_cons.{0,0} (I @zai (I j3 @Bool.not_true)))))) ?_|exact zd (I hc3 (I @zmd (I hat (I @List.map_cons.{0,0} (I @zai (I j3 @Bool.not_true))))))|refine zc (hcp) ?_|refine zg (hcp) ?_|(refine zaa ?_ ?_<;>intro hb)|(refine And.intro ?_ ?_;exact zI)|(refine And.intro ?_ ?_<;>intro hg)|exact zC|fail)
    refine hK _ (i,j+1,L) (Gh.canon [0] [] [0] (zk (I hfc hwj)) rfl rfl) ⟨by simp only;omega,hj,j3, ?_, ?_⟩ trivial (by simp only;omega)
    ·simp only
     rw[htk,j4];simp
    ·simp only
     rw[←List.drop_drop,j5,List.drop_drop]
  ·have hj:j=l.length:=by
    have:¬(j:Int)<l.length:=by simpa using hge
    omega
   subst hj
   rw[List.take_length]at j4
   obtain⟨fl,hfl⟩:∃fl,fl=l.filter (fun x=> !p x):=⟨_,rfl⟩
   rw[←hfl]at j4
   have hfll:fl.length=i:=by rw[←j4,List.length_take];omega
   obtain⟨Z,hZ⟩:∃Z,Z=zdk [.int .i64 0, .int .i64 0, .int .i64 0] (l.length - i):=⟨_,rfl⟩
   have hZl:Z.length=(l.length - i)*3:=by rw[hZ,zcz];rfl
   have etk:(zaE L).take (i*3)=zaE fl:=by
    have:=zc8 Sess.enc 3 (fun _=>rfl) (show i≤L.length by omega)
    rw[←j4];exact this
   have hLl:(zaE L).length=l.length*3:=by rw[zai,j3]
   have e2:List.take (i*3) (List.map C.d (zaE L))++List.map C.d Z++List.drop (i*3+Z.length) (List.map C.d (zaE L))=List.map C.d (zaE fl++Z):=by
    rw[←List.map_take,etk,List.drop_of_length_le (by rw[List.length_map];omega)];simp
   rw[←hfl,hfll]
   repeat'(first|refine zq (I j3 (I @zai (I (Eq.symm hZ) e2))) ?_|exact zd (I j3 (I @zai (I (Eq.symm hZ) e2)))|(refine zaa ?_ ?_<;>intro hb)|(refine And.intro ?_ ?_;exact zI)|(refine And.intro ?_ ?_<;>intro hg)|exact zC|fail)
   exact⟨Z,_,rfl, .inl trivial⟩
set_option maxHeartbeats 2000000 in
theorem zrd (l:List Int) (hl:l.length<2^40) (p:Int→Bool) (f:Nat) (caps:List C) (hc2:∀r,lendC.lendCs r caps=some caps) (hc3:∀r,lendAs r (caps.map AV.one)=some (caps.map fun c=> .f (.one c)))
  (hcur:∀Z r,zjm Z r caps=true) (hcan:∀Z,zgH Z caps=caps)
  (hp:∀x∈l,CallOK Tryz.prog f (.f (ztg x)::caps.map fun c=> .f (.one c)) (fun r o=>r=[rb (p x)]∧o=[])):
  CallOK Tryz.prog 146 [.row 1 l.length (zaw l), .f (.one (.clos f caps))]
   (fun r o=>r=[.one (.own 1 (l.filter fun x=> !p x).length (zaw (l.filter fun x=> !p x)) true)]∧o=[[]]):=by
 refine CallOK.wk ?_ (by rw[zah];omega)
 refine zac zar mixed (T:=Ty) (n:=42) Tryz.func146 (c:=Tryz.f146.body.getD .skip) rfl Tryz.results146 Tryz.ntmps146 Tryz.call146 ?_
 simp only[Tryz.f146,Option.getD]
 have hix:=zkz l (by omega) p f caps (hc3 []) hp
 have hfc:∀Z r xs ys,fgc Z r (.one (.clos f caps)::xs) (.one (.clos f caps)::ys)=fgc Z r xs ys:=fun Z r xs ys=>zgV (by simp[zka,zmc,hcur]) (by simp[zj9,zia,hcan])
 rcases zd4 p l 0 with⟨h1,h2⟩|⟨k,hk,h1,h2,h3⟩
 ·have hfil:l.filter (fun x=> !p x)=l:=List.filter_eq_self.2 fun x hx=>by rw[h1 x hx];rfl
  rw[hfil]
  rw[show((0:Nat):Int)=0 from rfl]at h2
  rw[h2]at hix
  repeat'(first|refine zq (I hc2 @beq_self_eq_true.{0}) ?_|exact zd (I hc2 @beq_self_eq_true.{0})|refine zc (hix) ?_|refine zg (hix) ?_|(refine zaa ?_ ?_<;>intro hb)|(refine And.intro ?_ ?_;exact zI)|(refine And.intro ?_ ?_<;>intro hg)|exact zC|fail)
  exact⟨[],_,by rw[List.append_nil], .inl trivial⟩
 ·rw[show((0:Nat):Int)=0 from rfl,Nat.zero_add]at h1
  rw[h1]at hix
  have hne:((k:Int)== -1)=false:=by simp
  have hw0:=zan hk (by omega)
  repeat'(first|refine zq (I hc2 (I hne hw0)) ?_|exact zd (I hc2 (I hne hw0))|refine zc (hix) ?_|refine zg (hix) ?_|(refine zaa ?_ ?_<;>intro hb)|(refine And.intro ?_ ?_;exact zI)|(refine And.intro ?_ ?_<;>intro hg)|exact zC|fail)
  refine zao (τ:=Nat×Nat×List Int) (fun t=>⟨[.one (.own ⟨0,1,0⟩ 0 l.length), .one (.clos f caps),dd,dd,dd,ai t.1,ai t.2.1,dd,dd,dd,dd,dd,dd,dd,dd,dd,dd,dd,dd,dd,dd,dd,dd,dd,dd,dd,dd,dd,dd,dd,dd,dd,dd,dd,dd,dd,dd,dd,dd,dd,dd,dd],[(0,{next:=1,l:=[none,some {e:=0,var:=false,fz:=false,bor:=true,sz:=1,cells:=(zaw t.2.2).map C.d}]})]⟩)
   (fun t=>t.1<t.2.1∧t.2.1≤l.length∧t.2.2.length=l.length∧t.2.2.take t.1=(l.take t.2.1).filter (fun x=> !p x)∧t.2.2.drop t.2.1=l.drop t.2.1) (fun _=>()) (fun t=>l.length - t.2.1) (k,k+1,l)
   (Gh.canon [0] [] [0] (zk hfc) rfl rfl) ⟨Nat.lt_succ_self _,hk,rfl, ?_,rfl⟩ ?_
  ·rw[List.take_add_one,List.filter_append,List.getElem?_eq_getElem hk]
   simp only[Option.toList,List.filter_cons,h2,List.filter_nil]
   simp only[Bool.not_true,Bool.false_eq_true,if_false,List.append_nil]
   exact(List.filter_eq_self.2 fun x hx=>by rw[h3 x hx];rfl).symm
  intro⟨i,j,L⟩ ⟨j1,j2,j3,j4,j5⟩ hF K hK
  simp only at j1 j2 j3 j4 j5 hF hK⊢
  refine zw ?_
  refine zaa (fun hlt=> ?_) (fun hge=> ?_)
  ·have hj:j<l.length:=by simpa using hlt
   have hjL:j<L.length:=by omega
   have hLj:L[j]=l[j]:=by
    have e1:=List.drop_eq_getElem_cons hjL
    rw[j5,List.drop_eq_getElem_cons hj]at e1
    exact(List.cons.inj e1).1.symm
   have hat:=zcN hjL
   rw[hLj]at hat
   simp only[List.cons_append,List.nil_append]at hat
   have hcp:=hp _ (List.getElem_mem hj)
   have hwj:=zan hj (by omega)
   have hwi:=zan (show i<l.length by omega) (by omega)
   have hset:=zeI (fun n=>[iD n]) 1 (fun _=>rfl) (show i<L.length by omega) l[j]
   simp only[fillAt,List.map_cons,List.map_nil,Nat.mul_one]at hset
   have htk:(l.take (j+1)).filter (fun x=> !p x)=(l.take j).filter (fun x=> !p x)++(if p l[j]=true then []else [l[j]]):=by
    rw[List.take_add_one,List.filter_append,List.getElem?_eq_getElem hj]
    simp only[Option.toList,List.filter_cons,List.filter_nil]
    cases p l[j]<;>simp
   cases hpj:p l[j]
   ·rw[hpj]at hcp htk
    repeat'(first|refine zq (I hc3 (I @zmd (I hat (I @List.map_cons.{0,0} (I @zah (I j3 (I @Bool.not_false hset))))))) ?_|exact zd (I hc3 (I @zmd (I hat (I @List.map_cons.{0,0} (I @zah (I j3 (I @Bool.not_false hset)))))))|refine zc (hcp) ?_|refine zg (hcp) ?_|(refine zaa ?_ ?_<;>intro hb)|(refine And.intro ?_ ?_;exact zI)|(refine And.intro ?_ ?_<;>intro hg)|exact zC|fail)
    refine hK _ (i+1,j+1,L.set i l[j]) (Gh.canon [0] [] [0] (zk (I hfc (I hwi hwj))) rfl rfl) ⟨by simp only;omega,hj,by simp only[List.length_set];exact j3, ?_, ?_⟩ trivial (by simp only;omega)
    ·simp only
     rw[zd3 (by omega),htk,j4];rfl
    ·simp only
     rw[zfd (by omega),←List.drop_drop,j5,List.drop_drop]
   ·rw[hpj]at hcp htk
    repeat'(first|refine zq (I hc3 (I @zmd (I hat (I @List.map_cons.{0,0} (I @zah (I j3 @Bool.not_true)))))) ?_|exact zd (I hc3 (I @zmd (I hat (I @List.map_cons.{0,0} (I @zah (I j3 @Bool.not_true))))))|refine zc (hcp) ?_|refine zg (hcp) ?_|(refine zaa ?_ ?_<;>intro hb)|(refine And.intro ?_ ?_;exact zI)|(refine And.intro ?_ ?_<;>intro hg)|exact zC|fail)
    refine hK _ (i,j+1,L) (Gh.canon [0] [] [0] (zk (I hfc hwj)) rfl rfl) ⟨by simp only;omega,hj,j3, ?_, ?_⟩ trivial (by simp only;omega)
    ·simp only
     rw[htk,j4];simp
    ·simp only
     rw[←List.drop_drop,j5,List.drop_drop]
  ·have hj:j=l.length:=by
    have:¬(j:Int)<l.length:=by simpa using hge
    omega
   subst hj
   rw[List.take_length]at j4
   obtain⟨fl,hfl⟩:∃fl,fl=l.filter (fun x=> !p x):=⟨_,rfl⟩
   rw[←hfl]at j4
   have hfll:fl.length=i:=by rw[←j4,List.length_take];omega
   obtain⟨Z,hZ⟩:∃Z,Z=zdk [.int .i64 0] (l.length - i):=⟨_,rfl⟩
   have hZl:Z.length=(l.length - i):=by rw[hZ,zcz];exact Nat.mul_one _;done
   have etk:(zaw L).take (i)=zaw fl:=by
    have:=zc8 (fun n=>[iD n]) 1 (fun _=>rfl) (show i≤L.length by omega)
    rw[←j4];rw[Nat.mul_one]at this;exact this
   have hLl:(zaw L).length=l.length:=by rw[zah,j3]
   have e2:List.take (i) (List.map C.d (zaw L))++List.map C.d Z++List.drop (i+Z.length) (List.map C.d (zaw L))=List.map C.d (zaw fl++Z):=by
    rw[←List.map_take,etk,List.drop_of_length_le (by rw[List.length_map];omega)];simp
   rw[←hfl,hfll]
   repeat'(first|refine zq (I j3 (I @zah (I (Eq.symm hZ) e2))) ?_|exact zd (I j3 (I @zah (I (Eq.symm hZ) e2)))|(refine zaa ?_ ?_<;>intro hb)|(refine And.intro ?_ ?_;exact zI)|(refine And.intro ?_ ?_<;>intro hg)|exact zC|fail)
   exact⟨Z,_,rfl, .inl trivial⟩
end Go.Proofs.YtngleemijkaeoaaGreat
