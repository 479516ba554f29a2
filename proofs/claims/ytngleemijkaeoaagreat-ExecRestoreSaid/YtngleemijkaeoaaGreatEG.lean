import Derived.Test.YtngleemijkaeoaaGreatER
namespace Go.Proofs.YtngleemijkaeoaaGreat
open Go.Pk
set_option maxRecDepth 100000
set_option linter.unusedSimpArgs false
set_option linter.unusedVariables false
theorem zgD (l:List Int) (hl:l.length<2^62) (p:Int→Bool) (f:Nat) (caps:List C) (hc:lendAs [] (caps.map AV.one)=some (caps.map fun c=> .f (.one c))) (hc2:lendC.lendCs [] caps=some caps)
  (hp:∀x∈l,CallOK Tryz.prog f (.f (ztg x)::caps.map fun c=> .f (.one c)) (fun r o=>r=[rb (p x)]∧o=[])):
  CallOK Tryz.prog 107 [.f (al l.length (zaw l)), .f (.one (.clos f caps))] (fun r o=>r=[rb (l.any p)]∧o=[]):=by
 refine zac zar mixed (T:=Ty) (n:=9) Tryz.func107 (c:=Tryz.f107.body.getD .skip) rfl Tryz.results107 Tryz.ntmps107 Tryz.call107 ?_
 simp only[Tryz.f107,Option.getD]
 repeat(first|with_reducible refine zab _ _ ?_|with_reducible refine And.imp_right (zab _ _) ?_|with_reducible refine And.imp_right (And.imp_right (zab _ _)) ?_|with_reducible refine And.imp_right (And.imp_right (And.imp_right (zab _ _))) ?_|rw[zaj]|simp only[zB,hc2,Nat.reduceSub,Nat.reduceEqDiff,Nat.reduceAdd,Nat.reduceMul,Nat.reduceLeDiff,Nat.reduceLT,Nat.reduceBEq,reduceCtorEq])
 refine zaA (zkz l hl p f caps hc hp) ?_
 refine zw ?_
 rw[zdu]
abbrev zvf:Req→AV:=fun x=> .agg (x.enc.map C.d)
theorem zqD (l:List Req) (hl:l.length<2^62) (p:Req→Bool) (f:Nat) (caps:List C) (hc:lendAs [] (caps.map AV.one)=some (caps.map fun c=> .f (.one c)))
  (hp:∀x∈l,CallOK Tryz.prog f (.f (zvf x)::caps.map fun c=> .f (.one c)) (fun r o=>r=[rb (p x)]∧o=[])):
  CallOK Tryz.prog 109 [.f (al l.length (zbF l)), .f (.one (.clos f caps))] (fun r o=>r=[ri (zck p l 0)]∧o=[]):=by
 refine zac zar mixed (T:=Ty) (n:=19) Tryz.func109 (c:=Tryz.f109.body.getD .skip) rfl Tryz.results109 Tryz.ntmps109 Tryz.call109 ?_
 simp only[Tryz.f109,Option.getD]
 refine zw ?_
 refine zao (τ:=Nat) (fun i=>⟨[al l.length (zbF l), .one (.clos f caps),dd,dd,ai 0,dd,al l.length (zbF l),ai l.length,ai i,dd,dd,dd,dd,dd,dd,dd,dd,dd,dd],[]⟩) (fun i=>i≤l.length) (fun i=>zck p (l.drop i) i) (fun i=>l.length - i) 0 (Gh.fgt ?_) (Nat.zero_le _) ?_
 ·simp only[zaR,zaS,za5,Int.natCast_zero]
 intro i hi0 hF K hK
 refine zw ?_
 rw[zcL]
 refine⟨trivial,fun hlt=> ?_,fun hge=> ?_⟩
 ·have hi:i<l.length:=by simpa using hlt
  rw[List.drop_eq_getElem_cons hi,zck]at hF
  have hat:=zd5 hi
  simp only[List.cons_append,List.nil_append]at hat
  repeat(first|with_reducible refine zab _ _ ?_|with_reducible refine And.imp_right (zab _ _) ?_|with_reducible refine And.imp_right (And.imp_right (zab _ _)) ?_|with_reducible refine And.imp_right (And.imp_right (And.imp_right (zab _ _))) ?_|rw[zaj]|simp only[zB,zaZ,hat,hc,Nat.reduceSub,Nat.reduceEqDiff,Nat.reduceAdd,Nat.reduceMul,Nat.reduceLeDiff,Nat.reduceLT,Nat.reduceBEq,reduceCtorEq])
  refine⟨⟨Int.natCast_nonneg i,by omega⟩, ?_⟩
  refine zaA (hp _ (List.getElem_mem hi)) ?_
  refine zw ?_
  refine zaa (fun hb=> ?_) (fun hb=> ?_)
  ·rw[if_pos hb]at hF
   refine zw ?_
   rw[hF];rfl
  ·rw[if_neg (by simp[hb])]at hF
   refine zw ?_
   refine hK _ (i+1) (Gh.fgt ?_) hi (by simp only[List.drop_eq_getElem_cons hi,zck];rw[if_neg (by simp[hb])];rfl) (by omega)
   have hw:IntKind.i64.wrap ((i:Int)+1)=((i+1:Nat):Int):=by rw[wrap64 (by omega) (by omega)];rfl
   simp only[hw,zaR,zaS,za5]
 ·have hi:i=l.length:=by
   have:¬(i:Int)<l.length:=by simpa using hge
   omega
  rw[hi,List.drop_length,zck]at hF
  refine zw ?_
  rw[hF];rfl
theorem zlK (l:List Req) (hl:l.length<2^62) (p:Req→Bool) (f:Nat) (caps:List C) (hc:lendAs [] (caps.map AV.one)=some (caps.map fun c=> .f (.one c))) (hc2:lendC.lendCs [] caps=some caps)
  (hp:∀x∈l,CallOK Tryz.prog f (.f (zvf x)::caps.map fun c=> .f (.one c)) (fun r o=>r=[rb (p x)]∧o=[])):
  CallOK Tryz.prog 67 [.f (al l.length (zbF l)), .f (.one (.clos f caps))] (fun r o=>r=[rb (l.any p)]∧o=[]):=by
 refine zac zar mixed (T:=Ty) (n:=9) Tryz.func67 (c:=Tryz.f67.body.getD .skip) rfl Tryz.results67 Tryz.ntmps67 Tryz.call67 ?_
 simp only[Tryz.f67,Option.getD]
 repeat(first|with_reducible refine zab _ _ ?_|with_reducible refine And.imp_right (zab _ _) ?_|with_reducible refine And.imp_right (And.imp_right (zab _ _)) ?_|with_reducible refine And.imp_right (And.imp_right (And.imp_right (zab _ _))) ?_|rw[zaj]|simp only[zB,hc2,Nat.reduceSub,Nat.reduceEqDiff,Nat.reduceAdd,Nat.reduceMul,Nat.reduceLeDiff,Nat.reduceLT,Nat.reduceBEq,reduceCtorEq])
 refine zaA (zqD l hl p f caps hc hp) ?_
 refine zw ?_
 rw[zdu]
def bad (n:Int):Bool:=decide (n<0)||decide (n>zaL)
def inH (n:Int):Bool:=decide (n≥0)&&decide (n≤zaL)
theorem zuh (n:Int):(!bad n)=inH n:=by unfold bad inH;rw[Bool.eq_iff_iff];simp
theorem zi3 (n:Int):CallOK Tryz.prog 108 [.f (ai n)] (fun r o=>r=[rb (bad n)]∧o=[]):=by
 refine zac zar mixed (T:=Ty) (n:=9) Tryz.func108 (c:=Tryz.f108.body.getD .skip) rfl Tryz.results108 Tryz.ntmps108 Tryz.call108 ?_
 simp only[Tryz.f108,Option.getD]
 repeat'(first|with_reducible refine zab _ _ ?_|rw[zaj]|simp only[zB,Nat.reduceSub,Nat.reduceEqDiff,Nat.reduceAdd,Nat.reduceMul,Nat.reduceLeDiff,Nat.reduceLT,Nat.reduceBEq,reduceCtorEq]|refine zal ?_|refine zaa (fun hb=> ?_) (fun hb=> ?_)|(refine And.intro ?_ ?_;exact zI)|refine And.intro (fun hg=> ?_) (fun hg=> ?_)|exact zC|fail)
 rfl
theorem zi4 (l:List Int) (hl:l.length<2^62):CallOK Tryz.prog 66 [.f (al l.length (zaw l))] (fun r o=>r=[rb (!l.any bad)]∧o=[]):=by
 refine zac zar mixed (T:=Ty) (n:=6) Tryz.func66 (c:=Tryz.f66.body.getD .skip) rfl Tryz.results66 Tryz.ntmps66 Tryz.call66 ?_
 simp only[Tryz.f66,Option.getD]
 repeat'(first|with_reducible refine zab _ _ ?_|rw[zaj]|simp only[zB,Nat.reduceSub,Nat.reduceEqDiff,Nat.reduceAdd,Nat.reduceMul,Nat.reduceLeDiff,Nat.reduceLT,Nat.reduceBEq,reduceCtorEq]|((first|((try refine zax ?_);apply zaA)|(apply zaB;intro _));(solve|exact(zgD l hl bad _ [] rfl rfl (fun x _=>zi3 x))|(refine CallOK.le (zgD l hl bad _ [] rfl rfl (fun x _=>zi3 x)) ?_;exact zM)|fail);try case hn=>rfl)|refine zal ?_|refine zaa (fun hb=> ?_) (fun hb=> ?_)|(refine And.intro ?_ ?_;exact zI)|refine And.intro (fun hg=> ?_) (fun hg=> ?_)|exact zC|fail)
theorem zlL (v least:Int):CallOK Tryz.prog 58 [.f (ai v), .f (ai least)] (fun r o=>r=[rb (decide (v≥least)&&decide (v≤zaL))]∧o=[]):=by
 refine zac zar mixed (T:=Ty) (n:=12) Tryz.func58 (c:=Tryz.f58.body.getD .skip) rfl Tryz.results58 Tryz.ntmps58 Tryz.call58 ?_
 simp only[Tryz.f58,Option.getD]
 repeat'(first|with_reducible refine zab _ _ ?_|rw[zaj]|simp only[zB,Nat.reduceSub,Nat.reduceEqDiff,Nat.reduceAdd,Nat.reduceMul,Nat.reduceLeDiff,Nat.reduceLT,Nat.reduceBEq,reduceCtorEq]|refine zal ?_|refine zaa (fun hb=> ?_) (fun hb=> ?_)|(refine And.intro ?_ ?_;exact zI)|refine And.intro (fun hg=> ?_) (fun hg=> ?_)|exact zC|fail)
def Tip.may (t:Tip):Bool:=inH t.view&&inH t.slot
theorem zlM (t:Tip):CallOK Tryz.prog 59 [.f (.agg [di t.view,di t.slot])] (fun r o=>r=[rb (Tip.may t)]∧o=[]):=by
 refine zac zar mixed (T:=Ty) (n:=21) Tryz.func59 (c:=Tryz.f59.body.getD .skip) rfl Tryz.results59 Tryz.ntmps59 Tryz.call59 ?_
 simp only[Tryz.f59,Option.getD]
 repeat'(first|with_reducible refine zab _ _ ?_|rw[zaj]|simp only[zB,Nat.reduceSub,Nat.reduceEqDiff,Nat.reduceAdd,Nat.reduceMul,Nat.reduceLeDiff,Nat.reduceLT,Nat.reduceBEq,reduceCtorEq]|refine zal ?_|refine zaa (fun hb=> ?_) (fun hb=> ?_)|(refine And.intro ?_ ?_;exact zI)|refine And.intro (fun hg=> ?_) (fun hg=> ?_)|exact zC|fail)
 simp[Tip.may,inH,Bool.and_assoc]
theorem zsf (t:Tip) (b:Batch):CallOK Tryz.prog 36 [.f (.agg [di t.view,di t.slot]), .f (.agg b.lent)] (fun r o=>r=[rb (!b.fill&&(b.tip.view==t.view&&b.tip.slot==t.slot))]∧o=[]):=by
 refine zac zar mixed (T:=Ty) (n:=14) Tryz.func36 (c:=Tryz.f36.body.getD .skip) rfl Tryz.results36 Tryz.ntmps36 Tryz.call36 ?_
 simp only[Tryz.f36,Option.getD]
 repeat'(first|with_reducible refine zab _ _ ?_|rw[zaj]|simp only[zB,Nat.reduceSub,Nat.reduceEqDiff,Nat.reduceAdd,Nat.reduceMul,Nat.reduceLeDiff,Nat.reduceLT,Nat.reduceBEq,reduceCtorEq]|refine zal ?_|refine zaa (fun hb=> ?_) (fun hb=> ?_)|(refine And.intro ?_ ?_;exact zI)|refine And.intro (fun hg=> ?_) (fun hg=> ?_)|exact zC|fail)
theorem zqE (t:Tip) (b:Batch):CallOK Tryz.prog 32 [.f (.agg [di t.view,di t.slot]), .f (.agg b.lent)] (fun r o=>r=[rb (!b.fill&&(b.tip.view==t.view&&b.tip.slot==t.slot))]∧o=[]):=by
 refine zac zar mixed (T:=Ty) (n:=14) Tryz.func32 (c:=Tryz.f32.body.getD .skip) rfl Tryz.results32 Tryz.ntmps32 Tryz.call32 ?_
 simp only[Tryz.f32,Option.getD]
 repeat'(first|with_reducible refine zab _ _ ?_|rw[zaj]|simp only[zB,Nat.reduceSub,Nat.reduceEqDiff,Nat.reduceAdd,Nat.reduceMul,Nat.reduceLeDiff,Nat.reduceLT,Nat.reduceBEq,reduceCtorEq]|refine zal ?_|refine zaa (fun hb=> ?_) (fun hb=> ?_)|(refine And.intro ?_ ?_;exact zI)|refine And.intro (fun hg=> ?_) (fun hg=> ?_)|exact zC|fail)
theorem zj0 (r q:Req):CallOK Tryz.prog 68 [.f (.agg (r.enc.map C.d)), .f (.one (.elt q.enc))] (fun x o=>x=[rb (r.client==q.client)]∧o=[]):=by
 refine zac zar mixed (T:=Ty) (n:=9) Tryz.func68 (c:=Tryz.f68.body.getD .skip) rfl Tryz.results68 Tryz.ntmps68 Tryz.call68 ?_
 simp only[Tryz.f68,Option.getD]
 repeat'(first|with_reducible refine zab _ _ ?_|rw[zaj]|simp only[zB,Nat.reduceSub,Nat.reduceEqDiff,Nat.reduceAdd,Nat.reduceMul,Nat.reduceLeDiff,Nat.reduceLT,Nat.reduceBEq,reduceCtorEq]|refine zal ?_|refine zaa (fun hb=> ?_) (fun hb=> ?_)|(refine And.intro ?_ ?_;exact zI)|refine And.intro (fun hg=> ?_) (fun hg=> ?_)|exact zC|fail)
theorem zqF {l:List Req} {i:Nat} (hi:i≤l.length):(zbF l).take (i*5)=zbF (l.take i):=by
 have h:zbF l=zbF (l.take i)++zbF (l.drop i):=by rw[←List.flatMap_append,List.take_append_drop]
 rw[h,List.take_left' (by rw[zaZ,List.length_take];congr 1;omega)]
def zb5 (l:List Req):Nat→List Req→Bool
 |_,[]=>true
 |i,r::rest=>if(!Req.may r||(l.take i).any (fun o=>o.client==r.client))=true then false else zb5 l (i+1) rest
def Batch.may (b:Batch):Bool:=
 if b.fill=true then b.view==0&&b.time==0&&(b.tip.view==0&&b.tip.slot==0)&&(b.reqs.length:Int)==0
 else if(!![b.view,b.time,b.tip.view,b.tip.slot].any bad||decide ((b.reqs.length:Int)>3))=true then false else zb5 b.reqs 0 b.reqs
theorem zmy (b:Batch) (hok:b.ok):CallOK Tryz.prog 35 [.f (.agg b.lent)] (fun r o=>r=[rb (Batch.may b)]∧o=[]):=by
 have hlen:b.reqs.length<2^42:=hok.2.2.2.2.1
 have hreq:∀r∈b.reqs,r.ok:=hok.2.2.2.2.2
 refine zac zar mixed (T:=Ty) (n:=66) Tryz.func35 (c:=Tryz.f35.body.getD .skip) rfl Tryz.results35 Tryz.ntmps35 Tryz.call35 ?_
 simp only[Tryz.f35,Option.getD]
 repeat'(first|with_reducible refine zab _ _ ?_|rw[zaj]|simp only[zB,Nat.reduceSub,Nat.reduceEqDiff,Nat.reduceAdd,Nat.reduceMul,Nat.reduceLeDiff,Nat.reduceLT,Nat.reduceBEq,reduceCtorEq]|((first|((try refine zax ?_);apply zaA)|(apply zaB;intro _));(solve|exact(zi4 [_,_,_,_] (by simp))|(refine CallOK.le (zi4 [_,_,_,_] (by simp)) ?_;exact zM)|fail);try case hn=>rfl)|refine zal ?_|refine zaa (fun hb=> ?_) (fun hb=> ?_)|(refine And.intro ?_ ?_;exact zI)|refine And.intro (fun hg=> ?_) (fun hg=> ?_)|exact zC|fail)
 ·rw[Batch.may,if_pos (by assumption)]
 ·rw[Batch.may,if_neg (by simp_all),if_pos (by assumption)]
 rename_i hf
 have hm:Batch.may b=zb5 b.reqs 0 b.reqs:=by rw[Batch.may,if_neg (by simp[hf]),if_neg (by rw[hb];simp)]
 rw[hm]
 refine zw ?_
 refine zao (τ:=Nat×Nat) (fun t=>⟨[dd, .one (.ptr ⟨1,0,0⟩ 0),ab false,dd,dd,dd,dd,dd,dd,dd,dd,dd,dd,dd,dd,dd,dd,dd,dd,dd,dd,dd,dd,dd,dd,dd,dd,dd,dd,dd,dd,dd,dd,dd,dd,dd,dd,dd,dd,dd,dd,dd,dd,dd,dd,dd,dd,al b.reqs.length (zbF b.reqs),ai b.reqs.length,ai t.1,dd,dd,dd,dd,dd,dd,dd,dd,dd,dd,dd,dd,dd,dd,dd,dd],
  [(1,{next:=7,l:=[some {e:=0,var:=true,fz:=false,sz:=0,cells:=[db b.fill,di b.view,di b.tip.view,di b.tip.slot,di b.time, .lent b.reqs.length (zbF b.reqs)]},none,none,none,none,none,none]}),(37,⟨1,[]⟩),(4,⟨t.2,[]⟩)]⟩)
  (fun t=>t.1≤b.reqs.length) (fun t=>zb5 b.reqs t.1 (b.reqs.drop t.1)) (fun t=>b.reqs.length - t.1) (0,0) (Gh.keep [1] [4] ?_ rfl) (Nat.zero_le _) ?_
 ·simp only[zaR,zaS,za5,Int.natCast_zero]
 intro⟨i,e⟩ hi0 hF K hK
 simp only at hi0 hF hK⊢
 refine zw ?_
 rw[zcL]
 refine⟨trivial,fun hlt=> ?_,fun hge=> ?_⟩
 ·have hi:i<b.reqs.length:=by simpa using hlt
  rw[List.drop_eq_getElem_cons hi,zb5]at hF
  have hat:=zd5 hi
  simp only[List.cons_append,List.nil_append]at hat
  have hro:=hreq _ (List.getElem_mem hi)
  have hlt':(b.reqs.take i).length=i:=by rw[List.length_take];omega
  have hc:=zlK (b.reqs.take i) (by omega) (fun o=>o.client==b.reqs[i].client) 68 [.elt b.reqs[i].enc] rfl rfl (fun x _=>zj0 x _)
  rw[hlt',←zqF hi0]at hc
  repeat'(first|with_reducible refine zab _ _ ?_|rw[zaj]|simp only[zB,zaZ,hat,Int.toNat_zero,Int.toNat_natCast,Nat.sub_zero,Int.natCast_zero,Nat.reduceSub,Nat.reduceEqDiff,Nat.reduceAdd,Nat.reduceMul,Nat.reduceLeDiff,Nat.reduceLT,Nat.reduceBEq,reduceCtorEq]|((first|((try refine zax ?_);apply zaA)|(apply zaB;intro _));(solve|exact(zhP _ hro)|exact(hc)|(refine CallOK.le (zhP _ hro) ?_;exact zM)|(refine CallOK.le (hc) ?_;exact zM)|fail);try case hn=>rfl)|refine zal ?_|refine zaa (fun hb=> ?_) (fun hb=> ?_)|(refine And.intro ?_ ?_;exact zI)|refine And.intro (fun hg=> ?_) (fun hg=> ?_)|exact zC|fail)
  ·rw[if_pos hb,List.drop_zero]at hF
   rw[←hF]
  ·rw[if_neg (by rw[hb];simp)]at hF
   refine hK _ (i+1,_) (Gh.keep [1] [] ?_ rfl) hi (by simp only[List.drop_eq_getElem_cons hi,zb5];rw[if_neg (by rw[hb];simp)]) (by simp only;omega)
   simp only[zan hi (by omega),zaR,zaS,za5]
 ·have hi:i=b.reqs.length:=by
   have:¬(i:Int)<b.reqs.length:=by simpa using hge
   omega
  rw[hi,List.drop_length,List.drop_zero,zb5]at hF
  refine zw ?_
  rw[←hF]
theorem zqG (l:List Req) (hl:l.length<2^42) (hreq:∀r∈l,r.ok):CallOK Tryz.prog 60 [.f (al l.length (zbF l))] (fun r o=>r=[rb (if decide ((l.length:Int)>3)=true then false else zb5 l 0 l)]∧o=[]):=by
 refine zac zar mixed (T:=Ty) (n:=36) Tryz.func60 (c:=Tryz.f60.body.getD .skip) rfl Tryz.results60 Tryz.ntmps60 Tryz.call60 ?_
 simp only[Tryz.f60,Option.getD]
 refine zw ?_
 refine zaa (fun hb=> ?_) (fun hb=> ?_)
 ·refine zw ?_
  rw[if_pos hb]
 rw[if_neg (by rw[hb];simp)]
 refine zw ?_
 refine zao (τ:=Nat) (fun i=>⟨[al l.length (zbF l),dd,ab false,ai i,dd,dd,dd,dd,dd,dd,dd,dd,dd,dd,dd,dd,dd,dd,dd,dd,dd,dd,dd,dd,dd,dd,dd,dd,dd,dd,dd,dd,dd,dd,dd,dd],[]⟩)
  (fun i=>i≤l.length) (fun i=>zb5 l i (l.drop i)) (fun i=>l.length - i) 0 (Gh.fgt ?_) (Nat.zero_le _) ?_
 ·simp only[zaR,zaS,za5,Int.natCast_zero]
 intro i hi0 hF K hK
 refine zw ?_
 refine zaa (fun hlt=> ?_) (fun hge=> ?_)
 ·have hi:i<l.length:=by simpa using hlt
  rw[List.drop_eq_getElem_cons hi,zb5]at hF
  have hat:=zd5 hi
  simp only[List.cons_append,List.nil_append]at hat
  have hro:=hreq _ (List.getElem_mem hi)
  repeat'(first|with_reducible refine zab _ _ ?_|rw[zaj]|simp only[zB,zaZ,hat,Nat.reduceSub,Nat.reduceEqDiff,Nat.reduceAdd,Nat.reduceMul,Nat.reduceLeDiff,Nat.reduceLT,Nat.reduceBEq,reduceCtorEq]|((first|((try refine zax ?_);apply zaA)|(apply zaB;intro _));(solve|exact(zgq _ hro)|(refine CallOK.le (zgq _ hro) ?_;exact zM)|fail);try case hn=>rfl)|refine zal ?_|refine zaa (fun hb=> ?_) (fun hb=> ?_)|(refine And.intro ?_ ?_;exact zI)|refine And.intro (fun hg=> ?_) (fun hg=> ?_)|exact zC|fail)
  ·rw[if_pos (by rw[hb];rfl),List.drop_zero]at hF
   rw[←hF]
  rename_i hm
  have hm:Req.may l[i]=true:=by simpa using hb
  refine zw ?_
  refine zao (τ:=Nat) (fun k=>⟨[al l.length (zbF l),dd,ab false,ai i,ai k,dd,dd,dd,dd,dd,dd,dd,dd,dd,dd,dd,dd,dd,dd,dd,dd,dd,dd,dd,dd,dd,dd,dd,dd,dd,dd,dd,dd,dd,dd,dd],[]⟩)
   (fun k=>k≤i) (fun k=>((l.take i).drop k).any (fun o=>o.client==l[i].client)) (fun k=>i - k) 0 (Gh.fgt ?_) (Nat.zero_le _) ?_
  ·simp only[zaR,zaS,za5,Int.natCast_zero]
  intro k hk0 hF2 K2 hK2
  refine zw ?_
  refine zaa (fun hlt2=> ?_) (fun hge2=> ?_)
  ·have hk:k<i:=by simpa using hlt2
   have hkl:k<l.length:=by omega
   have hat2:=zd5 hkl
   simp only[List.cons_append,List.nil_append]at hat2
   have hd:(l.take i).drop k=l[k]::(l.take i).drop (k+1):=by
    rw[List.drop_eq_getElem_cons (by rw[List.length_take];omega)]
    congr 1
    rw[List.getElem_take]
   rw[hd,List.any_cons,List.drop_zero]at hF2
   repeat'(first|with_reducible refine zab _ _ ?_|rw[zaj]|simp only[zB,zaZ,hat,hat2,Nat.reduceSub,Nat.reduceEqDiff,Nat.reduceAdd,Nat.reduceMul,Nat.reduceLeDiff,Nat.reduceLT,Nat.reduceBEq,reduceCtorEq]|refine zal ?_|refine zaa (fun hb=> ?_) (fun hb=> ?_)|(refine And.intro ?_ ?_;exact zI)|refine And.intro (fun hg=> ?_) (fun hg=> ?_)|exact zC|fail)
   ·rw[hb,Bool.true_or]at hF2
    rw[if_pos (by rw[←hF2,Bool.or_true]),List.drop_zero]at hF
    rw[←hF]
   ·rw[hb,Bool.false_or]at hF2
    refine hK2 _ (k+1) (Gh.fgt ?_) hk (by rw[hd,List.any_cons,hb,Bool.false_or]) (by omega)
    simp only[zan hk (by omega),zaR,zaS,za5]
  ·have hk:k=i:=by
    have:¬(k:Int)<i:=by simpa using hge2
    omega
   rw[hk,List.drop_of_length_le (by rw[List.length_take];omega),List.any_nil,List.drop_zero]at hF2
   rw[if_neg (by rw[←hF2,hm];simp)]at hF
   refine zw ?_
   refine hK _ (i+1) (Gh.fgt ?_) hi (by simp only[List.drop_eq_getElem_cons hi,zb5];rw[if_neg (by rw[←hF2,hm];simp)]) (by omega)
   simp only[zan hi (by omega),zaR,zaS,za5]
 ·have hi:i=l.length:=by
   have:¬(i:Int)<l.length:=by simpa using hge
   omega
  rw[hi,List.drop_length,List.drop_zero,zb5]at hF
  refine zw ?_
  rw[←hF]
theorem zlN (b:Batch) (hok:b.ok):CallOK Tryz.prog 31 [.f (.agg b.lent)] (fun r o=>r=[rb (Batch.may b)]∧o=[]):=by
 refine zac zar mixed (T:=Ty) (n:=43) Tryz.func31 (c:=Tryz.f31.body.getD .skip) rfl Tryz.results31 Tryz.ntmps31 Tryz.call31 ?_
 simp only[Tryz.f31,Option.getD]
 repeat'(first|with_reducible refine zab _ _ ?_|rw[zaj]|simp only[zB,Nat.reduceSub,Nat.reduceEqDiff,Nat.reduceAdd,Nat.reduceMul,Nat.reduceLeDiff,Nat.reduceLT,Nat.reduceBEq,reduceCtorEq]|((first|((try refine zax ?_);apply zaA)|(apply zaB;intro _));(solve|exact(zlL _ _)|exact(zlM b.tip)|exact(zqG b.reqs hok.2.2.2.2.1 hok.2.2.2.2.2)|(refine CallOK.le (zlL _ _) ?_;exact zM)|(refine CallOK.le (zlM b.tip) ?_;exact zM)|(refine CallOK.le (zqG b.reqs hok.2.2.2.2.1 hok.2.2.2.2.2) ?_;exact zM)|fail);try case hn=>rfl)|refine zal ?_|refine zaa (fun hb=> ?_) (fun hb=> ?_)|(refine And.intro ?_ ?_;exact zI)|refine And.intro (fun hg=> ?_) (fun hg=> ?_)|exact zC|fail)
 ·rw[Batch.may,if_pos (by assumption)]
  refine congrArg (fun b=>[rb b]) ?_
  ac_rfl
 ·refine congrArg (fun b=>[rb b]) ?_
  have e:(![b.view,b.time,b.tip.view,b.tip.slot].any bad)=(inH b.view&&inH b.time&&Tip.may b.tip):=by
   simp[Tip.may,←zuh,Bool.and_assoc]
  rw[Batch.may,if_neg (show¬b.fill=true by rw[hb];simp),e]
  show(inH b.view&&inH b.time&&Tip.may b.tip&&_)=_
  generalize (inH b.view&&inH b.time&&Tip.may b.tip)=q
  generalize decide ((b.reqs.length:Int)>3)=d
  cases q<;>cases d<;>rfl
theorem zh7 (l:List Req) (hl:l.length<2^42):CallOK Tryz.prog 55 [.f (al l.length (zbF l)), .f (al l.length (zbF l))] (fun r o=>r=[rb true]∧o=[]):=by
 refine zac zar mixed (T:=Ty) (n:=26) Tryz.func55 (c:=Tryz.f55.body.getD .skip) rfl Tryz.results55 Tryz.ntmps55 Tryz.call55 ?_
 simp only[Tryz.f55,Option.getD]
 repeat'(first|with_reducible refine zab _ _ ?_|rw[zaj]|simp only[zB,Nat.reduceSub,Nat.reduceEqDiff,Nat.reduceAdd,Nat.reduceMul,Nat.reduceLeDiff,Nat.reduceLT,Nat.reduceBEq,reduceCtorEq]|refine zal ?_|refine zaa (fun hb=> ?_) (fun hb=> ?_)|(refine And.intro ?_ ?_;exact zI)|refine And.intro (fun hg=> ?_) (fun hg=> ?_)|exact zC|fail)
 ·simp at hb
 refine zao (τ:=Nat) (fun t=>⟨[al l.length (zbF l),al l.length (zbF l),dd,dd,ab false,ai t,dd,dd,dd,dd,dd,dd,dd,dd,dd,dd,dd,dd,dd,dd,dd,dd,dd,dd,dd,dd],[]⟩)
  (fun t=>t≤l.length) (fun t=>()) (fun t=>l.length - t) 0 (Gh.fgt ?_) (Nat.zero_le _) ?_
 ·simp only[zaR,zaS,za5,Int.natCast_zero]
 intro i hi0 hF K hK
 refine zw ?_
 refine zaa (fun hlt=> ?_) (fun hge=> ?_)
 ·have hi:i<l.length:=by simpa using hlt
  have hat:=zd5 hi
  simp only[List.cons_append,List.nil_append]at hat
  repeat'(first|with_reducible refine zab _ _ ?_|rw[zaj]|simp only[zB,zaZ,hat,Nat.reduceSub,Nat.reduceEqDiff,Nat.reduceAdd,Nat.reduceMul,Nat.reduceLeDiff,Nat.reduceLT,Nat.reduceBEq,reduceCtorEq]|refine zal ?_|refine zaa (fun hb=> ?_) (fun hb=> ?_)|(refine And.intro ?_ ?_;exact zI)|refine And.intro (fun hg=> ?_) (fun hg=> ?_)|exact zC|fail)
  ·exfalso
   simp[eqVs,eqV]at hb
  ·refine hK _ (i+1) (Gh.fgt ?_) hi rfl (by omega)
   simp only[zan hi (by omega),zaR,zaS,za5]
 ·repeat'(first|refine zq0 ?_|exact zd0|(refine zaa ?_ ?_<;>intro hb)|(refine And.intro ?_ ?_;exact zI)|(refine And.intro ?_ ?_<;>intro hg)|exact zC|fail)
theorem zqW (b:Batch) (hl:b.reqs.length<2^42):CallOK Tryz.prog 29 [.f (.agg b.lent), .f (.agg b.lent)] (fun r o=>r=[rb true]∧o=[]):=by
 refine zac zar mixed (T:=Ty) (n:=38) Tryz.func29 (c:=Tryz.f29.body.getD .skip) rfl Tryz.results29 Tryz.ntmps29 Tryz.call29 ?_
 simp only[Tryz.f29,Option.getD]
 repeat'(first|with_reducible refine zab _ _ ?_|rw[zaj]|simp only[zB,Nat.reduceSub,Nat.reduceEqDiff,Nat.reduceAdd,Nat.reduceMul,Nat.reduceLeDiff,Nat.reduceLT,Nat.reduceBEq,reduceCtorEq]|((first|((try refine zax ?_);apply zaA)|(apply zaB;intro _));(solve|exact(zh7 b.reqs hl)|(refine CallOK.le (zh7 b.reqs hl) ?_;exact zM)|fail);try case hn=>rfl)|refine zal ?_|refine zaa (fun hb=> ?_) (fun hb=> ?_)|(refine And.intro ?_ ?_;exact zI)|refine And.intro (fun hg=> ?_) (fun hg=> ?_)|exact zC|fail)
def zxN (b:Batch):Bool:=if decide ((b.reqs.length:Int)>20)=true then true else b.reqs.any fun r=>decide ((r.name.size:Int)>300)
theorem zq3 {l:List Memo} {a m:Memo} (h:m∈zcF l a):m∈l∨m=a:=by
 unfold zcF at h
 split at h
 ·exact .inl h
 ·split at h
  ·exact List.mem_or_eq_of_mem_set h
  ·rcases List.mem_append.1 h with h|h
   ·exact .inl (List.mem_of_mem_take h)
   ·rcases List.mem_cons.1 h with h|h
    ·exact .inr h
    ·exact .inl (List.mem_of_mem_drop h)
def SqB (s:St) (i:Nat):Prop:=∀m∈s.memos,m.seq≤6+i
theorem zq4 {s:St} {i:Nat} (h:SqB s i) {q:Req} (hq:q.seq≤6+i+1) (hsm:Small s):SqB (zaD s q).1 (i+1):=by
 intro m hm
 have hin:∀m∈s.memos,m.seq≤6+((i+1:Nat):Int):=fun m hm=>by have:=h m hm;omega
 unfold zaD at hm
 split at hm
 ·exact hin m hm
 ·split at hm
  ·exact hin m hm
  ·split at hm
   ·exact hin m hm
   ·rcases zq3 hm with h1|h1
    ·rw[zdC hsm q]at h1
     exact hin m h1
    ·rw[h1];simp only;omega
theorem zoM {s:St} {i:Nat} (h:SqB s i) (a:Act):(zgN s a).seq≤6+i+1:=by
 unfold zgN
 simp only
 split
 ·split
  ·rename_i hs
   obtain⟨m,hm⟩:=Option.isSome_iff_exists.1 hs
   rw[hm]
   have:=h m (List.mem_of_find?_eq_some hm)
   simp only[Option.getD_some];omega
  ·omega
 ·unfold zq6;simp only;omega
structure XS where
 lease:Int
 done:Int
 view:Int
 slot:Int
 st:St
def zdz:St→List Req→List Memo→St×List Memo
 |s,[],l=>(s,l)
 |s,r::rs,l=>zdz (zaD s r).1 rs (if zaT s.memos r.client r.seq= -1 then l else l++[⟨r.client,r.seq,(zaD s r).2.1⟩])
def zdq (x:XS) (b:Batch):Bool:= !b.fill&&(b.tip.view==x.view&&b.tip.slot==x.slot)
def zdB (x:XS) (b:Batch):St×List Memo:=zdz (zaU x.st b.time x.lease) b.reqs []
def doP (x:XS) (b:Batch):XS×List Memo×Bool:=
 if Batch.may b=false then(x,[],false)else
 if zdq x b=false then({x with done:=x.done+1},[],false)else
 (⟨x.lease,x.done+1,b.view,x.done+1,(zdB x b).1⟩,(zdB x b).2,true)
theorem zg8 {l:List Req}:∀{i:Nat},i≤l.length→(zb5 l i (l.drop i)=true↔∀j (hj:j<l.length),i≤j→Req.may l[j]=true∧∀k (hk:k<j),l[k].client≠l[j].client):=by
 intro i hi
 obtain⟨n,hn⟩:∃n,n=l.length - i:=⟨_,rfl⟩
 induction n generalizing i with
 |zero=>
  have:i=l.length:=by omega
  rw[this,List.drop_length,zb5]
  simp only[true_iff]
  intro j hj hij;omega
 |succ n ih=>
  have hil:i<l.length:=by omega
  rw[List.drop_eq_getElem_cons hil,zb5]
  have ih:=ih (i:=i+1) (by omega) (by omega)
  have hany:(l.take i).any (fun o=>o.client==l[i].client)=false↔∀k (hk:k<i),l[k].client≠l[i].client:=by
   rw[List.any_eq_false]
   constructor
   ·intro h k hk
    have:=h (l[k]) (by rw[List.mem_take_iff_getElem];exact⟨k,by omega,rfl⟩)
    simpa using this
   ·intro h o ho
    obtain⟨k,hk,rfl⟩:=List.mem_take_iff_getElem.1 ho
    simpa using h k (by omega)
  constructor
  ·intro h
   split at h
   ·cases h
   ·rename_i hc
    have hc:(!Req.may l[i]||(l.take i).any (fun o=>o.client==l[i].client))=false:=by simpa using hc
    rw[Bool.or_eq_false_iff]at hc
    intro j hj hij
    by_cases hji:j=i
    ·subst hji
     exact⟨by simpa using hc.1,hany.1 hc.2⟩
    ·exact ih.1 h j hj (by omega)
  ·intro h
   obtain⟨h1,h2⟩:=h i hil (Nat.le_refl _)
   rw[if_neg (by rw[h1,hany.2 h2];simp)]
   exact ih.2 fun j hj hij=>h j hj (by omega)
theorem zl2 {l:List Req} (h:zb5 l 0 l=true):(∀r∈l,Req.may r=true)∧l.Pairwise fun a b=>a.client≠b.client:=by
 have h:=(zg8 (l:=l) (i:=0) (Nat.zero_le _)).1 (by rw[List.drop_zero];exact h)
 refine⟨fun r hr=> ?_,List.pairwise_iff_getElem.2 fun i j hi hj hij=>(h j hj (Nat.zero_le _)).2 i hij⟩
 obtain⟨j,hj,rfl⟩:=List.getElem_of_mem hr
 exact(h j hj (Nat.zero_le _)).1
theorem znM {l:List Req} (h1:∀r∈l,Req.may r=true) (h2:l.Pairwise fun a b=>a.client≠b.client):zb5 l 0 l=true:=by
 have:=(zg8 (l:=l) (i:=0) (Nat.zero_le _)).2 fun j hj _=>⟨h1 _ (List.getElem_mem hj),fun k hk=>List.pairwise_iff_getElem.1 h2 k j (by omega) hj hk⟩
 rwa[List.drop_zero]at this
theorem zdY {b:Batch} (h:Batch.may b=true) (hf:b.fill=false):(0≤b.view∧b.view≤zaL)∧(0≤b.time∧b.time≤zaL)∧(0≤b.tip.view∧b.tip.view≤zaL)∧(0≤b.tip.slot∧b.tip.slot≤zaL)∧b.reqs.length≤3∧
  (∀r∈b.reqs,Req.may r=true)∧b.reqs.Pairwise fun a b=>a.client≠b.client:=by
 unfold Batch.may at h
 rw[if_neg (by rw[hf];simp)]at h
 split at h
 ·cases h
 ·rename_i hc
  have hc:(!![b.view,b.time,b.tip.view,b.tip.slot].any bad||decide ((b.reqs.length:Int)>3))=false:=by simpa using hc
  rw[Bool.or_eq_false_iff]at hc
  obtain⟨c1,c2⟩:=hc
  have hb:∀n:Int,bad n=false→0≤n∧n≤zaL:=fun n hn=>by unfold bad at hn;simp at hn;omega
  have c1:[b.view,b.time,b.tip.view,b.tip.slot].any bad=false:=by simpa using c1
  simp only[List.any_cons,List.any_nil,Bool.or_false,Bool.or_eq_false_iff]at c1
  obtain⟨q1,q2,q3,q4⟩:=c1
  obtain⟨g1,g2⟩:=zl2 h
  exact⟨hb _ q1,hb _ q2,hb _ q3,hb _ q4,by simp at c2;omega,g1,g2⟩
theorem zgu {b:Batch} (hf:b.fill=false) (h1:0≤b.view∧b.view≤zaL) (h2:0≤b.time∧b.time≤zaL) (h3:0≤b.tip.view∧b.tip.view≤zaL) (h4:0≤b.tip.slot∧b.tip.slot≤zaL) (h5:b.reqs.length≤3)
  (h6:∀r∈b.reqs,Req.may r=true) (h7:b.reqs.Pairwise fun a b=>a.client≠b.client):Batch.may b=true:=by
 have hb:∀n:Int,0≤n∧n≤zaL→bad n=false:=fun n hn=>by unfold bad;simp;omega
 unfold Batch.may
 rw[if_neg (by rw[hf];simp),if_neg (by simp[hb _ h1,hb _ h2,hb _ h3,hb _ h4];omega)]
 exact znM h6 h7
theorem zkd:∀{rs:List Req} {s:St} {l:List Memo},RightS s→s.num+rs.length≤zaL→s.token+4*rs.length≤zaL→
  RightS (zdz s rs l).1∧(s.num≤(zdz s rs l).1.num∧(zdz s rs l).1.num≤s.num+rs.length)∧(s.token≤(zdz s rs l).1.token∧(zdz s rs l).1.token≤s.token+4*rs.length)∧(zdz s rs l).1.time=s.time∧(zdz s rs l).2.length≤l.length+rs.length
 |[],s,l,h,h1,h2=>by simp only[zdz,List.length_nil];exact⟨h,by omega,by omega,trivial,by omega⟩
 |r::rs,s,l,h,h1,h2=>by
  rw[List.length_cons]at h1 h2⊢
  obtain⟨d1,d2,d3,d4,d5⟩:=zbs h r (by omega) (by omega)
  obtain⟨e1,e2,e3,e4,e5⟩:=zkd (rs:=rs) (s:=(zaD s r).1) (l:=if zaT s.memos r.client r.seq= -1 then l else l++[⟨r.client,r.seq,(zaD s r).2.1⟩]) d1 (by omega) (by omega)
  rw[zdz]
  refine⟨e1,by omega,by omega,e4.trans d4,Nat.le_trans e5 ?_⟩
  split
  ·omega
  ·simp only[List.length_append,List.length_singleton];omega
theorem zsp:∀{rs:List Req} {s:St} {l:List Memo} {i:Nat},RightS s→s.num+rs.length≤zaL→s.token+4*rs.length≤zaL→SqB s i→(∀r∈rs,r.seq≤6+i+1)→SqB (zdz s rs l).1 (i+rs.length)
 |[],s,l,i,h,h1,h2,hq,hr=>hq
 |r::rs,s,l,i,h,h1,h2,hq,hr=>by
  rw[List.length_cons]at h1 h2⊢
  obtain⟨d1,d2,d3,d4,d5⟩:=zbs h r (by omega) (by omega)
  rw[zdz,show i+(rs.length+1)=i+1+rs.length by omega]
  exact zsp d1 (by omega) (by omega) (zq4 hq (hr r (by simp)) (zaN h)) fun x hx=>by have:=hr x (by simp[hx]);omega
theorem zei {x:XS} {b:Batch} (h:RightS x.st) (hN:x.st.num+3≤zaL) (hT:x.st.token+16≤zaL) (hl:b.reqs.length≤3):
  RightS (zdB x b).1∧(zdB x b).1.num≤x.st.num+3∧(zdB x b).1.token≤x.st.token+16∧(zdB x b).1.time=zbL x.st b.time∧(zdB x b).2.length≤b.reqs.length:=by
 obtain⟨r1,r2,r3,r4,r5⟩:=zbo h b.time x.lease (by omega)
 obtain⟨e1,e2,e3,e4,e5⟩:=zkd (rs:=b.reqs) (l:=[]) r1 (by omega) (by omega)
 refine⟨e1, ?_, ?_,e4,by simpa[zdB]using e5⟩
 ·show(zdB x b).1.num≤_
  have:=e2.2;unfold zdB;omega
 ·have:=e3.2;unfold zdB;omega
abbrev XS.cells (x:XS):List D:=[iD x.lease,iD x.done,iD x.view,iD x.slot,iD x.st.time,iD x.st.num,iD x.st.token, .sl x.st.sess.length (zaE x.st.sess), .sl x.st.locks.length (zaf x.st.locks), .sl x.st.memos.length (zav x.st.memos)]
abbrev XS.ro (x:XS):List RO:=[.d (iD x.lease), .d (iD x.done), .d (iD x.view), .d (iD x.slot), .d (iD x.st.time), .d (iD x.st.num), .d (iD x.st.token), .d (.sl x.st.sess.length (zaE x.st.sess)), .d (.sl x.st.locks.length (zaf x.st.locks)), .d (.sl x.st.memos.length (zav x.st.memos))]
abbrev XS.at (x:XS):AV:= .one (.elt x.cells)
abbrev zun:AV:= .one (.d (.v (.pointer none)))
def znL (l:Int):XS:=⟨l,0,0,0,st0⟩
theorem zj5 (l:Int) (h:(decide (l<1)||decide (l>1000000))=false):CallP Tryz.prog 8 [.f (ai l)] [] (znL l).ro:=by
 refine CallP.leR (rfs:=[]) (l:=[.d (iD l), .d (iD 0), .d (iD 0), .d (iD 0), .d (iD 0), .d (iD 0), .d (iD 0), .d (.v (.slice none 0 0)), .d (.v (.slice none 0 0)), .d (.v (.slice none 0 0))]) ?_ zhp (by simp[zlZ,roB,znL,st0])
 refine zmW zar mixed (T:=Ty) (n:=12) Tryz.func8 (c:=Tryz.f8.body.getD .skip) rfl Tryz.results8 Tryz.ntmps8 Tryz.call8 ?_
 simp only[Tryz.f8,Option.getD]
 repeat'(first|(with_reducible first|refine zab _ _ ?_|refine zaV ?_|refine zaW ?_)|rw[zaj]|simp only[h,zho,zmV,zhn,zjq,zY,Int.reduceEq,Int.reduceBEq,Int.reduceBNe,Nat.reduceSub,Nat.reduceEqDiff,Nat.reduceAdd,Nat.reduceMul,Nat.reduceLeDiff,Nat.reduceLT,Nat.reduceBEq,reduceCtorEq]|refine zal ?_|refine zaa (fun hb=> ?_) (fun hb=> ?_)|(refine And.intro ?_ ?_;exact zI)|refine And.intro (fun hg=> ?_) (fun hg=> ?_)|exact zC|fail)
theorem zsm (l:Int) (h:(decide (l<1)||decide (l>1000000))=true):CallOK Tryz.prog 8 [.f (ai l)] (fun r o=>r=[.one (.d (.v (.pointer none)))]∧o=[]):=by
 refine zac zar mixed (T:=Ty) (n:=12) Tryz.func8 (c:=Tryz.f8.body.getD .skip) rfl Tryz.results8 Tryz.ntmps8 Tryz.call8 ?_
 simp only[Tryz.f8,Option.getD]
 repeat'(first|refine zq h ?_|exact zd h|(refine zaa ?_ ?_<;>intro hb)|(refine And.intro ?_ ?_;exact zI)|(refine And.intro ?_ ?_<;>intro hg)|exact zC|fail)
theorem zqS (l:Int) (h:(decide (l<1)||decide (l>1000000))=false):CallP Tryz.prog 9 [.f (ai l)] [] (znL l).ro:=by
 refine CallP.leR (rfs:=[]) (l:=[.d (iD l), .d (iD 0), .d (iD 0), .d (iD 0), .d (iD 0), .d (iD 0), .d (iD 0), .d (.v (.slice none 0 0)), .d (.v (.slice none 0 0)), .d (.v (.slice none 0 0))]) ?_ zhp (by simp[zlZ,roB,znL,st0])
 refine zmW zar mixed (T:=Ty) (n:=12) Tryz.func9 (c:=Tryz.f9.body.getD .skip) rfl Tryz.results9 Tryz.ntmps9 Tryz.call9 ?_
 simp only[Tryz.f9,Option.getD]
 repeat'(first|(with_reducible first|refine zab _ _ ?_|refine zaV ?_|refine zaW ?_)|rw[zaj]|simp only[h,zho,zmV,zhn,zjq,zY,Int.reduceEq,Int.reduceBEq,Int.reduceBNe,Nat.reduceSub,Nat.reduceEqDiff,Nat.reduceAdd,Nat.reduceMul,Nat.reduceLeDiff,Nat.reduceLT,Nat.reduceBEq,reduceCtorEq]|refine zal ?_|refine zaa (fun hb=> ?_) (fun hb=> ?_)|(refine And.intro ?_ ?_;exact zI)|refine And.intro (fun hg=> ?_) (fun hg=> ?_)|exact zC|fail)
theorem zsn (x:XS):CallOK Tryz.prog 25 [.f x.at] (fun r o=>r=[ri x.done]∧o=[]):=by
 refine zac zar mixed (T:=Ty) (n:=10) Tryz.func25 (c:=Tryz.f25.body.getD .skip) rfl Tryz.results25 Tryz.ntmps25 Tryz.call25 ?_
 simp only[Tryz.f25,Option.getD]
 repeat'(first|refine zq0 ?_|exact zd0|(refine zaa ?_ ?_<;>intro hb)|(refine And.intro ?_ ?_;exact zI)|(refine And.intro ?_ ?_<;>intro hg)|exact zC|fail)
theorem zqT:CallOK Tryz.prog 25 [.f zun] (fun r o=>r=[ri 0]∧o=[]):=by
 refine zac zar mixed (T:=Ty) (n:=10) Tryz.func25 (c:=Tryz.f25.body.getD .skip) rfl Tryz.results25 Tryz.ntmps25 Tryz.call25 ?_
 simp only[Tryz.f25,Option.getD]
 repeat'(first|refine zq0 ?_|exact zd0|(refine zaa ?_ ?_<;>intro hb)|(refine And.intro ?_ ?_;exact zI)|(refine And.intro ?_ ?_<;>intro hg)|exact zC|fail)
theorem zqU (x:XS):CallOK Tryz.prog 19 [.f x.at] (fun r o=>r=[.agg [.d (iD x.view), .d (iD x.slot)]]∧o=[]):=by
 refine zac zar mixed (T:=Ty) (n:=11) Tryz.func19 (c:=Tryz.f19.body.getD .skip) rfl Tryz.results19 Tryz.ntmps19 Tryz.call19 ?_
 simp only[Tryz.f19,Option.getD]
 repeat'(first|refine zq0 ?_|exact zd0|(refine zaa ?_ ?_<;>intro hb)|(refine And.intro ?_ ?_;exact zI)|(refine And.intro ?_ ?_<;>intro hg)|exact zC|fail)
structure Sn where
 done:Int
 view:Int
 slot:Int
 st:St
abbrev Sn.lent (s:Sn):List C:=di s.done::di s.view::di s.slot::s.st.lent
abbrev zvK (s:Sn):RF:= .agg (.d (iD s.done):: .d (iD s.view):: .d (iD s.slot)::(stE s.st).map RO.d)
abbrev Sn.rf (s:Sn):RF:= .agg [.d (iD s.done), .d (iD s.view), .d (iD s.slot), .d (iD s.st.time), .d (iD s.st.num), .d (iD s.st.token), .own 3 s.st.sess.length (zaE s.st.sess) false, .own 4 s.st.locks.length (zaf s.st.locks) false, .own 6 s.st.memos.length (zav s.st.memos) false]
set_option maxHeartbeats 1000000 in
theorem zgs (s:Sn) (h:Small s.st):CallOK Tryz.prog 41 [.f (.agg s.lent)] (fun r o=>r=[s.rf]∧o=[]):=by
 refine zac zar mixed (T:=Ty) (n:=84) Tryz.func41 (c:=Tryz.f41.body.getD .skip) rfl Tryz.results41 Tryz.ntmps41 Tryz.call41 ?_
 simp only[Tryz.f41,Option.getD]
 have hcs:=zeJ s.st.sess.length (zaE s.st.sess) zai (by have:=h.sess;omega)
 have hcl:=zgd s.st.locks.length (zaf s.st.locks) zae (by have:=h.locks;omega)
 have hcm:=zge s.st.memos.length (zav s.st.memos) zak (by have:=h.memos;omega)
 repeat'(first|refine zq0 ?_|exact zd0|refine zc (hcs) ?_|refine zg (hcs) ?_|refine zc (hcl) ?_|refine zg (hcl) ?_|refine zc (hcm) ?_|refine zg (hcm) ?_|(refine zaa ?_ ?_<;>intro hb)|(refine And.intro ?_ ?_;exact zI)|(refine And.intro ?_ ?_<;>intro hg)|exact zC|fail)
 refine zao (τ:=Nat) (fun i=>⟨[dd, .one (.ptr ⟨1,0,1⟩ 0), .one (.ptr ⟨2,0,1⟩ 0), .one (.ptr ⟨1,0,1⟩ 3),dd,dd,dd,dd,dd,dd,dd,dd,dd,dd,dd,dd,dd,dd,dd,dd,dd,dd,dd,dd,dd,dd,dd,ai s.st.locks.length,ai i,dd,dd,dd,dd,dd,dd,dd,dd,dd,dd,dd,dd,dd,dd,dd,dd,dd,dd,dd,dd,dd,dd,dd,dd,dd,dd,dd,dd,dd,dd,dd,dd,dd,dd,dd,dd,dd,dd,dd,dd,dd,dd,dd,dd,dd,dd,dd,dd,dd,dd,dd,dd,dd,dd,dd],[(1,{next:=2,l:=[some {e:=1,var:=true,fz:=false,sz:=0,cells:=[di s.done,di s.view,di s.slot,di s.st.time,di s.st.num,di s.st.token, .own ⟨1,7,1⟩ 0 s.st.sess.length, .own ⟨1,8,1⟩ 0 s.st.locks.length, .lent s.st.memos.length (zav s.st.memos)]},none,none,none,none,none,none,some {e:=1,var:=false,fz:=false,sz:=3,cells:=(zaE s.st.sess).map C.d},some {e:=1,var:=false,fz:=false,sz:=4,cells:=(zaf s.st.locks).map C.d},none]}),(2,{next:=2,l:=[some {e:=1,var:=true,fz:=false,sz:=0,cells:=[di 0,di 0,di 0,di 0,di 0,di 0, .d (.v (.slice none 0 0)), .d (.v (.slice none 0 0)), .d (.v (.slice none 0 0))]},none,none,none,none,none,none,none,none,none]}),(12,⟨2,[]⟩),(20,⟨2,[]⟩),(44,⟨2,[]⟩)]⟩)
  (fun i=>i≤s.st.locks.length) (fun _=>()) (fun i=>s.st.locks.length - i) 0
  (Gh.canon [1,2] [44] [] zK rfl rfl) (Nat.zero_le _) ?_
 intro i hi0 hF K hK
 refine zw ?_
 refine zaa (fun hlt=> ?_) (fun hge=> ?_)
 ·have hi:i<s.st.locks.length:=by simpa using hlt
  have hat:=zaO hi
  have hat2:(zaf s.st.locks).drop (i*4+3)= .sl s.st.locks[i].line.length (zaw s.st.locks[i].line)::zaf (s.st.locks.drop (i+1)):=by rw[←List.drop_drop,hat];rfl
  have hw:=zan hi (by have:=h.locks;omega)
  have hci:=zc5 s.st.locks[i].line.length (zaw s.st.locks[i].line) zah (by have:=(h.line _ (List.getElem_mem hi)).1;omega)
  have hset:=zb2 Lk.enc 4 (fun _=>rfl) hi (k:=3) (by decide) (.sl s.st.locks[i].line.length (zaw s.st.locks[i].line)) s.st.locks[i] rfl
  rw[List.set_getElem_self]at hset
  repeat'(first|refine zq (I hat2 (I hset (I @zmd (I @List.map_cons.{0,0} @zae)))) ?_|exact zd (I hat2 (I hset (I @zmd (I @List.map_cons.{0,0} @zae))))|refine zc (hci) ?_|refine zg (hci) ?_|(refine zaa ?_ ?_<;>intro hb)|(refine And.intro ?_ ?_;exact zI)|(refine And.intro ?_ ?_<;>intro hg)|exact zC|fail)
  exact hK _ (i+1) (Gh.canon [1,2] [] [] (zk hw) rfl rfl) hi rfl (by omega)
 ·have hi:i=s.st.locks.length:=by
   have:¬(i:Int)<s.st.locks.length:=by simpa using hge
   omega
  repeat'(first|refine zq0 ?_|exact zd0|refine zc (hcm) ?_|refine zg (hcm) ?_|(refine zaa ?_ ?_<;>intro hb)|(refine And.intro ?_ ?_;exact zI)|(refine And.intro ?_ ?_<;>intro hg)|exact zC|fail)
  refine zao (τ:=Nat) (fun i=>⟨[dd, .one (.ptr ⟨1,0,1⟩ 0), .one (.ptr ⟨2,0,1⟩ 0), .one (.ptr ⟨1,0,1⟩ 3),dd,dd,dd,dd,dd,dd,dd,dd,dd,dd,dd,dd,dd,dd,dd,dd,dd,dd,dd,dd,dd,dd,dd,dd,dd,dd,dd,dd,dd,dd,dd,dd,dd,dd,dd,dd,dd,dd,dd,dd,dd,dd,dd,dd,dd,dd,dd,dd,dd,dd,dd,dd,dd,dd,dd,dd,ai s.st.memos.length,ai i,dd,dd,dd,dd,dd,dd,dd,dd,dd,dd,dd,dd,dd,dd,dd,dd,dd,dd,dd,dd,dd,dd],[(1,{next:=2,l:=[some {e:=1,var:=true,fz:=false,sz:=0,cells:=[di s.done,di s.view,di s.slot,di s.st.time,di s.st.num,di s.st.token, .own ⟨1,7,1⟩ 0 s.st.sess.length, .own ⟨1,8,1⟩ 0 s.st.locks.length, .own ⟨1,9,1⟩ 0 s.st.memos.length]},none,none,none,none,none,none,some {e:=1,var:=false,fz:=false,sz:=3,cells:=(zaE s.st.sess).map C.d},some {e:=1,var:=false,fz:=false,sz:=4,cells:=(zaf s.st.locks).map C.d},some {e:=1,var:=false,fz:=false,sz:=6,cells:=(zav s.st.memos).map C.d}]}),(2,{next:=2,l:=[some {e:=1,var:=true,fz:=false,sz:=0,cells:=[di 0,di 0,di 0,di 0,di 0,di 0, .d (.v (.slice none 0 0)), .d (.v (.slice none 0 0)), .d (.v (.slice none 0 0))]},none,none,none,none,none,none,none,none,none]}),(12,⟨2,[]⟩),(20,⟨2,[]⟩),(44,⟨2,[]⟩),(53,⟨2,[]⟩),(78,⟨2,[]⟩)]⟩)
   (fun i=>i≤s.st.memos.length) (fun _=>()) (fun i=>s.st.memos.length - i) 0
   (Gh.canon [1,2] [78] [] zK rfl rfl) (Nat.zero_le _) ?_
  intro i hi0 hF K hK
  refine zw ?_
  refine zaa (fun hlt=> ?_) (fun hge=> ?_)
  ·have hi:i<s.st.memos.length:=by simpa using hlt
   have hat:=zbx hi
   have hat2:(zav s.st.memos).drop (i*6+2+3)= .sl s.st.memos[i].reply.held.length (zaH s.st.memos[i].reply.held)::zav (s.st.memos.drop (i+1)):=by rw[Nat.add_assoc,←List.drop_drop,hat];rfl
   have hw:=zan hi (by have:=h.memos;omega)
   have hci:=zc6 s.st.memos[i].reply.held.length (zaH s.st.memos[i].reply.held) za8 (by have:=(h.held _ (List.getElem_mem hi)).1;omega)
   have hset:=zb2 Memo.enc 6 (fun _=>rfl) hi (k:=5) (by decide) (.sl s.st.memos[i].reply.held.length (zaH s.st.memos[i].reply.held)) s.st.memos[i] rfl
   rw[List.set_getElem_self,show i*6+5=i*6+2+3 from rfl]at hset
   repeat'(first|refine zq (I hat2 (I hset (I @zmd (I @List.map_cons.{0,0} @zak)))) ?_|exact zd (I hat2 (I hset (I @zmd (I @List.map_cons.{0,0} @zak))))|refine zc (hci) ?_|refine zg (hci) ?_|(refine zaa ?_ ?_<;>intro hb)|(refine And.intro ?_ ?_;exact zI)|(refine And.intro ?_ ?_<;>intro hg)|exact zC|fail)
   exact hK _ (i+1) (Gh.canon [1,2] [] [] (zk hw) rfl rfl) hi rfl (by omega)
  ·have hi:i=s.st.memos.length:=by
    have:¬(i:Int)<s.st.memos.length:=by simpa using hge
    omega
   repeat'(first|refine zq0 ?_|exact zd0|(refine zaa ?_ ?_<;>intro hb)|(refine And.intro ?_ ?_;exact zI)|(refine And.intro ?_ ?_<;>intro hg)|exact zC|fail)
   rfl
theorem zx0 (s:Sn):zbj [s.rf] [zvK s]:=⟨⟨.inl rfl, .inl rfl, .inl rfl, .inl rfl, .inl rfl, .inl rfl, .inr ⟨rfl,rfl,zai⟩, .inr ⟨rfl,rfl,zae⟩, .inr ⟨rfl,rfl,zak⟩,trivial⟩,trivial⟩
theorem zx1 (s:St):zbj [s.rf] [zoJ s]:=⟨⟨.inl rfl, .inl rfl, .inl rfl, .inr ⟨rfl,rfl,zai⟩, .inr ⟨rfl,rfl,zae⟩, .inr ⟨rfl,rfl,zak⟩,trivial⟩,trivial⟩
abbrev XS.sn (x:XS):Sn:=⟨x.done,x.view,x.slot,x.st⟩
theorem zg5 (x:XS) (h:Small x.st):CallOK Tryz.prog 23 [.f x.at] (fun r o=>r=[zvK x.sn]∧o=[]):=by
 refine CallOK.nil ?_
 refine zac zar mixed (T:=Ty) (n:=11) Tryz.func23 (c:=Tryz.f23.body.getD .skip) rfl Tryz.results23 Tryz.ntmps23 Tryz.call23 ?_
 simp only[Tryz.f23,Option.getD]
 have hc:=zgs x.sn h
 repeat'(first|refine zq0 ?_|exact zd0|refine zc (hc) ?_|refine zg (hc) ?_|(refine zaa ?_ ?_<;>intro hb)|(refine And.intro ?_ ?_;exact zI)|(refine And.intro ?_ ?_<;>intro hg)|exact zC|fail)
 exact⟨rfl,zx0 x.sn⟩
theorem zf1 (x:XS) (h:Small x.st):CallOK Tryz.prog 14 [.f x.at] (fun r o=>r=[zoJ x.st]∧o=[]):=by
 refine CallOK.nil ?_
 refine zac zar mixed (T:=Ty) (n:=12) Tryz.func14 (c:=Tryz.f14.body.getD .skip) rfl Tryz.results14 Tryz.ntmps14 Tryz.call14 ?_
 simp only[Tryz.f14,Option.getD]
 have hc:=zgs x.sn h
 repeat'(first|refine zq0 ?_|exact zd0|refine zc (hc) ?_|refine zg (hc) ?_|(refine zaa ?_ ?_<;>intro hb)|(refine And.intro ?_ ?_;exact zI)|(refine And.intro ?_ ?_<;>intro hg)|exact zC|fail)
 exact⟨rfl,zx1 x.st⟩
structure Row where
 time:Int
 view:Int
 kind:Int
 acts:List Act
abbrev Row.enc (r:Row):List D:=[uD r.time,uD r.view,uD r.kind, .sl r.acts.length (zf6 r.acts)]
abbrev zkb (l:List Row):List D:=l.flatMap Row.enc
theorem zoL {l:List Row} {i:Nat} (hi:i<l.length):(zkb l).drop (i*4)=l[i].enc++(zkb (l.drop (i+1))):=zcO _ 4 l i hi fun _=>rfl
theorem zch {l:List Row}:(zkb l).length=l.length*4:=zcl _ 4 (fun _=>rfl) l
def rowOk (r:Row):Prop:=zbE r.time∧zbE r.view∧zbE r.kind∧r.acts.length<2^60∧∀a∈r.acts,zha a
def zf5 (s:St):List Act→List Req→List Req
 |[],l=>l
 |a::al0,l=>if decide ((l.length:Int)<3)=true then(if(l.any fun o=>o.client==(zgN s a).client)=true then zf5 s al0 l else zf5 s al0 (l++[zgN s a]))else l
def zbD (x:XS) (r:Row):Batch:=
 if(r.kind % 8==7)=true then⟨true,0,⟨0,0⟩,0,[]⟩else
 ⟨false,x.view+r.view % 3,⟨x.view,if(r.kind % 8==6)=true then x.slot+1 else x.slot⟩,x.st.time+r.time % 30,zf5 x.st r.acts []⟩
theorem zkc (n:Int):nameP (zg9 n)=true:=by
 unfold zg9
 rcases six n with h|h|h|h|h|h<;>rw[h]<;>rfl
theorem zl1 {k n:Int} {s:ByteArray} (hk:1≤k∧k≤6) (hs:(k==3||k==4||k==5)=true→nameP s=true) (hs2:(k==3||k==4||k==5)=false→s.toList=[]) (hn:k=1→n=0) (hn2:k≠1→1≤n∧n≤zaL):zlu k n s=true:=by
 unfold zlu
 rw[if_neg (by simp;omega)]
 have h2:¬((k==3||k==4||k==5)&& !nameP s|| !(k==3||k==4||k==5)&& !s.toList==(⟨#[]⟩:ByteArray).toList)=true:=by
  cases hc:(k==3||k==4||k==5)
  ·rw[hs2 hc];simp
  ·rw[hs hc];simp
 rw[if_neg h2]
 split
 ·rename_i h;have h:k=1:=by simpa using h
  rw[hn h];rfl
 ·rename_i h;have h:k≠1:=by simpa using h
  have:=hn2 h
  have hH:zaL=2305843009213693952:=rfl
  simp;omega
theorem zeh:(ByteArray.empty).toList=[]:=by kernel_rfl
theorem zq1 {c q k s n:Int} (h2:0≤q∧q<6):Req.may (zq6 c q k s n)=true:=by
 have hH:zaL=2305843009213693952:=rfl
 have hm:zlu (zef k) (zgG k s) (zfs k n)=true:=by
  refine zl1 (by unfold zef;omega) (fun h=> ?_) (fun h=> ?_) (fun h=> ?_) (fun h=> ?_)
  ·unfold zfs;rw[if_pos h];exact zkc n
  ·unfold zfs;rw[if_neg (by rw[h];simp)];exact zeh
  ·unfold zgG;rw[if_pos h]
  ·unfold zgG;rw[if_neg h];omega
 show(decide (c % 8≥0)&&decide (c % 8<8)&&decide (1+q≥1)&&decide (1+q≤zaL)&&zlu (zef k) (zgG k s) (zfs k n))=true
 rw[hm]
 simp
 omega
theorem zq2 {s:St} (hr:RightS s) {i:Nat} (hq:SqB s i) (hi:i≤1000) {a:Act} (ha:zha a):Req.may (zgN s a)=true:=by
 have hH:zaL=2305843009213693952:=rfl
 obtain⟨_,h1,h2,h3,h4,h5⟩:=ha
 have hsq:=zoM hq a
 have hN:=zq1 (c:=a.client) (q:=a.seq % 6) (k:=a.kind) (s:=a.session) (n:=a.name) (by omega)
 have hseq:1≤(zgN s a).seq:=by
  unfold zgN
  simp only
  split
  ·split
   ·rename_i hs
    obtain⟨m,hm⟩:=Option.isSome_iff_exists.1 hs
    rw[hm]
    have:=hr.mok m (List.mem_of_find?_eq_some hm)
    unfold answerB at this
    simp at this
    simp only[Option.getD_some];omega
   ·omega
  ·unfold zq6;simp only;omega
 have hcl:(zgN s a).client=a.client % 8:=rfl
 have hmay:zlu (zgN s a).kind (zgN s a).session (zgN s a).name=true:=by
  have hN':zlu (zef a.kind) (zgG a.kind a.session) (zfs a.kind a.name)=true:=by
   have:(decide (a.client % 8≥0)&&decide (a.client % 8<8)&&decide (1+a.seq % 6≥1)&&decide (1+a.seq % 6≤zaL)&&zlu (zef a.kind) (zgG a.kind a.session) (zfs a.kind a.name))=true:=hN
   simp only[Bool.and_eq_true]at this
   exact this.2
  unfold zgN
  simp only
  split
  ·exact zl1 (by omega) (fun h=>by simp at h) (fun _=>zeh) (fun _=>rfl) (fun h=>absurd rfl h)
  ·rename_i hb2
   split
   ·rename_i hb1
    simp only[Bool.and_eq_true]at hb1
    obtain⟨⟨hb1,_⟩,hk⟩:=hb1
    obtain⟨x,hx⟩:=Option.isSome_iff_exists.1 hb1
    have hkp:(zq6 a.client (a.seq % 6) a.kind a.session a.name).kind=zef a.kind:=rfl
    have hnm:(zq6 a.client (a.seq % 6) a.kind a.session a.name).name=zfs a.kind a.name:=rfl
    rw[hx,hkp,hnm]
    have hk:zef a.kind≠1:=by simpa[hkp]using hk
    obtain⟨_,f2,_⟩:=zb6.1 (hr.sok x (List.mem_of_find?_eq_some hx)).1
    refine zl1 (by unfold zef;omega) (fun h=> ?_) (fun h=> ?_) (fun h=>absurd h hk) (fun _=>by simp only[Option.getD_some];omega)
    ·unfold zfs;rw[if_pos h];exact zkc _
    ·unfold zfs;rw[if_neg (by rw[h];simp)];exact zeh
   ·exact hN'
 unfold Req.may
 rw[hmay,hcl]
 simp
 omega
theorem ze7 {s:St} (hr:RightS s) {i:Nat} (hq:SqB s i) (hi:i≤1000):∀{al0:List Act} {l:List Req},(∀a∈al0,zha a)→l.length≤3→(∀r∈l,Req.may r=true∧r.seq≤6+i+1∧r.ok)→(l.Pairwise fun a b=>a.client≠b.client)→
  (zf5 s al0 l).length≤3∧(∀r∈zf5 s al0 l,Req.may r=true∧r.seq≤6+i+1∧r.ok)∧(zf5 s al0 l).Pairwise fun a b=>a.client≠b.client
 |[],l,_,h1,h2,h3=>⟨h1,h2,h3⟩
 |a::al0,l,ha,h1,h2,h3=>by
  rw[zf5]
  split
  ·rename_i hlt
   have hlt:l.length<3:=by simp at hlt;omega
   split
   ·exact ze7 hr hq hi (fun x hx=>ha x (by simp[hx])) h1 h2 h3
   ·rename_i hany
    have hany:∀o∈l,o.client≠(zgN s a).client:=fun o ho hc=>hany (List.any_eq_true.2 ⟨o,ho,by simpa using hc⟩)
    refine ze7 hr hq hi (fun x hx=>ha x (by simp[hx])) (by simp only[List.length_append,List.length_singleton];omega) (fun r hx=> ?_) (List.pairwise_append.2 ⟨h3,by simp,fun x hx y hy=> ?_⟩)
    ·rcases List.mem_append.1 hx with hx|hx
     ·exact h2 r hx
     ·simp only[List.mem_singleton]at hx
      subst hx
      exact⟨zq2 hr hq hi (ha a (by simp)),zoM hq a,zoN hr (ha a (by simp))⟩
    ·simp only[List.mem_singleton]at hy
     subst hy
     exact hany x hx
  ·exact⟨h1,h2,h3⟩
structure XMk (x:XS) (i:Nat):Prop where
 rt:RightS x.st
 num:x.st.num≤3*i
 tok:x.st.token≤16*i
 time:x.st.time≤30*i
 view:0≤x.view∧x.view≤3*i
 slot:0≤x.slot∧x.slot≤i
 done:x.done=i
 sq:SqB x.st (3*i)
 lease:x.lease=60
theorem zdp {x:XS} {i:Nat} (h:XMk x i) (hi:i≤100) {r:Row} (hr:rowOk r):Batch.may (zbD x r)=true∧(zbD x r).ok∧(zbD x r).reqs.length≤3∧((zbD x r).fill=false→(∀q∈(zbD x r).reqs,q.seq≤6+(3*i:Nat)+1)∧
  ((zbD x r).view≤x.view+2∧x.view≤(zbD x r).view)∧((zbD x r).time≤x.st.time+29∧x.st.time≤(zbD x r).time)∧(zbD x r).tip.view=x.view):=by
 have hH:zaL=2305843009213693952:=rfl
 obtain⟨r1,r2,r3,r4,r5⟩:=hr
 unfold zbD
 split
 ·refine⟨rfl,⟨by unfold i64;simp,by unfold i64;simp,by unfold i64;simp,by unfold i64;simp,by simp,by simp⟩,by simp,fun h=>by cases h⟩
 ·have hf:=ze7 h.rt h.sq (by omega) (al0:=r.acts) (l:=[]) r5 (by simp) (by simp) List.Pairwise.nil
  obtain⟨f1,f2,f3⟩:=hf
  have hv:=h.view
  have hs:=h.slot
  have ht:=h.time
  have ht0:=h.rt.time
  have hsl:0≤(if(r.kind % 8==6)=true then x.slot+1 else x.slot)∧(if(r.kind % 8==6)=true then x.slot+1 else x.slot)≤i+1:=by split<;>omega
  refine⟨zgu rfl (by simp only;omega) (by simp only;omega) (by simp only;omega) (by simp only;omega) f1 (fun q hq=>(f2 q hq).1) f3,⟨by unfold i64;simp only;omega,by unfold i64;simp only;omega,by unfold i64;simp only;omega,by unfold i64;simp only;omega,by simp only;omega,fun q hq=>(f2 q hq).2.2⟩,f1,fun _=>⟨fun q hq=>(f2 q hq).2.1,by simp only;omega,by simp only;omega,rfl⟩⟩
theorem zdX (s:St) (t:Int):zbL s t=s.time∨zbL s t=t∧s.time<t∧t≤zaL:=by
 unfold zbL
 split
 ·rename_i h;simp at h;exact .inr ⟨rfl,h⟩
 ·exact .inl rfl
theorem zc4 {x:XS} {b:Batch} (h:zdq x b=true):b.fill=false∧b.tip.view=x.view∧b.tip.slot=x.slot:=by
 unfold zdq at h
 simp at h
 exact⟨h.1,h.2.1,h.2.2⟩
theorem zuv {x:XS} {i:Nat} (h:XMk x i) (hi:i≤100) {r:Row} (hr:rowOk r):XMk (doP x (zbD x r)).1 (i+1):=by
 have hH:zaL=2305843009213693952:=rfl
 obtain⟨f1,f2,f3,f4⟩:=zdp h hi hr
 obtain⟨m1,m2,m3,m4,m5,m6,m7,m8,m9⟩:=h
 unfold doP
 rw[if_neg (by rw[f1];simp)]
 split
 ·exact⟨m1,by simp only;omega,by simp only;omega,by simp only;omega,⟨m5.1,by have:=m5.2;simp only;omega⟩,⟨m6.1,by have:=m6.2;simp only;omega⟩,by simp only;omega,fun m hm=>by have:=m8 m hm;omega,m9⟩
 ·rename_i hv
  have hv:zdq x (zbD x r)=true:=by simpa using hv
  obtain⟨g1,⟨g2,g3⟩,⟨g4,g5⟩,g6⟩:=f4 (zc4 hv).1
  obtain⟨e1,e2,e3,e4,e5⟩:=zei (x:=x) (b:=zbD x r) m1 (by omega) (by omega) f3
  obtain⟨a1,a2,a3,a4,a5⟩:=zbo m1 (zbD x r).time x.lease (by omega)
  have hsq:=zsp (rs:=(zbD x r).reqs) (l:=[]) (i:=3*i) a1 (by omega) (by omega) (fun m hm=>m8 m hm) g1
  have ht:=zdX x.st (zbD x r).time
  refine⟨e1,by simp only;omega,by simp only;omega,by simp only;omega,⟨by have:=m5.1;simp only;omega,by have:=m5.2;simp only;omega⟩,by simp only;omega,by simp only;omega,fun m hm=> ?_,m9⟩
  have:=hsq m hm
  omega
theorem zuw:XMk ⟨60,0,0,0,st0⟩ 0:=⟨zcQ,by decide,by decide,by decide,by simp,by simp,rfl,fun m hm=>(by cases hm),rfl⟩
theorem zup (a b:Memo):((a.client==b.client)&&(a.seq==b.seq)&&eqRe a.reply b.reply)=zj4 a b:=by unfold zj4 eqRe;simp only[Bool.and_assoc]
theorem zoI (a b:Memo) (ha:a.reply.held.length<2^30) (hb:b.reply.held.length<2^30):CallOK Tryz.prog 47 [.f (.agg a.lent), .f (.agg b.lent)] (fun r o=>r=[rb (zj4 a b)]∧o=[]):=by
 refine zac zar mixed (T:=Ty) (n:=24) Tryz.func47 (c:=Tryz.f47.body.getD .skip) rfl Tryz.results47 Tryz.ntmps47 Tryz.call47 ?_
 simp only[Tryz.f47,Option.getD]
 have hi:=zlT a.reply b.reply ha hb
 repeat'(first|refine zq0 ?_|exact zd0|refine zc (hi) ?_|refine zg (hi) ?_|(refine zaa ?_ ?_<;>intro hb)|(refine And.intro ?_ ?_;exact zI)|(refine And.intro ?_ ?_<;>intro hg)|exact zC|fail)
 rw[zup]
theorem zi7 (a b:List Memo) (ha:a.length<2^30) (hb:b.length<2^30) (hla:∀x∈a,x.reply.held.length<2^30) (hlb2:∀x∈b,x.reply.held.length<2^30):CallOK Tryz.prog 17 [.f (al a.length (zav a)), .f (al b.length (zav b))] (fun r o=>r=[rb (zdl zj4 a b)]∧o=[]):=by
 refine zac zar mixed (T:=Ty) (n:=27) Tryz.func17 (c:=Tryz.f17.body.getD .skip) rfl Tryz.results17 Tryz.ntmps17 Tryz.call17 ?_
 simp only[Tryz.f17,Option.getD]
 cases hl:((a.length:Int) !=(b.length:Int))
 ·obtain⟨hle,hsr⟩:=zfZ (eq:=zj4) hl
  rw[hsr]
  repeat'(first|refine zq hl ?_|exact zd hl|(refine zaa ?_ ?_<;>intro hb)|(refine And.intro ?_ ?_;exact zI)|(refine And.intro ?_ ?_<;>intro hg)|exact zC|fail)
  refine zao (τ:=Nat) (fun i=>⟨[al a.length (zav a),al b.length (zav b),dd,dd,dd,ai i,dd,dd,dd,dd,dd,dd,dd,dd,dd,dd,dd,dd,dd,dd,dd,dd,dd,dd,dd,dd,dd],[]⟩)
   (fun i=>i≤a.length) (fun i=>zgK zj4 a b i) (fun i=>a.length - i) 0
   (Gh.canon [] [] [] zK rfl rfl) (Nat.zero_le _) ?_
  intro i hi0 hF K hK
  refine zw ?_
  refine zaa (fun hlt=> ?_) (fun hge=> ?_)
  ·have hi:i<a.length:=by simpa using hlt
   have hi2:i<b.length:=by omega
   have hat:=zbx hi
   have hat2:=zbx hi2
   have hw:=zan hi (by omega)
   have hlb:decide ((i:Int)<a.length)=true:=by simp;omega
   have hst:=zdW (eq:=zj4) hi hi2
   have hsr:=zoI a[i] b[i] (hla _ (List.getElem_mem hi)) (hlb2 _ (List.getElem_mem hi2))
   cases hq:zj4 a[i] b[i]
   ·rw[hq]at hst hsr
    rw[←hF,hst]
    repeat'(first|refine zq (I hat (I hat2 (I hlb (I @zak zca)))) ?_|exact zd (I hat (I hat2 (I hlb (I @zak zca))))|refine zc (hsr) ?_|refine zg (hsr) ?_|(refine zaa ?_ ?_<;>intro hb)|(refine And.intro ?_ ?_;exact zI)|(refine And.intro ?_ ?_<;>intro hg)|exact zC|fail)
   ·rw[hq]at hsr
    rw[hq,Bool.true_and]at hst
    repeat'(first|refine zq (I hat (I hat2 (I hlb (I @zak zca)))) ?_|exact zd (I hat (I hat2 (I hlb (I @zak zca))))|refine zc (hsr) ?_|refine zg (hsr) ?_|(refine zaa ?_ ?_<;>intro hb)|(refine And.intro ?_ ?_;exact zI)|(refine And.intro ?_ ?_<;>intro hg)|exact zC|fail)
    exact hK _ (i+1) (Gh.canon [] [] [] (zk hw) rfl rfl) hi hst.symm (by omega)
  ·have hi:i=a.length:=by
    have:¬(i:Int)<a.length:=by simpa using hge
    omega
   rw[←hF,zeG hi]
   repeat'(first|refine zq0 ?_|exact zd0|(refine zaa ?_ ?_<;>intro hb)|(refine And.intro ?_ ?_;exact zI)|(refine And.intro ?_ ?_<;>intro hg)|exact zC|fail)
 ·rw[zfY hl]
  repeat'(first|refine zq hl ?_|exact zd hl|(refine zaa ?_ ?_<;>intro hb)|(refine And.intro ?_ ?_;exact zI)|(refine And.intro ?_ ?_<;>intro hg)|exact zC|fail)
end Go.Proofs.YtngleemijkaeoaaGreat
