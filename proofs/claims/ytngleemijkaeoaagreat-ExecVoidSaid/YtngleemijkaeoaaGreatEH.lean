import Derived.Test.YtngleemijkaeoaaGreatER
namespace Go.Proofs.YtngleemijkaeoaaGreat
open Go.Pk
set_option maxRecDepth 100000
set_option linter.unusedSimpArgs false
set_option linter.unusedVariables false
theorem zfM (l:List Int) (hl:l.length<2^62) (p:Int→Bool) (f:Nat) (caps:List C) (hc:lendAs [] (caps.map AV.one)=some (caps.map fun c=> .f (.one c))) (hc2:lendC.lendCs [] caps=some caps)
  (hp:∀x∈l,CallOK Tryz.prog f (.f (zrf x)::caps.map fun c=> .f (.one c)) (fun r o=>r=[rb (p x)]∧o=[])):
  CallOK Tryz.prog 107 [.f (al l.length (zau l)), .f (.one (.clos f caps))] (fun r o=>r=[rb (l.any p)]∧o=[]):=by
 refine zac zaq mixed (T:=Ty) (n:=9) Tryz.func107 (c:=Tryz.f107.body.getD .skip) rfl Tryz.results107 Tryz.ntmps107 Tryz.call107 ?_
 simp only[Tryz.f107,Option.getD]
 repeat(first|with_reducible refine zab _ _ ?_|with_reducible refine And.imp_right (zab _ _) ?_|with_reducible refine And.imp_right (And.imp_right (zab _ _)) ?_|with_reducible refine And.imp_right (And.imp_right (And.imp_right (zab _ _))) ?_|rw[zak]|simp only[zB,hc2,Nat.reduceSub,Nat.reduceEqDiff,Nat.reduceAdd,Nat.reduceMul,Nat.reduceLeDiff,Nat.reduceLT,Nat.reduceBEq,reduceCtorEq])
 refine zaC (zi2 l hl p f caps hc hp) ?_
 refine zw ?_
 rw[zdz]
abbrev zs6:Req→AV:=fun x=> .agg (x.enc.map C.d)
theorem zoB (l:List Req) (hl:l.length<2^62) (p:Req→Bool) (f:Nat) (caps:List C) (hc:lendAs [] (caps.map AV.one)=some (caps.map fun c=> .f (.one c)))
  (hp:∀x∈l,CallOK Tryz.prog f (.f (zs6 x)::caps.map fun c=> .f (.one c)) (fun r o=>r=[rb (p x)]∧o=[])):
  CallOK Tryz.prog 109 [.f (al l.length (zbM l)), .f (.one (.clos f caps))] (fun r o=>r=[ri (zcm p l 0)]∧o=[]):=by
 refine zac zaq mixed (T:=Ty) (n:=19) Tryz.func109 (c:=Tryz.f109.body.getD .skip) rfl Tryz.results109 Tryz.ntmps109 Tryz.call109 ?_
 simp only[Tryz.f109,Option.getD]
 refine zw ?_
 refine zas (τ:=Nat) (fun i=>⟨[al l.length (zbM l), .one (.clos f caps),dd,dd,ai 0,dd,al l.length (zbM l),ai l.length,ai i,dd,dd,dd,dd,dd,dd,dd,dd,dd,dd],[]⟩) (fun i=>i≤l.length) (fun i=>zcm p (l.drop i) i) (fun i=>l.length - i) 0 (Gh.fgt ?_) (Nat.zero_le _) ?_
 ·simp only[zaP,zaQ,zbc,Int.natCast_zero]
 intro i hi0 hF K hK
 refine zw ?_
 rw[zcP]
 refine⟨trivial,fun hlt=> ?_,fun hge=> ?_⟩
 ·have hi:i<l.length:=by simpa using hlt
  rw[List.drop_eq_getElem_cons hi,zcm]at hF
  have hat:=zeF hi
  simp only[List.cons_append,List.nil_append]at hat
  repeat(first|with_reducible refine zab _ _ ?_|with_reducible refine And.imp_right (zab _ _) ?_|with_reducible refine And.imp_right (And.imp_right (zab _ _)) ?_|with_reducible refine And.imp_right (And.imp_right (And.imp_right (zab _ _))) ?_|rw[zak]|simp only[zB,za0,hat,hc,Nat.reduceSub,Nat.reduceEqDiff,Nat.reduceAdd,Nat.reduceMul,Nat.reduceLeDiff,Nat.reduceLT,Nat.reduceBEq,reduceCtorEq])
  refine⟨⟨Int.natCast_nonneg i,by omega⟩, ?_⟩
  refine zaC (hp _ (List.getElem_mem hi)) ?_
  refine zw ?_
  refine zaa (fun hb=> ?_) (fun hb=> ?_)
  ·rw[if_pos hb]at hF
   refine zw ?_
   rw[hF];rfl
  ·rw[if_neg (by simp[hb])]at hF
   refine zw ?_
   refine hK _ (i+1) (Gh.fgt ?_) hi (by simp only[List.drop_eq_getElem_cons hi,zcm];rw[if_neg (by simp[hb])];rfl) (by omega)
   have hw:IntKind.i64.wrap ((i:Int)+1)=((i+1:Nat):Int):=by rw[wrap64 (by omega) (by omega)];rfl
   simp only[hw,zaP,zaQ,zbc]
 ·have hi:i=l.length:=by
   have:¬(i:Int)<l.length:=by simpa using hge
   omega
  rw[hi,List.drop_length,zcm]at hF
  refine zw ?_
  rw[hF];rfl
theorem zj8 (l:List Req) (hl:l.length<2^62) (p:Req→Bool) (f:Nat) (caps:List C) (hc:lendAs [] (caps.map AV.one)=some (caps.map fun c=> .f (.one c))) (hc2:lendC.lendCs [] caps=some caps)
  (hp:∀x∈l,CallOK Tryz.prog f (.f (zs6 x)::caps.map fun c=> .f (.one c)) (fun r o=>r=[rb (p x)]∧o=[])):
  CallOK Tryz.prog 67 [.f (al l.length (zbM l)), .f (.one (.clos f caps))] (fun r o=>r=[rb (l.any p)]∧o=[]):=by
 refine zac zaq mixed (T:=Ty) (n:=9) Tryz.func67 (c:=Tryz.f67.body.getD .skip) rfl Tryz.results67 Tryz.ntmps67 Tryz.call67 ?_
 simp only[Tryz.f67,Option.getD]
 repeat(first|with_reducible refine zab _ _ ?_|with_reducible refine And.imp_right (zab _ _) ?_|with_reducible refine And.imp_right (And.imp_right (zab _ _)) ?_|with_reducible refine And.imp_right (And.imp_right (And.imp_right (zab _ _))) ?_|rw[zak]|simp only[zB,hc2,Nat.reduceSub,Nat.reduceEqDiff,Nat.reduceAdd,Nat.reduceMul,Nat.reduceLeDiff,Nat.reduceLT,Nat.reduceBEq,reduceCtorEq])
 refine zaC (zoB l hl p f caps hc hp) ?_
 refine zw ?_
 rw[zdz]
def bad (n:Int):Bool:=decide (n<0)||decide (n>zaS)
def inH (n:Int):Bool:=decide (n≥0)&&decide (n≤zaS)
theorem zsa (n:Int):(!bad n)=inH n:=by unfold bad inH;rw[Bool.eq_iff_iff];simp
theorem zhM (n:Int):CallOK Tryz.prog 108 [.f (ai n)] (fun r o=>r=[rb (bad n)]∧o=[]):=by
 refine zac zaq mixed (T:=Ty) (n:=9) Tryz.func108 (c:=Tryz.f108.body.getD .skip) rfl Tryz.results108 Tryz.ntmps108 Tryz.call108 ?_
 simp only[Tryz.f108,Option.getD]
 repeat'(first|with_reducible refine zab _ _ ?_|rw[zak]|simp only[zB,Nat.reduceSub,Nat.reduceEqDiff,Nat.reduceAdd,Nat.reduceMul,Nat.reduceLeDiff,Nat.reduceLT,Nat.reduceBEq,reduceCtorEq]|refine zal ?_|refine zaa (fun hb=> ?_) (fun hb=> ?_)|(refine And.intro ?_ ?_;exact zI)|refine And.intro (fun hg=> ?_) (fun hg=> ?_)|exact zC|fail)
 rfl
theorem zhN (l:List Int) (hl:l.length<2^62):CallOK Tryz.prog 66 [.f (al l.length (zau l))] (fun r o=>r=[rb (!l.any bad)]∧o=[]):=by
 refine zac zaq mixed (T:=Ty) (n:=6) Tryz.func66 (c:=Tryz.f66.body.getD .skip) rfl Tryz.results66 Tryz.ntmps66 Tryz.call66 ?_
 simp only[Tryz.f66,Option.getD]
 repeat'(first|with_reducible refine zab _ _ ?_|rw[zak]|simp only[zB,Nat.reduceSub,Nat.reduceEqDiff,Nat.reduceAdd,Nat.reduceMul,Nat.reduceLeDiff,Nat.reduceLT,Nat.reduceBEq,reduceCtorEq]|((first|((try refine zaz ?_);apply zaC)|(apply zaB;intro _));(solve|exact(zfM l hl bad _ [] rfl rfl (fun x _=>zhM x))|(refine CallOK.le (zfM l hl bad _ [] rfl rfl (fun x _=>zhM x)) ?_;exact zM)|fail);try case hn=>rfl)|refine zal ?_|refine zaa (fun hb=> ?_) (fun hb=> ?_)|(refine And.intro ?_ ?_;exact zI)|refine And.intro (fun hg=> ?_) (fun hg=> ?_)|exact zC|fail)
theorem zj9 (v least:Int):CallOK Tryz.prog 58 [.f (ai v), .f (ai least)] (fun r o=>r=[rb (decide (v≥least)&&decide (v≤zaS))]∧o=[]):=by
 refine zac zaq mixed (T:=Ty) (n:=12) Tryz.func58 (c:=Tryz.f58.body.getD .skip) rfl Tryz.results58 Tryz.ntmps58 Tryz.call58 ?_
 simp only[Tryz.f58,Option.getD]
 repeat'(first|with_reducible refine zab _ _ ?_|rw[zak]|simp only[zB,Nat.reduceSub,Nat.reduceEqDiff,Nat.reduceAdd,Nat.reduceMul,Nat.reduceLeDiff,Nat.reduceLT,Nat.reduceBEq,reduceCtorEq]|refine zal ?_|refine zaa (fun hb=> ?_) (fun hb=> ?_)|(refine And.intro ?_ ?_;exact zI)|refine And.intro (fun hg=> ?_) (fun hg=> ?_)|exact zC|fail)
def Tip.may (t:Tip):Bool:=inH t.view&&inH t.slot
theorem zka (t:Tip):CallOK Tryz.prog 59 [.f (.agg [di t.view,di t.slot])] (fun r o=>r=[rb (Tip.may t)]∧o=[]):=by
 refine zac zaq mixed (T:=Ty) (n:=21) Tryz.func59 (c:=Tryz.f59.body.getD .skip) rfl Tryz.results59 Tryz.ntmps59 Tryz.call59 ?_
 simp only[Tryz.f59,Option.getD]
 repeat'(first|with_reducible refine zab _ _ ?_|rw[zak]|simp only[zB,Nat.reduceSub,Nat.reduceEqDiff,Nat.reduceAdd,Nat.reduceMul,Nat.reduceLeDiff,Nat.reduceLT,Nat.reduceBEq,reduceCtorEq]|refine zal ?_|refine zaa (fun hb=> ?_) (fun hb=> ?_)|(refine And.intro ?_ ?_;exact zI)|refine And.intro (fun hg=> ?_) (fun hg=> ?_)|exact zC|fail)
 simp[Tip.may,inH,Bool.and_assoc]
theorem zp6 (t:Tip) (b:Batch):CallOK Tryz.prog 36 [.f (.agg [di t.view,di t.slot]), .f (.agg b.lent)] (fun r o=>r=[rb (!b.fill&&(b.tip.view==t.view&&b.tip.slot==t.slot))]∧o=[]):=by
 refine zac zaq mixed (T:=Ty) (n:=14) Tryz.func36 (c:=Tryz.f36.body.getD .skip) rfl Tryz.results36 Tryz.ntmps36 Tryz.call36 ?_
 simp only[Tryz.f36,Option.getD]
 repeat'(first|with_reducible refine zab _ _ ?_|rw[zak]|simp only[zB,Nat.reduceSub,Nat.reduceEqDiff,Nat.reduceAdd,Nat.reduceMul,Nat.reduceLeDiff,Nat.reduceLT,Nat.reduceBEq,reduceCtorEq]|refine zal ?_|refine zaa (fun hb=> ?_) (fun hb=> ?_)|(refine And.intro ?_ ?_;exact zI)|refine And.intro (fun hg=> ?_) (fun hg=> ?_)|exact zC|fail)
theorem zoC (t:Tip) (b:Batch):CallOK Tryz.prog 32 [.f (.agg [di t.view,di t.slot]), .f (.agg b.lent)] (fun r o=>r=[rb (!b.fill&&(b.tip.view==t.view&&b.tip.slot==t.slot))]∧o=[]):=by
 refine zac zaq mixed (T:=Ty) (n:=14) Tryz.func32 (c:=Tryz.f32.body.getD .skip) rfl Tryz.results32 Tryz.ntmps32 Tryz.call32 ?_
 simp only[Tryz.f32,Option.getD]
 repeat'(first|with_reducible refine zab _ _ ?_|rw[zak]|simp only[zB,Nat.reduceSub,Nat.reduceEqDiff,Nat.reduceAdd,Nat.reduceMul,Nat.reduceLeDiff,Nat.reduceLT,Nat.reduceBEq,reduceCtorEq]|refine zal ?_|refine zaa (fun hb=> ?_) (fun hb=> ?_)|(refine And.intro ?_ ?_;exact zI)|refine And.intro (fun hg=> ?_) (fun hg=> ?_)|exact zC|fail)
theorem ziD (r q:Req):CallOK Tryz.prog 68 [.f (.agg (r.enc.map C.d)), .f (.one (.elt q.enc))] (fun x o=>x=[rb (r.client==q.client)]∧o=[]):=by
 refine zac zaq mixed (T:=Ty) (n:=9) Tryz.func68 (c:=Tryz.f68.body.getD .skip) rfl Tryz.results68 Tryz.ntmps68 Tryz.call68 ?_
 simp only[Tryz.f68,Option.getD]
 repeat'(first|with_reducible refine zab _ _ ?_|rw[zak]|simp only[zB,Nat.reduceSub,Nat.reduceEqDiff,Nat.reduceAdd,Nat.reduceMul,Nat.reduceLeDiff,Nat.reduceLT,Nat.reduceBEq,reduceCtorEq]|refine zal ?_|refine zaa (fun hb=> ?_) (fun hb=> ?_)|(refine And.intro ?_ ?_;exact zI)|refine And.intro (fun hg=> ?_) (fun hg=> ?_)|exact zC|fail)
theorem zoD {l:List Req} {i:Nat} (hi:i≤l.length):(zbM l).take (i*5)=zbM (l.take i):=by
 have h:zbM l=zbM (l.take i)++zbM (l.drop i):=by rw[←List.flatMap_append,List.take_append_drop]
 rw[h,List.take_left' (by rw[za0,List.length_take];congr 1;omega)]
def zbO (l:List Req):Nat→List Req→Bool
 |_,[]=>true
 |i,r::rest=>if(!Req.may r||(l.take i).any (fun o=>o.client==r.client))=true then false else zbO l (i+1) rest
def Batch.may (b:Batch):Bool:=
 if b.fill=true then b.view==0&&b.time==0&&(b.tip.view==0&&b.tip.slot==0)&&(b.reqs.length:Int)==0
 else if(!![b.view,b.time,b.tip.view,b.tip.slot].any bad||decide ((b.reqs.length:Int)>3))=true then false else zbO b.reqs 0 b.reqs
theorem zkU (b:Batch) (hok:b.ok):CallOK Tryz.prog 35 [.f (.agg b.lent)] (fun r o=>r=[rb (Batch.may b)]∧o=[]):=by
 have hlen:b.reqs.length<2^42:=hok.2.2.2.2.1
 have hreq:∀r∈b.reqs,r.ok:=hok.2.2.2.2.2
 refine zac zaq mixed (T:=Ty) (n:=66) Tryz.func35 (c:=Tryz.f35.body.getD .skip) rfl Tryz.results35 Tryz.ntmps35 Tryz.call35 ?_
 simp only[Tryz.f35,Option.getD]
 repeat'(first|with_reducible refine zab _ _ ?_|rw[zak]|simp only[zB,Nat.reduceSub,Nat.reduceEqDiff,Nat.reduceAdd,Nat.reduceMul,Nat.reduceLeDiff,Nat.reduceLT,Nat.reduceBEq,reduceCtorEq]|((first|((try refine zaz ?_);apply zaC)|(apply zaB;intro _));(solve|exact(zhN [_,_,_,_] (by simp))|(refine CallOK.le (zhN [_,_,_,_] (by simp)) ?_;exact zM)|fail);try case hn=>rfl)|refine zal ?_|refine zaa (fun hb=> ?_) (fun hb=> ?_)|(refine And.intro ?_ ?_;exact zI)|refine And.intro (fun hg=> ?_) (fun hg=> ?_)|exact zC|fail)
 ·rw[Batch.may,if_pos (by assumption)]
 ·rw[Batch.may,if_neg (by simp_all),if_pos (by assumption)]
 rename_i hf
 have hm:Batch.may b=zbO b.reqs 0 b.reqs:=by rw[Batch.may,if_neg (by simp[hf]),if_neg (by rw[hb];simp)]
 rw[hm]
 refine zw ?_
 refine zas (τ:=Nat×Nat) (fun t=>⟨[dd, .one (.ptr ⟨1,0,0⟩ 0),ab false,dd,dd,dd,dd,dd,dd,dd,dd,dd,dd,dd,dd,dd,dd,dd,dd,dd,dd,dd,dd,dd,dd,dd,dd,dd,dd,dd,dd,dd,dd,dd,dd,dd,dd,dd,dd,dd,dd,dd,dd,dd,dd,dd,dd,al b.reqs.length (zbM b.reqs),ai b.reqs.length,ai t.1,dd,dd,dd,dd,dd,dd,dd,dd,dd,dd,dd,dd,dd,dd,dd,dd],
  [(1,{next:=7,l:=[some {e:=0,var:=true,fz:=false,sz:=0,cells:=[db b.fill,di b.view,di b.tip.view,di b.tip.slot,di b.time, .lent b.reqs.length (zbM b.reqs)]},none,none,none,none,none,none]}),(37,⟨1,[]⟩),(4,⟨t.2,[]⟩)]⟩)
  (fun t=>t.1≤b.reqs.length) (fun t=>zbO b.reqs t.1 (b.reqs.drop t.1)) (fun t=>b.reqs.length - t.1) (0,0) (Gh.keep [1] [4] ?_ rfl) (Nat.zero_le _) ?_
 ·simp only[zaP,zaQ,zbc,Int.natCast_zero]
 intro⟨i,e⟩ hi0 hF K hK
 simp only at hi0 hF hK⊢
 refine zw ?_
 rw[zcP]
 refine⟨trivial,fun hlt=> ?_,fun hge=> ?_⟩
 ·have hi:i<b.reqs.length:=by simpa using hlt
  rw[List.drop_eq_getElem_cons hi,zbO]at hF
  have hat:=zeF hi
  simp only[List.cons_append,List.nil_append]at hat
  have hro:=hreq _ (List.getElem_mem hi)
  have hlt':(b.reqs.take i).length=i:=by rw[List.length_take];omega
  have hc:=zj8 (b.reqs.take i) (by omega) (fun o=>o.client==b.reqs[i].client) 68 [.elt b.reqs[i].enc] rfl rfl (fun x _=>ziD x _)
  rw[hlt',←zoD hi0]at hc
  repeat'(first|with_reducible refine zab _ _ ?_|rw[zak]|simp only[zB,za0,hat,Int.toNat_zero,Int.toNat_natCast,Nat.sub_zero,Int.natCast_zero,Nat.reduceSub,Nat.reduceEqDiff,Nat.reduceAdd,Nat.reduceMul,Nat.reduceLeDiff,Nat.reduceLT,Nat.reduceBEq,reduceCtorEq]|((first|((try refine zaz ?_);apply zaC)|(apply zaB;intro _));(solve|exact(zgM _ hro)|exact(hc)|(refine CallOK.le (zgM _ hro) ?_;exact zM)|(refine CallOK.le (hc) ?_;exact zM)|fail);try case hn=>rfl)|refine zal ?_|refine zaa (fun hb=> ?_) (fun hb=> ?_)|(refine And.intro ?_ ?_;exact zI)|refine And.intro (fun hg=> ?_) (fun hg=> ?_)|exact zC|fail)
  ·rw[if_pos hb,List.drop_zero]at hF
   rw[←hF]
  ·rw[if_neg (by rw[hb];simp)]at hF
   refine hK _ (i+1,_) (Gh.keep [1] [] ?_ rfl) hi (by simp only[List.drop_eq_getElem_cons hi,zbO];rw[if_neg (by rw[hb];simp)]) (by simp only;omega)
   simp only[zar hi (by omega),zaP,zaQ,zbc]
 ·have hi:i=b.reqs.length:=by
   have:¬(i:Int)<b.reqs.length:=by simpa using hge
   omega
  rw[hi,List.drop_length,List.drop_zero,zbO]at hF
  refine zw ?_
  rw[←hF]
theorem zoE (l:List Req) (hl:l.length<2^42) (hreq:∀r∈l,r.ok):CallOK Tryz.prog 60 [.f (al l.length (zbM l))] (fun r o=>r=[rb (if decide ((l.length:Int)>3)=true then false else zbO l 0 l)]∧o=[]):=by
 refine zac zaq mixed (T:=Ty) (n:=36) Tryz.func60 (c:=Tryz.f60.body.getD .skip) rfl Tryz.results60 Tryz.ntmps60 Tryz.call60 ?_
 simp only[Tryz.f60,Option.getD]
 refine zw ?_
 refine zaa (fun hb=> ?_) (fun hb=> ?_)
 ·refine zw ?_
  rw[if_pos hb]
 rw[if_neg (by rw[hb];simp)]
 refine zw ?_
 refine zas (τ:=Nat) (fun i=>⟨[al l.length (zbM l),dd,ab false,ai i,dd,dd,dd,dd,dd,dd,dd,dd,dd,dd,dd,dd,dd,dd,dd,dd,dd,dd,dd,dd,dd,dd,dd,dd,dd,dd,dd,dd,dd,dd,dd,dd],[]⟩)
  (fun i=>i≤l.length) (fun i=>zbO l i (l.drop i)) (fun i=>l.length - i) 0 (Gh.fgt ?_) (Nat.zero_le _) ?_
 ·simp only[zaP,zaQ,zbc,Int.natCast_zero]
 intro i hi0 hF K hK
 refine zw ?_
 refine zaa (fun hlt=> ?_) (fun hge=> ?_)
 ·have hi:i<l.length:=by simpa using hlt
  rw[List.drop_eq_getElem_cons hi,zbO]at hF
  have hat:=zeF hi
  simp only[List.cons_append,List.nil_append]at hat
  have hro:=hreq _ (List.getElem_mem hi)
  repeat'(first|with_reducible refine zab _ _ ?_|rw[zak]|simp only[zB,za0,hat,Nat.reduceSub,Nat.reduceEqDiff,Nat.reduceAdd,Nat.reduceMul,Nat.reduceLeDiff,Nat.reduceLT,Nat.reduceBEq,reduceCtorEq]|((first|((try refine zaz ?_);apply zaC)|(apply zaB;intro _));(solve|exact(zfD _ hro)|(refine CallOK.le (zfD _ hro) ?_;exact zM)|fail);try case hn=>rfl)|refine zal ?_|refine zaa (fun hb=> ?_) (fun hb=> ?_)|(refine And.intro ?_ ?_;exact zI)|refine And.intro (fun hg=> ?_) (fun hg=> ?_)|exact zC|fail)
  ·rw[if_pos (by rw[hb];rfl),List.drop_zero]at hF
   rw[←hF]
  rename_i hm
  have hm:Req.may l[i]=true:=by simpa using hb
  refine zw ?_
  refine zas (τ:=Nat) (fun k=>⟨[al l.length (zbM l),dd,ab false,ai i,ai k,dd,dd,dd,dd,dd,dd,dd,dd,dd,dd,dd,dd,dd,dd,dd,dd,dd,dd,dd,dd,dd,dd,dd,dd,dd,dd,dd,dd,dd,dd,dd],[]⟩)
   (fun k=>k≤i) (fun k=>((l.take i).drop k).any (fun o=>o.client==l[i].client)) (fun k=>i - k) 0 (Gh.fgt ?_) (Nat.zero_le _) ?_
  ·simp only[zaP,zaQ,zbc,Int.natCast_zero]
  intro k hk0 hF2 K2 hK2
  refine zw ?_
  refine zaa (fun hlt2=> ?_) (fun hge2=> ?_)
  ·have hk:k<i:=by simpa using hlt2
   have hkl:k<l.length:=by omega
   have hat2:=zeF hkl
   simp only[List.cons_append,List.nil_append]at hat2
   have hd:(l.take i).drop k=l[k]::(l.take i).drop (k+1):=by
    rw[List.drop_eq_getElem_cons (by rw[List.length_take];omega)]
    congr 1
    rw[List.getElem_take]
   rw[hd,List.any_cons,List.drop_zero]at hF2
   repeat'(first|with_reducible refine zab _ _ ?_|rw[zak]|simp only[zB,za0,hat,hat2,Nat.reduceSub,Nat.reduceEqDiff,Nat.reduceAdd,Nat.reduceMul,Nat.reduceLeDiff,Nat.reduceLT,Nat.reduceBEq,reduceCtorEq]|refine zal ?_|refine zaa (fun hb=> ?_) (fun hb=> ?_)|(refine And.intro ?_ ?_;exact zI)|refine And.intro (fun hg=> ?_) (fun hg=> ?_)|exact zC|fail)
   ·rw[hb,Bool.true_or]at hF2
    rw[if_pos (by rw[←hF2,Bool.or_true]),List.drop_zero]at hF
    rw[←hF]
   ·rw[hb,Bool.false_or]at hF2
    refine hK2 _ (k+1) (Gh.fgt ?_) hk (by rw[hd,List.any_cons,hb,Bool.false_or]) (by omega)
    simp only[zar hk (by omega),zaP,zaQ,zbc]
  ·have hk:k=i:=by
    have:¬(k:Int)<i:=by simpa using hge2
    omega
   rw[hk,List.drop_of_length_le (by rw[List.length_take];omega),List.any_nil,List.drop_zero]at hF2
   rw[if_neg (by rw[←hF2,hm];simp)]at hF
   refine zw ?_
   refine hK _ (i+1) (Gh.fgt ?_) hi (by simp only[List.drop_eq_getElem_cons hi,zbO];rw[if_neg (by rw[←hF2,hm];simp)]) (by omega)
   simp only[zar hi (by omega),zaP,zaQ,zbc]
 ·have hi:i=l.length:=by
   have:¬(i:Int)<l.length:=by simpa using hge
   omega
  rw[hi,List.drop_length,List.drop_zero,zbO]at hF
  refine zw ?_
  rw[←hF]
theorem zkb (b:Batch) (hok:b.ok):CallOK Tryz.prog 31 [.f (.agg b.lent)] (fun r o=>r=[rb (Batch.may b)]∧o=[]):=by
 refine zac zaq mixed (T:=Ty) (n:=43) Tryz.func31 (c:=Tryz.f31.body.getD .skip) rfl Tryz.results31 Tryz.ntmps31 Tryz.call31 ?_
 simp only[Tryz.f31,Option.getD]
 repeat'(first|with_reducible refine zab _ _ ?_|rw[zak]|simp only[zB,Nat.reduceSub,Nat.reduceEqDiff,Nat.reduceAdd,Nat.reduceMul,Nat.reduceLeDiff,Nat.reduceLT,Nat.reduceBEq,reduceCtorEq]|((first|((try refine zaz ?_);apply zaC)|(apply zaB;intro _));(solve|exact(zj9 _ _)|exact(zka b.tip)|exact(zoE b.reqs hok.2.2.2.2.1 hok.2.2.2.2.2)|(refine CallOK.le (zj9 _ _) ?_;exact zM)|(refine CallOK.le (zka b.tip) ?_;exact zM)|(refine CallOK.le (zoE b.reqs hok.2.2.2.2.1 hok.2.2.2.2.2) ?_;exact zM)|fail);try case hn=>rfl)|refine zal ?_|refine zaa (fun hb=> ?_) (fun hb=> ?_)|(refine And.intro ?_ ?_;exact zI)|refine And.intro (fun hg=> ?_) (fun hg=> ?_)|exact zC|fail)
 ·rw[Batch.may,if_pos (by assumption)]
  refine congrArg (fun b=>[rb b]) ?_
  ac_rfl
 ·refine congrArg (fun b=>[rb b]) ?_
  have e:(![b.view,b.time,b.tip.view,b.tip.slot].any bad)=(inH b.view&&inH b.time&&Tip.may b.tip):=by
   simp[Tip.may,←zsa,Bool.and_assoc]
  rw[Batch.may,if_neg (show¬b.fill=true by rw[hb];simp),e]
  show(inH b.view&&inH b.time&&Tip.may b.tip&&_)=_
  generalize (inH b.view&&inH b.time&&Tip.may b.tip)=q
  generalize decide ((b.reqs.length:Int)>3)=d
  cases q<;>cases d<;>rfl
def zvH (b:Batch):Bool:=if decide ((b.reqs.length:Int)>20)=true then true else b.reqs.any fun r=>decide ((r.name.size:Int)>300)
theorem zoR {l:List Memo} {a m:Memo} (h:m∈zdf l a):m∈l∨m=a:=by
 unfold zdf at h
 split at h
 ·exact .inl h
 ·split at h
  ·exact List.mem_or_eq_of_mem_set h
  ·rcases List.mem_append.1 h with h|h
   ·exact .inl (List.mem_of_mem_take h)
   ·rcases List.mem_cons.1 h with h|h
    ·exact .inr h
    ·exact .inl (List.mem_of_mem_drop h)
def SqB (s:St) (i:Nat):Prop:=∀m∈s.memos,m.seq≤6+i
theorem zoS {s:St} {i:Nat} (h:SqB s i) {q:Req} (hq:q.seq≤6+i+1) (hsm:Small s):SqB (zba s q).1 (i+1):=by
 intro m hm
 have hin:∀m∈s.memos,m.seq≤6+((i+1:Nat):Int):=fun m hm=>by have:=h m hm;omega
 unfold zba at hm
 split at hm
 ·exact hin m hm
 ·split at hm
  ·exact hin m hm
  ·split at hm
   ·exact hin m hm
   ·rcases zoR hm with h1|h1
    ·rw[zfo hsm q]at h1
     exact hin m h1
    ·rw[h1];simp only;omega
theorem zmN {s:St} {i:Nat} (h:SqB s i) (a:Act):(zg1 s a).seq≤6+i+1:=by
 unfold zg1
 simp only
 split
 ·split
  ·rename_i hs
   obtain⟨m,hm⟩:=Option.isSome_iff_exists.1 hs
   rw[hm]
   have:=h m (List.mem_of_find?_eq_some hm)
   simp only[Option.getD_some];omega
  ·omega
 ·unfold zoT;simp only;omega
structure XS where
 lease:Int
 done:Int
 view:Int
 slot:Int
 st:St
def zfF:St→List Req→List Memo→St×List Memo
 |s,[],l=>(s,l)
 |s,r::rs,l=>zfF (zba s r).1 rs (if za8 s.memos r.client r.seq= -1 then l else l++[⟨r.client,r.seq,(zba s r).2.1⟩])
def zde (x:XS) (b:Batch):Bool:= !b.fill&&(b.tip.view==x.view&&b.tip.slot==x.slot)
def zgb (x:XS) (b:Batch):St×List Memo:=zfF (zbi x.st b.time x.lease) b.reqs []
def doP (x:XS) (b:Batch):XS×List Memo×Bool:=
 if Batch.may b=false then(x,[],false)else
 if zde x b=false then({x with done:=x.done+1},[],false)else
 (⟨x.lease,x.done+1,b.view,x.done+1,(zgb x b).1⟩,(zgb x b).2,true)
theorem zgc {l:List Req}:∀{i:Nat},i≤l.length→(zbO l i (l.drop i)=true↔∀j (hj:j<l.length),i≤j→Req.may l[j]=true∧∀k (hk:k<j),l[k].client≠l[j].client):=by
 intro i hi
 obtain⟨n,hn⟩:∃n,n=l.length - i:=⟨_,rfl⟩
 induction n generalizing i with
 |zero=>
  have:i=l.length:=by omega
  rw[this,List.drop_length,zbO]
  simp only[true_iff]
  intro j hj hij;omega
 |succ n ih=>
  have hil:i<l.length:=by omega
  rw[List.drop_eq_getElem_cons hil,zbO]
  have ih:=ih (i:=i+1) (by omega) (by omega)
  have hany:(l.take i).any (fun o=>o.client==l[i].client)=false↔∀k (hk:k<i),l[k].client≠l[i].client:=by
   rw[List.any_eq_false]
   constructor
   ·intro h k hk
    have:=h (l[k]) (by rw[List.mem_take_iff_getElem];exact⟨k,by omega,rfl⟩)
    simpa using this
   ·intro h o ho
    obtain⟨k,hk,rfl⟩:=List.mem_take_iff_getElem.1 ho
    simpa using h k (by omega)
  constructor
  ·intro h
   split at h
   ·cases h
   ·rename_i hc
    have hc:(!Req.may l[i]||(l.take i).any (fun o=>o.client==l[i].client))=false:=by simpa using hc
    rw[Bool.or_eq_false_iff]at hc
    intro j hj hij
    by_cases hji:j=i
    ·subst hji
     exact⟨by simpa using hc.1,hany.1 hc.2⟩
    ·exact ih.1 h j hj (by omega)
  ·intro h
   obtain⟨h1,h2⟩:=h i hil (Nat.le_refl _)
   rw[if_neg (by rw[h1,hany.2 h2];simp)]
   exact ih.2 fun j hj hij=>h j hj (by omega)
theorem zkm {l:List Req} (h:zbO l 0 l=true):(∀r∈l,Req.may r=true)∧l.Pairwise fun a b=>a.client≠b.client:=by
 have h:=(zgc (l:=l) (i:=0) (Nat.zero_le _)).1 (by rw[List.drop_zero];exact h)
 refine⟨fun r hr=> ?_,List.pairwise_iff_getElem.2 fun i j hi hj hij=>(h j hj (Nat.zero_le _)).2 i hij⟩
 obtain⟨j,hj,rfl⟩:=List.getElem_of_mem hr
 exact(h j hj (Nat.zero_le _)).1
theorem zlV {l:List Req} (h1:∀r∈l,Req.may r=true) (h2:l.Pairwise fun a b=>a.client≠b.client):zbO l 0 l=true:=by
 have:=(zgc (l:=l) (i:=0) (Nat.zero_le _)).2 fun j hj _=>⟨h1 _ (List.getElem_mem hj),fun k hk=>List.pairwise_iff_getElem.1 h2 k j (by omega) hj hk⟩
 rwa[List.drop_zero]at this
theorem zex {b:Batch} (h:Batch.may b=true) (hf:b.fill=false):(0≤b.view∧b.view≤zaS)∧(0≤b.time∧b.time≤zaS)∧(0≤b.tip.view∧b.tip.view≤zaS)∧(0≤b.tip.slot∧b.tip.slot≤zaS)∧b.reqs.length≤3∧
  (∀r∈b.reqs,Req.may r=true)∧b.reqs.Pairwise fun a b=>a.client≠b.client:=by
 unfold Batch.may at h
 rw[if_neg (by rw[hf];simp)]at h
 split at h
 ·cases h
 ·rename_i hc
  have hc:(!![b.view,b.time,b.tip.view,b.tip.slot].any bad||decide ((b.reqs.length:Int)>3))=false:=by simpa using hc
  rw[Bool.or_eq_false_iff]at hc
  obtain⟨c1,c2⟩:=hc
  have hb:∀n:Int,bad n=false→0≤n∧n≤zaS:=fun n hn=>by unfold bad at hn;simp at hn;omega
  have c1:[b.view,b.time,b.tip.view,b.tip.slot].any bad=false:=by simpa using c1
  simp only[List.any_cons,List.any_nil,Bool.or_false,Bool.or_eq_false_iff]at c1
  obtain⟨q1,q2,q3,q4⟩:=c1
  obtain⟨g1,g2⟩:=zkm h
  exact⟨hb _ q1,hb _ q2,hb _ q3,hb _ q4,by simp at c2;omega,g1,g2⟩
theorem zfG {b:Batch} (hf:b.fill=false) (h1:0≤b.view∧b.view≤zaS) (h2:0≤b.time∧b.time≤zaS) (h3:0≤b.tip.view∧b.tip.view≤zaS) (h4:0≤b.tip.slot∧b.tip.slot≤zaS) (h5:b.reqs.length≤3)
  (h6:∀r∈b.reqs,Req.may r=true) (h7:b.reqs.Pairwise fun a b=>a.client≠b.client):Batch.may b=true:=by
 have hb:∀n:Int,0≤n∧n≤zaS→bad n=false:=fun n hn=>by unfold bad;simp;omega
 unfold Batch.may
 rw[if_neg (by rw[hf];simp),if_neg (by simp[hb _ h1,hb _ h2,hb _ h3,hb _ h4];omega)]
 exact zlV h6 h7
theorem ziK:∀{rs:List Req} {s:St} {l:List Memo},RightS s→s.num+rs.length≤zaS→s.token+4*rs.length≤zaS→
  RightS (zfF s rs l).1∧(s.num≤(zfF s rs l).1.num∧(zfF s rs l).1.num≤s.num+rs.length)∧(s.token≤(zfF s rs l).1.token∧(zfF s rs l).1.token≤s.token+4*rs.length)∧(zfF s rs l).1.time=s.time∧(zfF s rs l).2.length≤l.length+rs.length
 |[],s,l,h,h1,h2=>by simp only[zfF,List.length_nil];exact⟨h,by omega,by omega,trivial,by omega⟩
 |r::rs,s,l,h,h1,h2=>by
  rw[List.length_cons]at h1 h2⊢
  obtain⟨d1,d2,d3,d4,d5⟩:=zdu h r (by omega) (by omega)
  obtain⟨e1,e2,e3,e4,e5⟩:=ziK (rs:=rs) (s:=(zba s r).1) (l:=if za8 s.memos r.client r.seq= -1 then l else l++[⟨r.client,r.seq,(zba s r).2.1⟩]) d1 (by omega) (by omega)
  rw[zfF]
  refine⟨e1,by omega,by omega,e4.trans d4,Nat.le_trans e5 ?_⟩
  split
  ·omega
  ·simp only[List.length_append,List.length_singleton];omega
theorem zqe:∀{rs:List Req} {s:St} {l:List Memo} {i:Nat},RightS s→s.num+rs.length≤zaS→s.token+4*rs.length≤zaS→SqB s i→(∀r∈rs,r.seq≤6+i+1)→SqB (zfF s rs l).1 (i+rs.length)
 |[],s,l,i,h,h1,h2,hq,hr=>hq
 |r::rs,s,l,i,h,h1,h2,hq,hr=>by
  rw[List.length_cons]at h1 h2⊢
  obtain⟨d1,d2,d3,d4,d5⟩:=zdu h r (by omega) (by omega)
  rw[zfF,show i+(rs.length+1)=i+1+rs.length by omega]
  exact zqe d1 (by omega) (by omega) (zoS hq (hr r (by simp)) (zbG h)) fun x hx=>by have:=hr x (by simp[hx]);omega
theorem zgd {x:XS} {b:Batch} (h:RightS x.st) (hN:x.st.num+3≤zaS) (hT:x.st.token+16≤zaS) (hl:b.reqs.length≤3):
  RightS (zgb x b).1∧(zgb x b).1.num≤x.st.num+3∧(zgb x b).1.token≤x.st.token+16∧(zgb x b).1.time=zbR x.st b.time∧(zgb x b).2.length≤b.reqs.length:=by
 obtain⟨r1,r2,r3,r4,r5⟩:=zcK h b.time x.lease (by omega)
 obtain⟨e1,e2,e3,e4,e5⟩:=ziK (rs:=b.reqs) (l:=[]) r1 (by omega) (by omega)
 refine⟨e1, ?_, ?_,e4,by simpa[zgb]using e5⟩
 ·show(zgb x b).1.num≤_
  have:=e2.2;unfold zgb;omega
 ·have:=e3.2;unfold zgb;omega
abbrev XS.cells (x:XS):List D:=[iD x.lease,iD x.done,iD x.view,iD x.slot,iD x.st.time,iD x.st.num,iD x.st.token, .sl x.st.sess.length (zaI x.st.sess), .sl x.st.locks.length (zaf x.st.locks), .sl x.st.memos.length (zaw x.st.memos)]
abbrev XS.ro (x:XS):List RO:=[.d (iD x.lease), .d (iD x.done), .d (iD x.view), .d (iD x.slot), .d (iD x.st.time), .d (iD x.st.num), .d (iD x.st.token), .d (.sl x.st.sess.length (zaI x.st.sess)), .d (.sl x.st.locks.length (zaf x.st.locks)), .d (.sl x.st.memos.length (zaw x.st.memos))]
abbrev XS.at (x:XS):AV:= .one (.elt x.cells)
abbrev zwc:AV:= .one (.d (.v (.pointer none)))
def zqX (l:Int):XS:=⟨l,0,0,0,st0⟩
theorem zoK (l:Int) (h:(decide (l<1)||decide (l>1000000))=false):CallP Tryz.prog 8 [.f (ai l)] [] (zqX l).ro:=by
 refine CallP.leR (rfs:=[]) (l:=[.d (iD l), .d (iD 0), .d (iD 0), .d (iD 0), .d (iD 0), .d (iD 0), .d (iD 0), .d (.v (.slice none 0 0)), .d (.v (.slice none 0 0)), .d (.v (.slice none 0 0))]) ?_ zgs (by simp[zkf,roB,zqX,st0])
 refine zlb zaq mixed (T:=Ty) (n:=12) Tryz.func8 (c:=Tryz.f8.body.getD .skip) rfl Tryz.results8 Tryz.ntmps8 Tryz.call8 ?_
 simp only[Tryz.f8,Option.getD]
 repeat'(first|(with_reducible first|refine zab _ _ ?_|refine zaM ?_|refine zaN ?_)|rw[zak]|simp only[h,zgr,zla,zgq,zh5,zY,Int.reduceEq,Int.reduceBEq,Int.reduceBNe,Nat.reduceSub,Nat.reduceEqDiff,Nat.reduceAdd,Nat.reduceMul,Nat.reduceLeDiff,Nat.reduceLT,Nat.reduceBEq,reduceCtorEq]|refine zal ?_|refine zaa (fun hb=> ?_) (fun hb=> ?_)|(refine And.intro ?_ ?_;exact zI)|refine And.intro (fun hg=> ?_) (fun hg=> ?_)|exact zC|fail)
theorem zqc (l:Int) (h:(decide (l<1)||decide (l>1000000))=true):CallOK Tryz.prog 8 [.f (ai l)] (fun r o=>r=[.one (.d (.v (.pointer none)))]∧o=[]):=by
 refine zac zaq mixed (T:=Ty) (n:=12) Tryz.func8 (c:=Tryz.f8.body.getD .skip) rfl Tryz.results8 Tryz.ntmps8 Tryz.call8 ?_
 simp only[Tryz.f8,Option.getD]
 repeat'(first|refine zq h ?_|exact zd h|(refine zaa ?_ ?_<;>intro hb)|(refine And.intro ?_ ?_;exact zI)|(refine And.intro ?_ ?_<;>intro hg)|exact zC|fail)
theorem zsf (l:Int) (h:(decide (l<1)||decide (l>1000000))=false):CallP Tryz.prog 9 [.f (ai l)] [] (zqX l).ro:=by
 refine CallP.leR (rfs:=[]) (l:=[.d (iD l), .d (iD 0), .d (iD 0), .d (iD 0), .d (iD 0), .d (iD 0), .d (iD 0), .d (.v (.slice none 0 0)), .d (.v (.slice none 0 0)), .d (.v (.slice none 0 0))]) ?_ zgs (by simp[zkf,roB,zqX,st0])
 refine zlb zaq mixed (T:=Ty) (n:=12) Tryz.func9 (c:=Tryz.f9.body.getD .skip) rfl Tryz.results9 Tryz.ntmps9 Tryz.call9 ?_
 simp only[Tryz.f9,Option.getD]
 repeat'(first|(with_reducible first|refine zab _ _ ?_|refine zaM ?_|refine zaN ?_)|rw[zak]|simp only[h,zgr,zla,zgq,zh5,zY,Int.reduceEq,Int.reduceBEq,Int.reduceBNe,Nat.reduceSub,Nat.reduceEqDiff,Nat.reduceAdd,Nat.reduceMul,Nat.reduceLeDiff,Nat.reduceLT,Nat.reduceBEq,reduceCtorEq]|refine zal ?_|refine zaa (fun hb=> ?_) (fun hb=> ?_)|(refine And.intro ?_ ?_;exact zI)|refine And.intro (fun hg=> ?_) (fun hg=> ?_)|exact zC|fail)
theorem zqd (x:XS):CallOK Tryz.prog 25 [.f x.at] (fun r o=>r=[ri x.done]∧o=[]):=by
 refine zac zaq mixed (T:=Ty) (n:=10) Tryz.func25 (c:=Tryz.f25.body.getD .skip) rfl Tryz.results25 Tryz.ntmps25 Tryz.call25 ?_
 simp only[Tryz.f25,Option.getD]
 repeat'(first|refine zq0 ?_|exact zd0|(refine zaa ?_ ?_<;>intro hb)|(refine And.intro ?_ ?_;exact zI)|(refine And.intro ?_ ?_<;>intro hg)|exact zC|fail)
theorem zsg (x:XS):CallOK Tryz.prog 19 [.f x.at] (fun r o=>r=[.agg [.d (iD x.view), .d (iD x.slot)]]∧o=[]):=by
 refine zac zaq mixed (T:=Ty) (n:=11) Tryz.func19 (c:=Tryz.f19.body.getD .skip) rfl Tryz.results19 Tryz.ntmps19 Tryz.call19 ?_
 simp only[Tryz.f19,Option.getD]
 repeat'(first|refine zq0 ?_|exact zd0|(refine zaa ?_ ?_<;>intro hb)|(refine And.intro ?_ ?_;exact zI)|(refine And.intro ?_ ?_<;>intro hg)|exact zC|fail)
structure Sn where
 done:Int
 view:Int
 slot:Int
 st:St
abbrev Sn.lent (s:Sn):List C:=di s.done::di s.view::di s.slot::s.st.lent
abbrev zvG (s:Sn):RF:= .agg (.d (iD s.done):: .d (iD s.view):: .d (iD s.slot)::(stE s.st).map RO.d)
abbrev Sn.rf (s:Sn):RF:= .agg [.d (iD s.done), .d (iD s.view), .d (iD s.slot), .d (iD s.st.time), .d (iD s.st.num), .d (iD s.st.token), .own 3 s.st.sess.length (zaI s.st.sess) false, .own 4 s.st.locks.length (zaf s.st.locks) false, .own 6 s.st.memos.length (zaw s.st.memos) false]
set_option maxHeartbeats 1000000 in
theorem zhO (s:Sn) (h:Small s.st):CallOK Tryz.prog 41 [.f (.agg s.lent)] (fun r o=>r=[s.rf]∧o=[]):=by
 refine zac zaq mixed (T:=Ty) (n:=84) Tryz.func41 (c:=Tryz.f41.body.getD .skip) rfl Tryz.results41 Tryz.ntmps41 Tryz.call41 ?_
 simp only[Tryz.f41,Option.getD]
 have hcs:=zea s.st.sess.length (zaI s.st.sess) zai (by have:=h.sess;omega)
 have hcl:=zfs s.st.locks.length (zaf s.st.locks) zad (by have:=h.locks;omega)
 have hcm:=zft s.st.memos.length (zaw s.st.memos) zan (by have:=h.memos;omega)
 repeat'(first|refine zq0 ?_|exact zd0|refine zc (hcs) ?_|refine zg (hcs) ?_|refine zc (hcl) ?_|refine zg (hcl) ?_|refine zc (hcm) ?_|refine zg (hcm) ?_|(refine zaa ?_ ?_<;>intro hb)|(refine And.intro ?_ ?_;exact zI)|(refine And.intro ?_ ?_<;>intro hg)|exact zC|fail)
 refine zas (τ:=Nat) (fun i=>⟨[dd, .one (.ptr ⟨1,0,1⟩ 0), .one (.ptr ⟨2,0,1⟩ 0), .one (.ptr ⟨1,0,1⟩ 3),dd,dd,dd,dd,dd,dd,dd,dd,dd,dd,dd,dd,dd,dd,dd,dd,dd,dd,dd,dd,dd,dd,dd,ai s.st.locks.length,ai i,dd,dd,dd,dd,dd,dd,dd,dd,dd,dd,dd,dd,dd,dd,dd,dd,dd,dd,dd,dd,dd,dd,dd,dd,dd,dd,dd,dd,dd,dd,dd,dd,dd,dd,dd,dd,dd,dd,dd,dd,dd,dd,dd,dd,dd,dd,dd,dd,dd,dd,dd,dd,dd,dd,dd],[(1,{next:=2,l:=[some {e:=1,var:=true,fz:=false,sz:=0,cells:=[di s.done,di s.view,di s.slot,di s.st.time,di s.st.num,di s.st.token, .own ⟨1,7,1⟩ 0 s.st.sess.length, .own ⟨1,8,1⟩ 0 s.st.locks.length, .lent s.st.memos.length (zaw s.st.memos)]},none,none,none,none,none,none,some {e:=1,var:=false,fz:=false,sz:=3,cells:=(zaI s.st.sess).map C.d},some {e:=1,var:=false,fz:=false,sz:=4,cells:=(zaf s.st.locks).map C.d},none]}),(2,{next:=2,l:=[some {e:=1,var:=true,fz:=false,sz:=0,cells:=[di 0,di 0,di 0,di 0,di 0,di 0, .d (.v (.slice none 0 0)), .d (.v (.slice none 0 0)), .d (.v (.slice none 0 0))]},none,none,none,none,none,none,none,none,none]}),(12,⟨2,[]⟩),(20,⟨2,[]⟩),(44,⟨2,[]⟩)]⟩)
  (fun i=>i≤s.st.locks.length) (fun _=>()) (fun i=>s.st.locks.length - i) 0
  (Gh.canon [1,2] [44] [] zK rfl rfl) (Nat.zero_le _) ?_
 intro i hi0 hF K hK
 refine zw ?_
 refine zaa (fun hlt=> ?_) (fun hge=> ?_)
 ·have hi:i<s.st.locks.length:=by simpa using hlt
  have hat:=zaT hi
  have hat2:(zaf s.st.locks).drop (i*4+3)= .sl s.st.locks[i].line.length (zau s.st.locks[i].line)::zaf (s.st.locks.drop (i+1)):=by rw[←List.drop_drop,hat];rfl
  have hw:=zar hi (by have:=h.locks;omega)
  have hci:=zcQ s.st.locks[i].line.length (zau s.st.locks[i].line) zah (by have:=(h.line _ (List.getElem_mem hi)).1;omega)
  have hset:=zbL Lk.enc 4 (fun _=>rfl) hi (k:=3) (by decide) (.sl s.st.locks[i].line.length (zau s.st.locks[i].line)) s.st.locks[i] rfl
  rw[List.set_getElem_self]at hset
  repeat'(first|refine zq (I hat2 (I hset (I @zmd (I @List.map_cons.{0,0} @zad)))) ?_|exact zd (I hat2 (I hset (I @zmd (I @List.map_cons.{0,0} @zad))))|refine zc (hci) ?_|refine zg (hci) ?_|(refine zaa ?_ ?_<;>intro hb)|(refine And.intro ?_ ?_;exact zI)|(refine And.intro ?_ ?_<;>intro hg)|exact zC|fail)
  exact hK _ (i+1) (Gh.canon [1,2] [] [] (zk hw) rfl rfl) hi rfl (by omega)
 ·have hi:i=s.st.locks.length:=by
   have:¬(i:Int)<s.st.locks.length:=by simpa using hge
   omega
  repeat'(first|refine zq0 ?_|exact zd0|refine zc (hcm) ?_|refine zg (hcm) ?_|(refine zaa ?_ ?_<;>intro hb)|(refine And.intro ?_ ?_;exact zI)|(refine And.intro ?_ ?_<;>intro hg)|exact zC|fail)
  refine zas (τ:=Nat) (fun i=>⟨[dd, .one (.ptr ⟨1,0,1⟩ 0), .one (.ptr ⟨2,0,1⟩ 0), .one (.ptr ⟨1,0,1⟩ 3),dd,dd,dd,dd,dd,dd,dd,dd,dd,dd,dd,dd,dd,dd,dd,dd,dd,dd,dd,dd,dd,dd,dd,dd,dd,dd,dd,dd,dd,dd,dd,dd,dd,dd,dd,dd,dd,dd,dd,dd,dd,dd,dd,dd,dd,dd,dd,dd,dd,dd,dd,dd,dd,dd,dd,dd,ai s.st.memos.length,ai i,dd,dd,dd,dd,dd,dd,dd,dd,dd,dd,dd,dd,dd,dd,dd,dd,dd,dd,dd,dd,dd,dd],[(1,{next:=2,l:=[some {e:=1,var:=true,fz:=false,sz:=0,cells:=[di s.done,di s.view,di s.slot,di s.st.time,di s.st.num,di s.st.token, .own ⟨1,7,1⟩ 0 s.st.sess.length, .own ⟨1,8,1⟩ 0 s.st.locks.length, .own ⟨1,9,1⟩ 0 s.st.memos.length]},none,none,none,none,none,none,some {e:=1,var:=false,fz:=false,sz:=3,cells:=(zaI s.st.sess).map C.d},some {e:=1,var:=false,fz:=false,sz:=4,cells:=(zaf s.st.locks).map C.d},some {e:=1,var:=false,fz:=false,sz:=6,cells:=(zaw s.st.memos).map C.d}]}),(2,{next:=2,l:=[some {e:=1,var:=true,fz:=false,sz:=0,cells:=[di 0,di 0,di 0,di 0,di 0,di 0, .d (.v (.slice none 0 0)), .d (.v (.slice none 0 0)), .d (.v (.slice none 0 0))]},none,none,none,none,none,none,none,none,none]}),(12,⟨2,[]⟩),(20,⟨2,[]⟩),(44,⟨2,[]⟩),(53,⟨2,[]⟩),(78,⟨2,[]⟩)]⟩)
   (fun i=>i≤s.st.memos.length) (fun _=>()) (fun i=>s.st.memos.length - i) 0
   (Gh.canon [1,2] [78] [] zK rfl rfl) (Nat.zero_le _) ?_
  intro i hi0 hF K hK
  refine zw ?_
  refine zaa (fun hlt=> ?_) (fun hge=> ?_)
  ·have hi:i<s.st.memos.length:=by simpa using hlt
   have hat:=zb0 hi
   have hat2:(zaw s.st.memos).drop (i*6+2+3)= .sl s.st.memos[i].reply.held.length (zaF s.st.memos[i].reply.held)::zaw (s.st.memos.drop (i+1)):=by rw[Nat.add_assoc,←List.drop_drop,hat];rfl
   have hw:=zar hi (by have:=h.memos;omega)
   have hci:=zcR s.st.memos[i].reply.held.length (zaF s.st.memos[i].reply.held) zaU (by have:=(h.held _ (List.getElem_mem hi)).1;omega)
   have hset:=zbL Memo.enc 6 (fun _=>rfl) hi (k:=5) (by decide) (.sl s.st.memos[i].reply.held.length (zaF s.st.memos[i].reply.held)) s.st.memos[i] rfl
   rw[List.set_getElem_self,show i*6+5=i*6+2+3 from rfl]at hset
   repeat'(first|refine zq (I hat2 (I hset (I @zmd (I @List.map_cons.{0,0} @zan)))) ?_|exact zd (I hat2 (I hset (I @zmd (I @List.map_cons.{0,0} @zan))))|refine zc (hci) ?_|refine zg (hci) ?_|(refine zaa ?_ ?_<;>intro hb)|(refine And.intro ?_ ?_;exact zI)|(refine And.intro ?_ ?_<;>intro hg)|exact zC|fail)
   exact hK _ (i+1) (Gh.canon [1,2] [] [] (zk hw) rfl rfl) hi rfl (by omega)
  ·have hi:i=s.st.memos.length:=by
    have:¬(i:Int)<s.st.memos.length:=by simpa using hge
    omega
   repeat'(first|refine zq0 ?_|exact zd0|(refine zaa ?_ ?_<;>intro hb)|(refine And.intro ?_ ?_;exact zI)|(refine And.intro ?_ ?_<;>intro hg)|exact zC|fail)
   rfl
theorem zvX (s:Sn):zbe [s.rf] [zvG s]:=⟨⟨.inl rfl, .inl rfl, .inl rfl, .inl rfl, .inl rfl, .inl rfl, .inr ⟨rfl,rfl,zai⟩, .inr ⟨rfl,rfl,zad⟩, .inr ⟨rfl,rfl,zan⟩,trivial⟩,trivial⟩
theorem zvY (s:St):zbe [s.rf] [zmT s]:=⟨⟨.inl rfl, .inl rfl, .inl rfl, .inr ⟨rfl,rfl,zai⟩, .inr ⟨rfl,rfl,zad⟩, .inr ⟨rfl,rfl,zan⟩,trivial⟩,trivial⟩
abbrev XS.sn (x:XS):Sn:=⟨x.done,x.view,x.slot,x.st⟩
theorem ziE (x:XS) (h:Small x.st):CallOK Tryz.prog 23 [.f x.at] (fun r o=>r=[zvG x.sn]∧o=[]):=by
 refine CallOK.nil ?_
 refine zac zaq mixed (T:=Ty) (n:=11) Tryz.func23 (c:=Tryz.f23.body.getD .skip) rfl Tryz.results23 Tryz.ntmps23 Tryz.call23 ?_
 simp only[Tryz.f23,Option.getD]
 have hc:=zhO x.sn h
 repeat'(first|refine zq0 ?_|exact zd0|refine zc (hc) ?_|refine zg (hc) ?_|(refine zaa ?_ ?_<;>intro hb)|(refine And.intro ?_ ?_;exact zI)|(refine And.intro ?_ ?_<;>intro hg)|exact zC|fail)
 exact⟨rfl,zvX x.sn⟩
theorem zoL (x:XS) (h:Small x.st):CallOK Tryz.prog 14 [.f x.at] (fun r o=>r=[zmT x.st]∧o=[]):=by
 refine CallOK.nil ?_
 refine zac zaq mixed (T:=Ty) (n:=12) Tryz.func14 (c:=Tryz.f14.body.getD .skip) rfl Tryz.results14 Tryz.ntmps14 Tryz.call14 ?_
 simp only[Tryz.f14,Option.getD]
 have hc:=zhO x.sn h
 repeat'(first|refine zq0 ?_|exact zd0|refine zc (hc) ?_|refine zg (hc) ?_|(refine zaa ?_ ?_<;>intro hb)|(refine And.intro ?_ ?_;exact zI)|(refine And.intro ?_ ?_<;>intro hg)|exact zC|fail)
 exact⟨rfl,zvY x.st⟩
structure Row where
 time:Int
 view:Int
 kind:Int
 acts:List Act
abbrev Row.enc (r:Row):List D:=[uD r.time,uD r.view,uD r.kind, .sl r.acts.length (ziL r.acts)]
abbrev zlU (l:List Row):List D:=l.flatMap Row.enc
theorem zqZ {l:List Row} {i:Nat} (hi:i<l.length):(zlU l).drop (i*4)=l[i].enc++(zlU (l.drop (i+1))):=zcz _ 4 l i hi fun _=>rfl
theorem zkX {l:List Row}:(zlU l).length=l.length*4:=zb3 _ 4 (fun _=>rfl) l
def rowOk (r:Row):Prop:=zcn r.time∧zcn r.view∧zcn r.kind∧r.acts.length<2^60∧∀a∈r.acts,ziM a
def zfn (s:St):List Act→List Req→List Req
 |[],l=>l
 |a::al0,l=>if decide ((l.length:Int)<3)=true then(if(l.any fun o=>o.client==(zg1 s a).client)=true then zfn s al0 l else zfn s al0 (l++[zg1 s a]))else l
def zbw (x:XS) (r:Row):Batch:=
 if(r.kind % 8==7)=true then⟨true,0,⟨0,0⟩,0,[]⟩else
 ⟨false,x.view+r.view % 3,⟨x.view,if(r.kind % 8==6)=true then x.slot+1 else x.slot⟩,x.st.time+r.time % 30,zfn x.st r.acts []⟩
theorem ziJ (n:Int):nameP (zge n)=true:=by
 unfold zge
 rcases six n with h|h|h|h|h|h<;>rw[h]<;>rfl
theorem zkk {k n:Int} {s:ByteArray} (hk:1≤k∧k≤6) (hs:(k==3||k==4||k==5)=true→nameP s=true) (hs2:(k==3||k==4||k==5)=false→s.toList=[]) (hn:k=1→n=0) (hn2:k≠1→1≤n∧n≤zaS):zjW k n s=true:=by
 unfold zjW
 rw[if_neg (by simp;omega)]
 have h2:¬((k==3||k==4||k==5)&& !nameP s|| !(k==3||k==4||k==5)&& !s.toList==(⟨#[]⟩:ByteArray).toList)=true:=by
  cases hc:(k==3||k==4||k==5)
  ·rw[hs2 hc];simp
  ·rw[hs hc];simp
 rw[if_neg h2]
 split
 ·rename_i h;have h:k=1:=by simpa using h
  rw[hn h];rfl
 ·rename_i h;have h:k≠1:=by simpa using h
  have:=hn2 h
  have hH:zaS=2305843009213693952:=rfl
  simp;omega
theorem zdJ:(ByteArray.empty).toList=[]:=by kernel_rfl
theorem zoP {c q k s n:Int} (h2:0≤q∧q<6):Req.may (zoT c q k s n)=true:=by
 have hH:zaS=2305843009213693952:=rfl
 have hm:zjW (zdI k) (zfN k s) (zeS k n)=true:=by
  refine zkk (by unfold zdI;omega) (fun h=> ?_) (fun h=> ?_) (fun h=> ?_) (fun h=> ?_)
  ·unfold zeS;rw[if_pos h];exact ziJ n
  ·unfold zeS;rw[if_neg (by rw[h];simp)];exact zdJ
  ·unfold zfN;rw[if_pos h]
  ·unfold zfN;rw[if_neg h];omega
 show(decide (c % 8≥0)&&decide (c % 8<8)&&decide (1+q≥1)&&decide (1+q≤zaS)&&zjW (zdI k) (zfN k s) (zeS k n))=true
 rw[hm]
 simp
 omega
theorem zoQ {s:St} (hr:RightS s) {i:Nat} (hq:SqB s i) (hi:i≤1000) {a:Act} (ha:ziM a):Req.may (zg1 s a)=true:=by
 have hH:zaS=2305843009213693952:=rfl
 obtain⟨_,h1,h2,h3,h4,h5⟩:=ha
 have hsq:=zmN hq a
 have hN:=zoP (c:=a.client) (q:=a.seq % 6) (k:=a.kind) (s:=a.session) (n:=a.name) (by omega)
 have hseq:1≤(zg1 s a).seq:=by
  unfold zg1
  simp only
  split
  ·split
   ·rename_i hs
    obtain⟨m,hm⟩:=Option.isSome_iff_exists.1 hs
    rw[hm]
    have:=hr.mok m (List.mem_of_find?_eq_some hm)
    unfold answerB at this
    simp at this
    simp only[Option.getD_some];omega
   ·omega
  ·unfold zoT;simp only;omega
 have hcl:(zg1 s a).client=a.client % 8:=rfl
 have hmay:zjW (zg1 s a).kind (zg1 s a).session (zg1 s a).name=true:=by
  have hN':zjW (zdI a.kind) (zfN a.kind a.session) (zeS a.kind a.name)=true:=by
   have:(decide (a.client % 8≥0)&&decide (a.client % 8<8)&&decide (1+a.seq % 6≥1)&&decide (1+a.seq % 6≤zaS)&&zjW (zdI a.kind) (zfN a.kind a.session) (zeS a.kind a.name))=true:=hN
   simp only[Bool.and_eq_true]at this
   exact this.2
  unfold zg1
  simp only
  split
  ·exact zkk (by omega) (fun h=>by simp at h) (fun _=>zdJ) (fun _=>rfl) (fun h=>absurd rfl h)
  ·rename_i hb2
   split
   ·rename_i hb1
    simp only[Bool.and_eq_true]at hb1
    obtain⟨⟨hb1,_⟩,hk⟩:=hb1
    obtain⟨x,hx⟩:=Option.isSome_iff_exists.1 hb1
    have hkp:(zoT a.client (a.seq % 6) a.kind a.session a.name).kind=zdI a.kind:=rfl
    have hnm:(zoT a.client (a.seq % 6) a.kind a.session a.name).name=zeS a.kind a.name:=rfl
    rw[hx,hkp,hnm]
    have hk:zdI a.kind≠1:=by simpa[hkp]using hk
    obtain⟨_,f2,_⟩:=zbP.1 (hr.sok x (List.mem_of_find?_eq_some hx)).1
    refine zkk (by unfold zdI;omega) (fun h=> ?_) (fun h=> ?_) (fun h=>absurd h hk) (fun _=>by simp only[Option.getD_some];omega)
    ·unfold zeS;rw[if_pos h];exact ziJ _
    ·unfold zeS;rw[if_neg (by rw[h];simp)];exact zdJ
   ·exact hN'
 unfold Req.may
 rw[hmay,hcl]
 simp
 omega
theorem zew {s:St} (hr:RightS s) {i:Nat} (hq:SqB s i) (hi:i≤1000):∀{al0:List Act} {l:List Req},(∀a∈al0,ziM a)→l.length≤3→(∀r∈l,Req.may r=true∧r.seq≤6+i+1∧r.ok)→(l.Pairwise fun a b=>a.client≠b.client)→
  (zfn s al0 l).length≤3∧(∀r∈zfn s al0 l,Req.may r=true∧r.seq≤6+i+1∧r.ok)∧(zfn s al0 l).Pairwise fun a b=>a.client≠b.client
 |[],l,_,h1,h2,h3=>⟨h1,h2,h3⟩
 |a::al0,l,ha,h1,h2,h3=>by
  rw[zfn]
  split
  ·rename_i hlt
   have hlt:l.length<3:=by simp at hlt;omega
   split
   ·exact zew hr hq hi (fun x hx=>ha x (by simp[hx])) h1 h2 h3
   ·rename_i hany
    have hany:∀o∈l,o.client≠(zg1 s a).client:=fun o ho hc=>hany (List.any_eq_true.2 ⟨o,ho,by simpa using hc⟩)
    refine zew hr hq hi (fun x hx=>ha x (by simp[hx])) (by simp only[List.length_append,List.length_singleton];omega) (fun r hx=> ?_) (List.pairwise_append.2 ⟨h3,by simp,fun x hx y hy=> ?_⟩)
    ·rcases List.mem_append.1 hx with hx|hx
     ·exact h2 r hx
     ·simp only[List.mem_singleton]at hx
      subst hx
      exact⟨zoQ hr hq hi (ha a (by simp)),zmN hq a,zq1 hr (ha a (by simp))⟩
    ·simp only[List.mem_singleton]at hy
     subst hy
     exact hany x hx
  ·exact⟨h1,h2,h3⟩
structure XMk (x:XS) (i:Nat):Prop where
 rt:RightS x.st
 num:x.st.num≤3*i
 tok:x.st.token≤16*i
 time:x.st.time≤30*i
 view:0≤x.view∧x.view≤3*i
 slot:0≤x.slot∧x.slot≤i
 done:x.done=i
 sq:SqB x.st (3*i)
 lease:x.lease=60
theorem zdK {x:XS} {i:Nat} (h:XMk x i) (hi:i≤100) {r:Row} (hr:rowOk r):Batch.may (zbw x r)=true∧(zbw x r).ok∧(zbw x r).reqs.length≤3∧((zbw x r).fill=false→(∀q∈(zbw x r).reqs,q.seq≤6+(3*i:Nat)+1)∧
  ((zbw x r).view≤x.view+2∧x.view≤(zbw x r).view)∧((zbw x r).time≤x.st.time+29∧x.st.time≤(zbw x r).time)∧(zbw x r).tip.view=x.view):=by
 have hH:zaS=2305843009213693952:=rfl
 obtain⟨r1,r2,r3,r4,r5⟩:=hr
 unfold zbw
 split
 ·refine⟨rfl,⟨by unfold i64;simp,by unfold i64;simp,by unfold i64;simp,by unfold i64;simp,by simp,by simp⟩,by simp,fun h=>by cases h⟩
 ·have hf:=zew h.rt h.sq (by omega) (al0:=r.acts) (l:=[]) r5 (by simp) (by simp) List.Pairwise.nil
  obtain⟨f1,f2,f3⟩:=hf
  have hv:=h.view
  have hs:=h.slot
  have ht:=h.time
  have ht0:=h.rt.time
  have hsl:0≤(if(r.kind % 8==6)=true then x.slot+1 else x.slot)∧(if(r.kind % 8==6)=true then x.slot+1 else x.slot)≤i+1:=by split<;>omega
  refine⟨zfG rfl (by simp only;omega) (by simp only;omega) (by simp only;omega) (by simp only;omega) f1 (fun q hq=>(f2 q hq).1) f3,⟨by unfold i64;simp only;omega,by unfold i64;simp only;omega,by unfold i64;simp only;omega,by unfold i64;simp only;omega,by simp only;omega,fun q hq=>(f2 q hq).2.2⟩,f1,fun _=>⟨fun q hq=>(f2 q hq).2.1,by simp only;omega,by simp only;omega,rfl⟩⟩
theorem zkl (s:St) (t:Int):zbR s t=s.time∨zbR s t=t∧s.time<t∧t≤zaS:=by
 unfold zbR
 split
 ·rename_i h;simp at h;exact .inr ⟨rfl,h⟩
 ·exact .inl rfl
theorem zdt {x:XS} {b:Batch} (h:zde x b=true):b.fill=false∧b.tip.view=x.view∧b.tip.slot=x.slot:=by
 unfold zde at h
 simp at h
 exact⟨h.1,h.2.1,h.2.2⟩
theorem zth {x:XS} {i:Nat} (h:XMk x i) (hi:i≤100) {r:Row} (hr:rowOk r):XMk (doP x (zbw x r)).1 (i+1):=by
 have hH:zaS=2305843009213693952:=rfl
 obtain⟨f1,f2,f3,f4⟩:=zdK h hi hr
 obtain⟨m1,m2,m3,m4,m5,m6,m7,m8,m9⟩:=h
 unfold doP
 rw[if_neg (by rw[f1];simp)]
 split
 ·exact⟨m1,by simp only;omega,by simp only;omega,by simp only;omega,⟨m5.1,by have:=m5.2;simp only;omega⟩,⟨m6.1,by have:=m6.2;simp only;omega⟩,by simp only;omega,fun m hm=>by have:=m8 m hm;omega,m9⟩
 ·rename_i hv
  have hv:zde x (zbw x r)=true:=by simpa using hv
  obtain⟨g1,⟨g2,g3⟩,⟨g4,g5⟩,g6⟩:=f4 (zdt hv).1
  obtain⟨e1,e2,e3,e4,e5⟩:=zgd (x:=x) (b:=zbw x r) m1 (by omega) (by omega) f3
  obtain⟨a1,a2,a3,a4,a5⟩:=zcK m1 (zbw x r).time x.lease (by omega)
  have hsq:=zqe (rs:=(zbw x r).reqs) (l:=[]) (i:=3*i) a1 (by omega) (by omega) (fun m hm=>m8 m hm) g1
  have ht:=zkl x.st (zbw x r).time
  refine⟨e1,by simp only;omega,by simp only;omega,by simp only;omega,⟨by have:=m5.1;simp only;omega,by have:=m5.2;simp only;omega⟩,by simp only;omega,by simp only;omega,fun m hm=> ?_,m9⟩
  have:=hsq m hm
  omega
theorem zti:XMk ⟨60,0,0,0,st0⟩ 0:=⟨zeR,by decide,by decide,by decide,by simp,by simp,rfl,fun m hm=>(by cases hm),rfl⟩
theorem reqsE_snoc {l:List Req} {r:Req}:zbM (l++[r])=zbM l++r.enc:=by simp[zbM]
theorem reqs_take {l:List Req}:(zbM l).take (l.length*5)=zbM l:=zcy Req.enc 5 (fun _=>rfl) l
theorem zoM {l:List Req} {k:Nat} (hk:k<l.length) (c:Int) (b:Bool):(b||(l.drop k).any fun o=>o.client==c)=((b||(l[k].client==c))||(l.drop (k+1)).any fun o=>o.client==c):=by
 rw[List.drop_eq_getElem_cons hk,List.any_cons,Bool.or_assoc]
abbrev ztz (r:Row):Nat×RS:=(3,{next:=2,l:=[some {e:=1,var:=true,fz:=false,sz:=0,cells:=[.d (uD r.time), .d (uD r.view), .d (uD r.kind), .d (.sl r.acts.length (ziL r.acts))]},none,none,none,none]})
abbrev ztA:Nat×RS:=(4,{next:=2,l:=[some {e:=1,var:=true,fz:=false,sz:=0,cells:=[db false,di 0,di 0,di 0,di 0, .d (.v (.slice none 0 0))]},none,none,none,none,none,none]})
set_option maxHeartbeats 4000000 in
theorem zmM (x:XS) (hsm:Small x.st) (hr:RightS x.st) (r:Row) (h3:r.acts.length<2^60) (h5:∀a∈r.acts,ziM a) (V S Z:Int) (B:Batch) (hB:B=⟨false,V,⟨x.view,S⟩,Z,zfn x.st r.acts []⟩) (c d:Code)
  (hc:zdM 6 (Tryz.f10.body.getD .skip)=some c) (hd:zdM 17 (Tryz.f10.body.getD .skip)=some d):
  awp Ty Tryz.prog c ⟨[x.at,dd,dd, .one (.ptr ⟨3,0,1⟩ 0), .one (.ptr ⟨4,0,1⟩ 0), .one (.ptr ⟨5,0,1⟩ 0),dd,dd,dd,dd,dd,dd,dd,dd,dd,dd,dd,dd,dd,dd,dd,dd,dd,dd,dd,dd,dd,dd,dd,dd,dd,dd,dd,dd,dd,dd,dd,dd,dd,dd,dd,dd,dd,dd,dd,dd,dd,dd,dd,dd,dd,dd,dd,dd,dd,dd,dd,dd,dd,dd,dd,dd,dd,dd,dd,dd,dd,dd,dd,dd,dd,dd,dd,dd,dd,dd,dd,dd,dd,dd,dd,dd,dd,dd,dd,dd,dd,dd,dd,dd,dd,dd,dd,dd,dd,dd,dd,dd,dd,dd,dd],[ztz r,ztA,(5,{next:=2,l:=[some {e:=1,var:=true,fz:=false,sz:=0,cells:=[db false,di V,di x.view,di S,di Z, .d (.v (.slice none 0 0))]},none,none,none,none,none,none]})]⟩ (zf5 Ty Tryz.prog d (zsj Ty [.cell 4 34] [] (fun q o=>zbe q [.agg (B.enc.map RO.d)]∧o=[]))):=by
 simp only[Tryz.f10,Option.getD,zdM,Nat.reduceBEq,if_true,if_false,Bool.false_eq_true,Option.none_or,Option.some_or,Option.some.injEq]at hc hd
 subst hc hd
 repeat'(first|refine zq0 ?_|exact zd0|(refine zaa ?_ ?_<;>intro hb)|(refine And.intro ?_ ?_;exact zI)|(refine And.intro ?_ ?_<;>intro hg)|exact zC|fail)
 refine zas (τ:=Nat×List Req) (fun t=>⟨[x.at,dd,dd, .one (.ptr ⟨3,0,1⟩ 0), .one (.ptr ⟨4,0,1⟩ 0), .one (.ptr ⟨5,0,1⟩ 0),ai t.1,dd,dd,dd,dd,dd,dd,dd,dd,dd,dd,dd,dd,dd,dd,dd,dd,dd,dd,dd,dd,dd,dd,dd,dd,dd,dd,dd,dd,dd,dd,dd,dd,dd,dd,dd,dd,dd,dd,dd,dd,dd,dd,dd,dd,dd,dd,dd,dd,dd,dd,dd,dd,dd,dd,dd,dd,dd,dd,dd,dd,dd,dd,dd,dd,dd,dd,dd,dd,dd,dd,dd,dd,dd,dd,dd,dd,dd,dd,dd,dd,dd,dd,dd,dd,dd,dd,dd,dd,dd,dd,dd,dd,dd,dd],[ztz r,ztA,(5,{next:=2,l:=[some {e:=1,var:=true,fz:=false,sz:=0,cells:=[db false,di V,di x.view,di S,di Z, .own ⟨5,6,1⟩ 0 t.2.length]},none,none,none,none,none,some {e:=1,var:=false,fz:=false,sz:=5,cells:=(zbM t.2).map C.d}]}),(7,⟨2,[]⟩),(97,⟨2,[]⟩),(98,⟨2,[]⟩)]⟩)
  (fun t=>t.1≤r.acts.length∧t.2.length≤3) (fun t=>zfn x.st (r.acts.drop t.1) t.2) (fun t=>r.acts.length - t.1) (0,[])
  ((Gh.nilF 5 5 5 rfl).trans (Gh.canon [3,4,5] [7,97,98] [] (zk @zdB) rfl rfl)) ⟨Nat.zero_le _,by simp⟩ ?_
 intro⟨i,l⟩ ⟨j1,j2⟩ hF K hK
 simp only[List.drop_zero]at j1 j2 hF hK⊢
 have hF0:=hF
 have hlt3:decide ((l.length:Int)<3)=true∨decide ((l.length:Int)<3)=false:=by cases decide ((l.length:Int)<3)<;>simp
 by_cases hi:i<r.acts.length
 ·have hlb:decide ((i:Int)<r.acts.length)=true:=by simp;omega
  rw[List.drop_eq_getElem_cons hi,zfn]at hF
  rcases hlt3 with hl3|hl3
  ·rw[if_pos hl3]at hF
   have hl3':l.length<3:=by simp at hl3;omega
   have hat:=zq3 hi
   have hw:=zar hi (by omega)
   have hrq:=zlX x.st hsm hr r.acts[i] (h5 _ (List.getElem_mem hi))
   generalize zg1 x.st r.acts[i]=q at*
   repeat'(first|refine zq (I hlb (I hl3 (I hat (I @zkY zca)))) ?_|exact zd (I hlb (I hl3 (I hat (I @zkY zca))))|refine zc (hrq) ?_|refine zg (hrq) ?_|(refine zaa ?_ ?_<;>intro hb)|(refine And.intro ?_ ?_;exact zI)|(refine And.intro ?_ ?_<;>intro hg)|exact zC|fail)
   refine zas (τ:=Nat×Bool) (fun u=>⟨[x.at,dd,dd, .one (.ptr ⟨3,0,1⟩ 0), .one (.ptr ⟨4,0,1⟩ 0), .one (.ptr ⟨5,0,1⟩ 0),ai i, .one (.ptr ⟨7,0,1⟩ 0),ab u.2,ai u.1,dd,dd,dd,dd,dd,dd,dd,dd,dd,dd,dd,dd,dd,dd,dd,dd,dd,dd,dd,dd,dd,dd,dd,dd,dd,dd,dd,dd,dd,dd,dd,dd,dd,dd,dd,dd,dd,dd,dd,dd,dd,dd,dd,dd,dd,dd,dd,dd,dd,dd,dd,dd,dd,dd,dd,dd,dd,dd,dd,dd,dd,dd,dd,dd,dd,dd,dd,dd,dd,dd,dd,dd,dd,dd,dd,dd,dd,dd,dd,dd,dd,dd,dd,dd,dd,dd,dd,dd,dd,dd,dd],[ztz r,ztA,(5,{next:=2,l:=[some {e:=1,var:=true,fz:=false,sz:=0,cells:=[db false,di V,di x.view,di S,di Z, .own ⟨5,6,1⟩ 0 l.length]},none,none,none,none,none,some {e:=1,var:=false,fz:=false,sz:=5,cells:=(zbM l).map C.d}]}),(7,{next:=2,l:=[some {e:=1,var:=true,fz:=false,sz:=0,cells:=[di q.client,di q.seq,di q.kind,di q.session,dS q.name]},none,none,none,none,none]}),(97,⟨2,[]⟩),(98,⟨2,[]⟩)]⟩)
    (fun u=>u.1≤l.length) (fun u=>u.2||(l.drop u.1).any fun o=>o.client==q.client) (fun u=>l.length - u.1) (0,false)
    (Gh.canon [3,4,5,7] [] [] (zk @zdB) rfl rfl) (Nat.zero_le _) ?_
   intro⟨k,inn⟩ m1 hG K2 hK2
   simp only[List.drop_zero,Bool.false_or]at m1 hG hK2⊢
   by_cases hk:k<l.length
   ·have hkb:decide ((k:Int)<l.length)=true:=by simp;omega
    have hkat:=zeF hk
    have hkw:=zar hk (by omega)
    have hst:=zoM hk q.client inn
    cases inn
    ·cases hq:(l[k].client==q.client)
     ·rw[hq]at hst
      repeat'(first|refine zq (I hkb (I @zmd (I hkat (I hq (I @List.map_cons.{0,0} (I @za0 zca)))))) ?_|exact zd (I hkb (I @zmd (I hkat (I hq (I @List.map_cons.{0,0} (I @za0 zca))))))|(refine zaa ?_ ?_<;>intro hb)|(refine And.intro ?_ ?_;exact zI)|(refine And.intro ?_ ?_<;>intro hg)|exact zC|fail)
      refine hK2 _ (k+1,false) (Gh.canon [3,4,5,7] [] [] (zk (I hkw @zdB)) rfl rfl) hk hst.symm (by simp only;omega)
     ·rw[hq]at hst
      repeat'(first|refine zq (I hkb (I @zmd (I hkat (I hq (I @List.map_cons.{0,0} (I @za0 zca)))))) ?_|exact zd (I hkb (I @zmd (I hkat (I hq (I @List.map_cons.{0,0} (I @za0 zca))))))|(refine zaa ?_ ?_<;>intro hb)|(refine And.intro ?_ ?_;exact zI)|(refine And.intro ?_ ?_<;>intro hg)|exact zC|fail)
      refine hK2 _ (k+1,true) (Gh.canon [3,4,5,7] [] [] (zk (I hkw @zdB)) rfl rfl) hk hst.symm (by simp only;omega)
    ·repeat'(first|refine zq (I hkb (I @zmd (I hkat (I @List.map_cons.{0,0} (I @za0 zca))))) ?_|exact zd (I hkb (I @zmd (I hkat (I @List.map_cons.{0,0} (I @za0 zca)))))|(refine zaa ?_ ?_<;>intro hb)|(refine And.intro ?_ ?_;exact zI)|(refine And.intro ?_ ?_<;>intro hg)|exact zC|fail)
     refine hK2 _ (k+1,true) (Gh.canon [3,4,5,7] [] [] (zk (I hkw @zdB)) rfl rfl) hk (by simp) (by simp only;omega)
   ·have hk':k=l.length:=by omega
    have hkb:decide ((k:Int)<l.length)=false:=by simp;omega
    rw[hk',List.drop_length,List.any_nil,Bool.or_false]at hG
    cases inn
    ·rw[if_neg (by rw[←hG];simp)]at hF
     have hle:((l.length+1)*48≤2^47)=True:=eq_true (by omega)
     repeat'(first|refine zq (I hkb (I hle @reqs_take)) ?_|exact zd (I hkb (I hle @reqs_take))|(refine zaa ?_ ?_<;>intro hb)|(refine And.intro ?_ ?_;exact zI)|(refine And.intro ?_ ?_<;>intro hg)|exact zC|fail)
     refine hK _ (i+1,l++[q]) (Gh.canon [3,4,5] [] [] (zk (I hw (I @zdB (I @List.length_append.{0} @List.length_singleton.{0})))) rfl (by simp only[List.length_append,List.length_singleton];rw[reqsE_snoc];rfl)) ⟨hi,by simp only[List.length_append,List.length_singleton];omega⟩ (hF.trans hF0.symm) (by simp only;omega)
    ·rw[if_pos hG.symm]at hF
     repeat'(first|refine zq hkb ?_|exact zd hkb|(refine zaa ?_ ?_<;>intro hb)|(refine And.intro ?_ ?_;exact zI)|(refine And.intro ?_ ?_<;>intro hg)|exact zC|fail)
     refine hK _ (i+1,l) (Gh.canon [3,4,5] [] [] (zk (I hw @zdB)) rfl rfl) ⟨hi,j2⟩ (hF.trans hF0.symm) (by simp only;omega)
  ·rw[if_neg (by rw[hl3];simp)]at hF
   repeat'(first|refine zq (I hlb hl3) ?_|exact zd (I hlb hl3)|(refine zaa ?_ ?_<;>intro hb)|(refine And.intro ?_ ?_;exact zI)|(refine And.intro ?_ ?_<;>intro hg)|exact zC|fail)
   rw[hB,←hF]
   exact⟨⟨.inl rfl, .inl rfl, .inl rfl, .inl rfl, .inl rfl, .inr ⟨rfl,rfl,za0⟩,trivial⟩,trivial⟩
 ·have hi':i=r.acts.length:=by omega
  have hlb:decide ((i:Int)<r.acts.length)=false:=by simp;omega
  rw[hi',List.drop_length,zfn]at hF
  repeat'(first|refine zq hlb ?_|exact zd hlb|(refine zaa ?_ ?_<;>intro hb)|(refine And.intro ?_ ?_;exact zI)|(refine And.intro ?_ ?_<;>intro hg)|exact zC|fail)
  rw[hB,←hF]
  exact⟨⟨.inl rfl, .inl rfl, .inl rfl, .inl rfl, .inl rfl, .inr ⟨rfl,rfl,za0⟩,trivial⟩,trivial⟩
set_option maxHeartbeats 4000000 in
theorem zke (x:XS) (hsm:Small x.st) (hr:RightS x.st) (hv:0≤x.view∧x.view≤zaS) (hs:0≤x.slot∧x.slot<2^60) (r:Row) (h:rowOk r):
  CallOK Tryz.prog 10 [.f x.at, .f (.agg [.d (uD r.time), .d (uD r.view), .d (uD r.kind), .d (.sl r.acts.length (ziL r.acts))])] (fun q o=>q=[.agg ((zbw x r).enc.map RO.d)]∧o=[]):=by
 have hH:zaS=2305843009213693952:=rfl
 refine CallOK.nil ?_
 refine zac zaq mixed (T:=Ty) (n:=101) Tryz.func10 (c:=Tryz.f10.body.getD .skip) rfl Tryz.results10 Tryz.ntmps10 Tryz.call10 ?_
 simp only[Tryz.f10,Option.getD]
 obtain⟨h1,h2,h3,h4,h5⟩:=h
 have ht0:=hr.time
 have tk:r.kind.tmod 8=r.kind % 8:=zb7 h3.1 8
 cases k7:(r.kind % 8==7)
 case true=>
  have hb:zbw x r=⟨true,0,⟨0,0⟩,0,[]⟩:=by unfold zbw;rw[if_pos k7]
  rw[hb]
  repeat'(first|refine zq (I tk k7) ?_|exact zd (I tk k7)|(refine zaa ?_ ?_<;>intro hb)|(refine And.intro ?_ ?_;exact zI)|(refine And.intro ?_ ?_<;>intro hg)|exact zC|fail)
  simp[zbe,zdd,zbn,zaV]
 have hv0:=zcB h2
 have hv1:r.view.tmod 3=r.view % 3:=zb7 h2.1 3
 have ht1:=zcB h1
 have ht2:r.time.tmod 30=r.time % 30:=zb7 h1.1 30
 have hw1:IntKind.i64.wrap (x.view+r.view % 3)=x.view+r.view % 3:=wrap64 (by omega) (by omega)
 have hw2:IntKind.i64.wrap (x.st.time+r.time % 30)=x.st.time+r.time % 30:=wrap64 (by omega) (by omega)
 have hw3:IntKind.i64.wrap (x.slot+1)=x.slot+1:=wrap64 (by omega) (by omega)
 have hb:zbw x r=⟨false,x.view+r.view % 3,⟨x.view,if(r.kind % 8==6)=true then x.slot+1 else x.slot⟩,x.st.time+r.time % 30,zfn x.st r.acts []⟩:=by unfold zbw;rw[if_neg (by rw[k7];simp)]
 rw[hb]
 obtain⟨V,hV⟩:∃V,V=x.view+r.view % 3:=⟨_,rfl⟩
 obtain⟨Z,hZ⟩:∃Z,Z=x.st.time+r.time % 30:=⟨_,rfl⟩
 rw[←hV]at hw1⊢
 rw[←hZ]at hw2⊢
 obtain⟨S,hS⟩:∃S,S=if(r.kind % 8==6)=true then x.slot+1 else x.slot:=⟨_,rfl⟩
 rw[←hS]
 have tail:=zmM x hsm hr r h4 h5 V S Z ⟨false,V,⟨x.view,S⟩,Z,zfn x.st r.acts []⟩ rfl
 cases k6:(r.kind % 8==6)
 ·rw[k6]at hS
  have hS:S=x.slot:=hS
  repeat'(first|(with_reducible first|refine zaW 6 ?_|refine zaJ 6 ?_|refine zaK 6 ?_)|refine zu (I tk (I k7 (I k6 (I hv0 (I hv1 (I ht1 (I ht2 (I (Eq.symm hV) (I hw1 (I (Eq.symm hZ) hw2)))))))))) ?_|exact zd (I tk (I k7 (I k6 (I hv0 (I hv1 (I ht1 (I ht2 (I (Eq.symm hV) (I hw1 (I (Eq.symm hZ) hw2))))))))))|(with_reducible first|refine zab _ _ ?_)|(refine zaa ?_ ?_<;>intro hb)|(refine And.intro ?_ ?_;exact zI)|(refine And.intro ?_ ?_<;>intro hg)|exact zC|fail)
  refine znh ?_ (tail _ _ (by kernel_rfl) (by kernel_rfl))
  rw[hS]
  exact Gh.canon [3,4,5] [] [] (zk @zdB) rfl rfl
 ·rw[k6]at hS
  have hS:S=x.slot+1:=hS
  repeat'(first|(with_reducible first|refine zaW 6 ?_|refine zaJ 6 ?_|refine zaK 6 ?_)|refine zu (I tk (I k7 (I k6 (I hv0 (I hv1 (I ht1 (I ht2 (I (Eq.symm hV) (I hw1 (I (Eq.symm hZ) (I hw2 hw3))))))))))) ?_|exact zd (I tk (I k7 (I k6 (I hv0 (I hv1 (I ht1 (I ht2 (I (Eq.symm hV) (I hw1 (I (Eq.symm hZ) (I hw2 hw3)))))))))))|(with_reducible first|refine zab _ _ ?_)|(refine zaa ?_ ?_<;>intro hb)|(refine And.intro ?_ ?_;exact zI)|(refine And.intro ?_ ?_<;>intro hg)|exact zC|fail)
  refine znh ?_ (tail _ _ (by kernel_rfl) (by kernel_rfl))
  rw[hS]
  exact Gh.canon [3,4,5] [] [] (zk @zdB) rfl rfl
end Go.Proofs.YtngleemijkaeoaaGreat
