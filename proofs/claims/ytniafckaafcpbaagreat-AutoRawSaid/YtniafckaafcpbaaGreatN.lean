import Derived.Test.YtniafckaafcpbaaGreatM
import Derived.Test.YtniafckaafcpbaaGreatK8
namespace Go.Proofs.YtniafckaafcpbaaGreat
open Go.Pk
set_option maxRecDepth 100000
set_option linter.unusedSimpArgs false
set_option linter.unusedVariables false
def cmpB (a b:ByteArray):Int:=Lib.compareBytes a.data.toList b.data.toList
theorem zlg {a b:ByteArray}:cmpB a b<0↔bLess a b=true:=by
 unfold cmpB bLess
 rw[zbF,zb9,zb9]
 split
 ·simp[*]
 ·split<;>simp[*]
theorem zlh {a b:ByteArray}:(cmpB a b==0)=(a.toList==b.toList):=by
 unfold cmpB
 rw[zbF,←zb9,←zb9,Bool.eq_iff_iff]
 simp only[beq_iff_eq]
 constructor
 ·intro h
  split at h
  ·cases h
  ·split at h
   ·cases h
   ·rename_i h1 h2
    exact ziu (by simpa using h1) (by simpa using h2)
 ·intro h
  rw[h,zeM];simp
theorem zhE (a b:ByteArray):CallOK Tryz.prog 145 [.f (ast a), .f (ast b)] (fun r o=>r=[ri (cmpB a b)]∧o=[]):=by
 refine zak zaA mixed (T:=Ty) (n:=8) Tryz.func145 (c:=Tryz.f145.body.getD .skip) rfl Tryz.results145 Tryz.ntmps145 Tryz.call145 ?_
 simp only[Tryz.f145,Option.getD]
 repeat'(first|(with_reducible first|refine zaa _ _ ?_|refine zae ?_|refine zaf ?_)|rw[zad]|simp only[zY,Int.reduceEq,Int.reduceBEq,Int.reduceBNe,Nat.reduceSub,Nat.reduceEqDiff,Nat.reduceAdd,Nat.reduceMul,Nat.reduceLeDiff,Nat.reduceLT,Nat.reduceBEq,reduceCtorEq]|refine zab ?_|refine zac (fun hb=> ?_) (fun hb=> ?_)|(refine And.intro ?_ ?_;exact zI)|refine And.intro (fun hg=> ?_) (fun hg=> ?_)|exact zC|fail)
 refine zer (zkm Tryz.func149 (by kernel_rfl) (by kernel_rfl) (by kernel_rfl) (by kernel_rfl) rfl rfl rfl rfl) ?_
 repeat'(first|(with_reducible first|refine zaa _ _ ?_|refine zae ?_|refine zaf ?_)|rw[zad]|simp only[zY,Int.reduceEq,Int.reduceBEq,Int.reduceBNe,Nat.reduceSub,Nat.reduceEqDiff,Nat.reduceAdd,Nat.reduceMul,Nat.reduceLeDiff,Nat.reduceLT,Nat.reduceBEq,reduceCtorEq]|refine zab ?_|refine zac (fun hb=> ?_) (fun hb=> ?_)|(refine And.intro ?_ ?_;exact zI)|refine And.intro (fun hg=> ?_) (fun hg=> ?_)|exact zC|fail)
 rfl
theorem zdV (a b:ByteArray):CallOK Tryz.prog 137 [.f (ast a), .f (ast b)] (fun r o=>r=[ri (cmpB a b)]∧o=[]):=by
 refine zak zaA mixed (T:=Ty) (n:=8) Tryz.func137 (c:=Tryz.f137.body.getD .skip) rfl Tryz.results137 Tryz.ntmps137 Tryz.call137 ?_
 simp only[Tryz.f137,Option.getD]
 repeat'(first|(with_reducible first|refine zaa _ _ ?_|refine zae ?_|refine zaf ?_)|rw[zad]|simp only[zY,Int.reduceEq,Int.reduceBEq,Int.reduceBNe,Nat.reduceSub,Nat.reduceEqDiff,Nat.reduceAdd,Nat.reduceMul,Nat.reduceLeDiff,Nat.reduceLT,Nat.reduceBEq,reduceCtorEq]|((first|((try refine zai ?_);apply zaj)|(apply zah;intro _));(solve|exact(zhE a b)|(refine CallOK.le (zhE a b) ?_;exact zM)|fail);try case hn=>rfl)|refine zab ?_|refine zac (fun hb=> ?_) (fun hb=> ?_)|(refine And.intro ?_ ?_;exact zI)|refine And.intro (fun hg=> ?_) (fun hg=> ?_)|exact zC|fail)
theorem zjO (k:Lk) (s:ByteArray):CallOK Tryz.prog 136 [.f (lockAV k), .f (ast s)] (fun r o=>r=[ri (cmpB k.name s)]∧o=[]):=by
 refine zak zaA mixed (T:=Ty) (n:=9) Tryz.func136 (c:=Tryz.f136.body.getD .skip) rfl Tryz.results136 Tryz.ntmps136 Tryz.call136 ?_
 simp only[Tryz.f136,Option.getD]
 repeat'(first|(with_reducible first|refine zaa _ _ ?_|refine zae ?_|refine zaf ?_)|rw[zad]|simp only[zY,Int.reduceEq,Int.reduceBEq,Int.reduceBNe,Nat.reduceSub,Nat.reduceEqDiff,Nat.reduceAdd,Nat.reduceMul,Nat.reduceLeDiff,Nat.reduceLT,Nat.reduceBEq,reduceCtorEq]|((first|((try refine zai ?_);apply zaj)|(apply zah;intro _));(solve|exact(zdV k.name s)|(refine CallOK.le (zdV k.name s) ?_;exact zM)|fail);try case hn=>rfl)|refine zab ?_|refine zac (fun hb=> ?_) (fun hb=> ?_)|(refine And.intro ?_ ?_;exact zI)|refine And.intro (fun hg=> ?_) (fun hg=> ?_)|exact zC|fail)
theorem zhF (l:List Lk) (hs:SL l) (hl:l.length<2^62) (s:ByteArray):CallOK Tryz.prog 113 [.f (al l.length (locksE l)), .f (ast s)] (fun r o=>r=[ri (posL l s),rb (findL l s).isSome]∧o=[]):=by
 refine zak zaA mixed (T:=Ty) (n:=11) Tryz.func113 (c:=Tryz.f113.body.getD .skip) rfl Tryz.results113 Tryz.ntmps113 Tryz.call113 ?_
 simp only[Tryz.f113,Option.getD]
 have h:=zgW l hl s (fun x=>cmpB x.name s) 136 (posL l s) zbw
  (fun j hj h=>zlg.2 (zd0 hj h))
  (fun j hj h=>by
   have h1:=zd1 hj (zf3 hs s) h
   have h2:= @zlg l[j].name s
   rw[h1]at h2
   have h3:¬cmpB l[j].name s<0:=by rw[h2];simp
   omega) (fun x _=>zjO x s)
 have e:((l[posL l s]?.map fun x=>cmpB x.name s==0).getD false)=(findL l s).isSome:=by
  rw[zgQ hs,zgz]
  simp only[zlh]
  rfl
 rw[e]at h
 repeat'(first|(with_reducible first|refine zaa _ _ ?_|refine zae ?_|refine zaf ?_)|rw[zad]|simp only[zY,Int.reduceEq,Int.reduceBEq,Int.reduceBNe,Nat.reduceSub,Nat.reduceEqDiff,Nat.reduceAdd,Nat.reduceMul,Nat.reduceLeDiff,Nat.reduceLT,Nat.reduceBEq,reduceCtorEq]|((first|((try refine zai ?_);apply zaj)|(apply zah;intro _));(solve|exact(h)|(refine CallOK.le (h) ?_;exact zM)|fail);try case hn=>rfl)|refine zab ?_|refine zac (fun hb=> ?_) (fun hb=> ?_)|(refine And.intro ?_ ?_;exact zI)|refine And.intro (fun hg=> ?_) (fun hg=> ?_)|exact zC|fail)
theorem zd9 (l:List Lk) (hl:l.length<2^30) (hll:∀k∈l,k.line.length<2^30):CallOK Tryz.prog 100 [.f (al l.length (locksE l))] (fun r o=>r=[.one (.own 4 l.length (locksE l) false)]∧o=[]):=by
 refine zak zaA mixed (T:=Ty) (n:=24) Tryz.func100 (c:=Tryz.f100.body.getD .skip) rfl Tryz.results100 Tryz.ntmps100 Tryz.call100 ?_
 simp only[Tryz.f100,Option.getD]
 have hcn:=zfs l.length (locksE l) zam (by omega)
 repeat'(first|(with_reducible first|refine zaa _ _ ?_|refine zae ?_|refine zaf ?_)|rw[zad]|simp only[zam,zY,Int.reduceEq,Int.reduceBEq,Int.reduceBNe,Nat.reduceSub,Nat.reduceEqDiff,Nat.reduceAdd,Nat.reduceMul,Nat.reduceLeDiff,Nat.reduceLT,Nat.reduceBEq,reduceCtorEq]|((first|((try refine zai ?_);apply zaj)|(apply zah;intro _));(solve|exact(hcn)|(refine CallOK.le (hcn) ?_;exact zM)|fail);try case hn=>rfl)|refine zab ?_|refine zac (fun hb=> ?_) (fun hb=> ?_)|(refine And.intro ?_ ?_;exact zI)|refine And.intro (fun hg=> ?_) (fun hg=> ?_)|exact zC|fail)
 refine zau (τ:=Nat) (fun i=>⟨[dd,dd,dd, .one (.own ⟨3,1,1⟩ 0 l.length),dd,dd,dd,dd,ai l.length,ai i,dd,dd,dd,dd,dd,dd,dd,dd,dd,dd,dd,dd,dd,dd],[(6,⟨2,[]⟩),(3,{next:=2,l:=[none,some {e:=1,var:=false,fz:=false,sz:=4,cells:=(locksE l).map C.d}]}),(19,⟨2,[]⟩)]⟩)
  (fun i=>i≤l.length) (fun _=>()) (fun i=>l.length - i) 0
  (Gh.canon [3] [19] [] zK rfl rfl) (Nat.zero_le _) ?_
 intro i hi0 hF K hK
 repeat(first|with_reducible refine zaa _ _ ?_|with_reducible refine And.imp_right (zaa _ _) ?_|with_reducible refine And.imp_right (And.imp_right (zaa _ _)) ?_|with_reducible refine And.imp_right (And.imp_right (And.imp_right (zaa _ _))) ?_|rw[zad]|simp only[zB,Nat.reduceSub,Nat.reduceEqDiff,Nat.reduceAdd,Nat.reduceMul,Nat.reduceLeDiff,Nat.reduceLT,Nat.reduceBEq,reduceCtorEq])
 refine zac (fun hlt=> ?_) (fun hge=> ?_)
 ·have hi:i<l.length:=by simpa using hlt
  have hat:=zaG hi
  have hat2:(locksE l).drop (i*4+3)= .sl l[i].line.length (intsE l[i].line)::locksE (l.drop (i+1)):=by rw[←List.drop_drop,hat];rfl
  have hw:=zat hi (by omega)
  have hci:=zcf l[i].line.length (intsE l[i].line) zaw (by have:=hll _ (List.getElem_mem hi);omega)
  have hset:=zbr Lk.enc 4 (fun _=>rfl) hi (k:=3) (by decide) (.sl l[i].line.length (intsE l[i].line)) l[i] rfl
  rw[List.set_getElem_self]at hset
  repeat'(first|(with_reducible first|refine zaa _ _ ?_|refine zae ?_|refine zaf ?_)|rw[zad]|simp only[hat2,hset,←List.map_drop,List.map_cons,zam,zY,Int.reduceEq,Int.reduceBEq,Int.reduceBNe,Nat.reduceSub,Nat.reduceEqDiff,Nat.reduceAdd,Nat.reduceMul,Nat.reduceLeDiff,Nat.reduceLT,Nat.reduceBEq,reduceCtorEq]|((first|((try refine zai ?_);apply zaj)|(apply zah;intro _));(solve|exact(hci)|(refine CallOK.le (hci) ?_;exact zM)|fail);try case hn=>rfl)|refine zab ?_|refine zac (fun hb=> ?_) (fun hb=> ?_)|(refine And.intro ?_ ?_;exact zI)|refine And.intro (fun hg=> ?_) (fun hg=> ?_)|exact zC|fail)
  exact hK _ (i+1) (Gh.canon [3] [] [] (by simp only[hw,zan,zaz,zao,zaq,zar,zas,List.set_cons_zero,List.set_cons_succ,and_true,true_and,Int.natCast_zero,Int.cast_ofNat_Int,D.v.injEq,Value.int.injEq];try(repeat'(first|rfl|omega|with_reducible apply And.intro))) rfl rfl) hi rfl (by omega)
 ·have hi:i=l.length:=by
   have:¬(i:Int)<l.length:=by simpa using hge
   omega
  repeat'(first|(with_reducible first|refine zaa _ _ ?_|refine zae ?_|refine zaf ?_)|rw[zad]|simp only[zY,Int.reduceEq,Int.reduceBEq,Int.reduceBNe,Nat.reduceSub,Nat.reduceEqDiff,Nat.reduceAdd,Nat.reduceMul,Nat.reduceLeDiff,Nat.reduceLT,Nat.reduceBEq,reduceCtorEq]|refine zab ?_|refine zac (fun hb=> ?_) (fun hb=> ?_)|(refine And.intro ?_ ?_;exact zI)|refine And.intro (fun hg=> ?_) (fun hg=> ?_)|exact zC|fail)
theorem znV (l:List Int) (hl:l.length<2^30):CallOK Tryz.prog 131 [.f (al l.length (intsE l))] (fun r o=>r=[ri (l.headD 0),rowI l.tail,rb (!l.isEmpty)]∧o=[]):=by
 refine CallOK.nil ?_
 refine zak zaA mixed (T:=Ty) (n:=14) Tryz.func131 (c:=Tryz.f131.body.getD .skip) rfl Tryz.results131 Tryz.ntmps131 Tryz.call131 ?_
 simp only[Tryz.f131,Option.getD]
 cases l with
 |nil=>
  have h0:(((0:Nat):Int)==0)=true:=rfl
  repeat'(first|(with_reducible first|refine zaa _ _ ?_|refine zae ?_|refine zaf ?_)|rw[zad]|simp only[List.length_nil,h0,zY,Int.reduceEq,Int.reduceBEq,Int.reduceBNe,Nat.reduceSub,Nat.reduceEqDiff,Nat.reduceAdd,Nat.reduceMul,Nat.reduceLeDiff,Nat.reduceLT,Nat.reduceBEq,reduceCtorEq]|refine zab ?_|refine zac (fun hb=> ?_) (fun hb=> ?_)|(refine And.intro ?_ ?_;exact zI)|refine And.intro (fun hg=> ?_) (fun hg=> ?_)|exact zC|fail)
  simp[rfs3,rowI,roLe]
 |cons c l=>
  have h0:(((l.length+1:Nat):Int)==0)=false:=by simp;omega
  have hcn:=zcf l.length (intsE l) zaw (by simp at hl;omega)
  have hn:l.length+1 - 1=l.length:=rfl
  repeat'(first|(with_reducible first|refine zaa _ _ ?_|refine zae ?_|refine zaf ?_)|rw[zad]|simp only[List.length_cons,h0,hn,zaw,List.flatMap_cons,List.cons_append,List.nil_append,zY,Int.reduceEq,Int.reduceBEq,Int.reduceBNe,Nat.reduceSub,Nat.reduceEqDiff,Nat.reduceAdd,Nat.reduceMul,Nat.reduceLeDiff,Nat.reduceLT,Nat.reduceBEq,reduceCtorEq]|((first|((try refine zai ?_);apply zaj)|(apply zah;intro _));(solve|exact(hcn)|(refine CallOK.le (hcn) ?_;exact zM)|fail);try case hn=>rfl)|refine zab ?_|refine zac (fun hb=> ?_) (fun hb=> ?_)|(refine And.intro ?_ ?_;exact zI)|refine And.intro (fun hg=> ?_) (fun hg=> ?_)|exact zC|fail)
  simp[rfs3,rowI,roLe]
theorem zhG (l:List Int) (hl:l.length<2^30):CallOK Tryz.prog 93 [.f (al l.length (intsE l))] (fun r o=>r=[rb (lineB l)]∧o=[]):=by
 refine zak zaA mixed (T:=Ty) (n:=26) Tryz.func93 (c:=Tryz.f93.body.getD .skip) rfl Tryz.results93 Tryz.ntmps93 Tryz.call93 ?_
 simp only[Tryz.f93,Option.getD]
 repeat'(first|(with_reducible first|refine zaa _ _ ?_|refine zae ?_|refine zaf ?_)|rw[zad]|simp only[zaw,zY,Int.reduceEq,Int.reduceBEq,Int.reduceBNe,Nat.reduceSub,Nat.reduceEqDiff,Nat.reduceAdd,Nat.reduceMul,Nat.reduceLeDiff,Nat.reduceLT,Nat.reduceBEq,reduceCtorEq]|refine zab ?_|refine zac (fun hb=> ?_) (fun hb=> ?_)|(refine And.intro ?_ ?_;exact zI)|refine And.intro (fun hg=> ?_) (fun hg=> ?_)|exact zC|fail)
 refine zau (τ:=Nat) (fun i=>⟨[al l.length (intsE l),dd,dd,dd,dd,al l.length (intsE l),ai l.length,ai i,dd,dd,dd,dd,dd,dd,dd,dd,dd,dd,dd,dd,dd,dd,dd,dd,dd,dd],[]⟩)
  (fun i=>i≤l.length) (fun i=>checkP (lineQ l) i (l.drop i)) (fun i=>l.length - i) 0
  (Gh.canon [] [] [] zK rfl rfl) (Nat.zero_le _) ?_
 intro i hi0 hF K hK
 rw[List.drop_zero]at hF
 repeat(first|with_reducible refine zaa _ _ ?_|with_reducible refine And.imp_right (zaa _ _) ?_|with_reducible refine And.imp_right (And.imp_right (zaa _ _)) ?_|with_reducible refine And.imp_right (And.imp_right (And.imp_right (zaa _ _))) ?_|rw[zad]|simp only[zB,Nat.reduceSub,Nat.reduceEqDiff,Nat.reduceAdd,Nat.reduceMul,Nat.reduceLeDiff,Nat.reduceLT,Nat.reduceBEq,reduceCtorEq])
 refine zac (fun hlt=> ?_) (fun hge=> ?_)
 ·have hi:i<l.length:=by simpa using hlt
  have hat:=zbo hi
  have hw:=zat hi (by omega)
  rw[zaB hi]at hF
  have hcl:=zcu l[i]
  have hlt2:(l.take i).length=i:=by rw[List.length_take];omega
  have htk:(intsE l).take i=intsE (l.take i):=zeN (by omega)
  have hco:=zaU (l.take i) (by omega) l[i]
  rw[hlt2]at hco
  have hq:lineQ l i l[i]= !(!(decide (l[i]≥0)&&decide (l[i]<8))||(l.take i).any fun x=>l[i]==x):=rfl
  repeat'(first|(with_reducible first|refine zaa _ _ ?_|refine zae ?_|refine zaf ?_)|rw[zad]|simp only[hat,htk,List.cons_append,List.nil_append,zaw,zY,Int.reduceEq,Int.reduceBEq,Int.reduceBNe,Nat.reduceSub,Nat.reduceEqDiff,Nat.reduceAdd,Nat.reduceMul,Nat.reduceLeDiff,Nat.reduceLT,Nat.reduceBEq,reduceCtorEq]|((first|((try refine zai ?_);apply zaj)|(apply zah;intro _));(solve|exact(hcl)|exact(hco)|(refine CallOK.le (hcl) ?_;exact zM)|(refine CallOK.le (hco) ?_;exact zM)|fail);try case hn=>rfl)|refine zab ?_|refine zac (fun hb=> ?_) (fun hb=> ?_)|(refine And.intro ?_ ?_;exact zI)|refine And.intro (fun hg=> ?_) (fun hg=> ?_)|exact zC|fail)
  ·rw[hq,hb,if_neg (by simp)]at hF
   unfold lineB
   rw[←hF];rfl
  ·exact hK _ (i+1) (Gh.canon [] [] [] (by simp only[hw,zan,zaz,zao,zaq,zar,zas,List.set_cons_zero,List.set_cons_succ,and_true,true_and,Int.natCast_zero,Int.cast_ofNat_Int,D.v.injEq,Value.int.injEq];try(repeat'(first|rfl|omega|with_reducible apply And.intro))) rfl rfl) hi (by rw[zaB hi,hq,hb];rfl) (by omega)
 ·have hi:i=l.length:=by
   have:¬(i:Int)<l.length:=by simpa using hge
   omega
  rw[zbf hi]at hF
  unfold lineB
  rw[←hF]
  repeat'(first|(with_reducible first|refine zaa _ _ ?_|refine zae ?_|refine zaf ?_)|rw[zad]|simp only[zY,Int.reduceEq,Int.reduceBEq,Int.reduceBNe,Nat.reduceSub,Nat.reduceEqDiff,Nat.reduceAdd,Nat.reduceMul,Nat.reduceLeDiff,Nat.reduceLT,Nat.reduceBEq,reduceCtorEq]|refine zab ?_|refine zac (fun hb=> ?_) (fun hb=> ?_)|(refine And.intro ?_ ?_;exact zI)|refine And.intro (fun hg=> ?_) (fun hg=> ?_)|exact zC|fail)
theorem zjP (k j:Lk):CallOK Tryz.prog 95 [.f (lockAV k), .f (.one (.elt j.enc))] (fun r o=>r=[rb (k.token==j.token)]∧o=[]):=by
 refine zak zaA mixed (T:=Ty) (n:=9) Tryz.func95 (c:=Tryz.f95.body.getD .skip) rfl Tryz.results95 Tryz.ntmps95 Tryz.call95 ?_
 simp only[Tryz.f95,Option.getD]
 repeat'(first|(with_reducible first|refine zaa _ _ ?_|refine zae ?_|refine zaf ?_)|rw[zad]|simp only[zY,Int.reduceEq,Int.reduceBEq,Int.reduceBNe,Nat.reduceSub,Nat.reduceEqDiff,Nat.reduceAdd,Nat.reduceMul,Nat.reduceLeDiff,Nat.reduceLT,Nat.reduceBEq,reduceCtorEq]|refine zab ?_|refine zac (fun hb=> ?_) (fun hb=> ?_)|(refine And.intro ?_ ?_;exact zI)|refine And.intro (fun hg=> ?_) (fun hg=> ?_)|exact zC|fail)
theorem zhH (l:List Lk) (hl:l.length<2^30) (hll:∀k∈l,k.line.length<2^30∧k.name.size<2^62):CallOK Tryz.prog 52 [.f (al l.length (locksE l))] (fun r o=>r=[rb (lockB l)]∧o=[]):=by
 refine zak zaA mixed (T:=Ty) (n:=71) Tryz.func52 (c:=Tryz.f52.body.getD .skip) rfl Tryz.results52 Tryz.ntmps52 Tryz.call52 ?_
 simp only[Tryz.f52,Option.getD]
 repeat'(first|(with_reducible first|refine zaa _ _ ?_|refine zae ?_|refine zaf ?_)|rw[zad]|simp only[zam,zY,Int.reduceEq,Int.reduceBEq,Int.reduceBNe,Nat.reduceSub,Nat.reduceEqDiff,Nat.reduceAdd,Nat.reduceMul,Nat.reduceLeDiff,Nat.reduceLT,Nat.reduceBEq,reduceCtorEq]|refine zab ?_|refine zac (fun hb=> ?_) (fun hb=> ?_)|(refine And.intro ?_ ?_;exact zI)|refine And.intro (fun hg=> ?_) (fun hg=> ?_)|exact zC|fail)
 refine zau (τ:=Nat) (fun i=>⟨[al l.length (locksE l),dd,dd,dd,dd,al l.length (locksE l),ai l.length,ai i,dd,dd,dd,dd,dd,dd,dd,dd,dd,dd,dd,dd,dd,dd,dd,dd,dd,dd,dd,dd,dd,dd,dd,dd,dd,dd,dd,dd,dd,dd,dd,dd,dd,dd,dd,dd,dd,dd,dd,dd,dd,dd,dd,dd,dd,dd,dd,dd,dd,dd,dd,dd,dd,dd,dd,dd,dd,dd,dd,dd,dd,dd,dd],[(4,⟨2,[]⟩)]⟩)
  (fun i=>i≤l.length) (fun i=>checkP (lockQ l) i (l.drop i)) (fun i=>l.length - i) 0
  (Gh.canon [] [4] [] zK rfl rfl) (Nat.zero_le _) ?_
 intro i hi0 hF K hK
 rw[List.drop_zero]at hF
 repeat(first|with_reducible refine zaa _ _ ?_|with_reducible refine And.imp_right (zaa _ _) ?_|with_reducible refine And.imp_right (And.imp_right (zaa _ _)) ?_|with_reducible refine And.imp_right (And.imp_right (And.imp_right (zaa _ _))) ?_|rw[zad]|simp only[zB,Nat.reduceSub,Nat.reduceEqDiff,Nat.reduceAdd,Nat.reduceMul,Nat.reduceLeDiff,Nat.reduceLT,Nat.reduceBEq,reduceCtorEq])
 refine zac (fun hlt=> ?_) (fun hge=> ?_)
 ·have hi:i<l.length:=by simpa using hlt
  have hat:=zaG hi
  obtain⟨hk1,hk2⟩:=hll _ (List.getElem_mem hi)
  have hw:=zat hi (by omega)
  rw[zaB hi]at hF
  have hnm:=zgw l[i].name hk2
  have hlr:=zhG l[i].line hk1
  have hlc:=zaU l[i].line (by omega) l[i].holder
  have hlt2:(l.take i).length=i:=by rw[List.length_take];omega
  have htk:(locksE l).take (i*4)=locksE (l.take i):=zbU Lk.enc 4 (fun _=>rfl) (by omega)
  have hco:=zf7 (l.take i) (by omega) (fun o=>o.token==l[i].token) 95 [.elt l[i].enc] rfl rfl (fun x _=>zjP x _)
  rw[hlt2]at hco
  cases e0:decide ((i:Int)>0)
  ·have h0:i=0:=by simpa using e0
   have hq:lockQ l i l[i]=(!(!nameP l[i].name||decide (l[i].holder<0)||decide (l[i].holder≥8)||decide (l[i].token<1)||decide (l[i].token>2305843009213693952))&& !(!lineB l[i].line||l[i].line.any fun x=>l[i].holder==x)&& !((l.take i).any fun o=>o.token==l[i].token)):=by
    unfold lockQ okLk hasI
    have:decide (i>0)=false:=by simpa using e0
    rw[this]
    simp only[Bool.not_or,Bool.not_not,Bool.false_and,Bool.or_false]
   have hp:(locksE l).drop ((IntKind.i64.wrap ((i:Int) - 1)).toNat*4)=l[i].enc++locksE (l.drop (i+1)):=by
    rw[←zaG hi,h0];rfl
   repeat'(first|(with_reducible first|refine zaa _ _ ?_|refine zae ?_|refine zaf ?_)|rw[zad]|simp only[hat,hp,htk,e0,List.cons_append,List.nil_append,zam,zY,Int.reduceEq,Int.reduceBEq,Int.reduceBNe,Nat.reduceSub,Nat.reduceEqDiff,Nat.reduceAdd,Nat.reduceMul,Nat.reduceLeDiff,Nat.reduceLT,Nat.reduceBEq,reduceCtorEq]|((first|((try refine zai ?_);apply zaj)|(apply zah;intro _));(solve|exact(hnm)|exact(hlr)|exact(hlc)|exact(hco)|(refine CallOK.le (hnm) ?_;exact zM)|(refine CallOK.le (hlr) ?_;exact zM)|(refine CallOK.le (hlc) ?_;exact zM)|(refine CallOK.le (hco) ?_;exact zM)|fail);try case hn=>rfl)|refine zab ?_|refine zac (fun hb=> ?_) (fun hb=> ?_)|(refine And.intro ?_ ?_;exact zI)|refine And.intro (fun hg=> ?_) (fun hg=> ?_)|exact zC|fail)
   ·rw[hq,hb,if_neg (by simp)]at hF
    unfold lockB
    rw[←hF];rfl
   ·rename_i ha
    rw[hq,ha,hb,if_neg (by simp)]at hF
    unfold lockB
    rw[←hF];rfl
   ·rename_i ha hc
    rw[hq,ha,hc,hb,if_neg (by simp)]at hF
    unfold lockB
    rw[←hF];rfl
   ·rename_i ha hc
    exact hK _ (i+1) (Gh.canon [] [] [] (by simp only[hw,zan,zaz,zao,zaq,zar,zas,List.set_cons_zero,List.set_cons_succ,and_true,true_and,Int.natCast_zero,Int.cast_ofNat_Int,D.v.injEq,Value.int.injEq];try(repeat'(first|rfl|omega|with_reducible apply And.intro))) rfl rfl) hi (by rw[zaB hi,hq,ha,hc,hb];rfl) (by omega)
  ·have h0:0<i:=by simpa using e0
   have hq:lockQ l i l[i]=(!(!nameP l[i].name||decide (l[i].holder<0)||decide (l[i].holder≥8)||decide (l[i].token<1)||decide (l[i].token>2305843009213693952))&& !(!lineB l[i].line||(l[i].line.any fun x=>l[i].holder==x)|| !(bLess (l[i - 1]'(by omega)).name l[i].name))&& !((l.take i).any fun o=>o.token==l[i].token)):=by
    unfold lockQ okLk hasI prevL
    have:decide (i>0)=true:=by simpa using e0
    rw[this,List.getElem?_eq_getElem (by omega)]
    simp only[Bool.not_or,Bool.not_not,Bool.true_and,Option.map_some,Option.getD_some]
   have hp:=zaG (show i - 1<l.length by omega)
   have hw1:IntKind.i64.wrap ((i:Int) - 1)=((i - 1:Nat):Int):=by rw[wrap64 (by omega) (by omega)];omega
   repeat'(first|(with_reducible first|refine zaa _ _ ?_|refine zae ?_|refine zaf ?_)|rw[zad]|simp only[hat,hp,hw1,htk,e0,List.cons_append,List.nil_append,zam,zY,Int.reduceEq,Int.reduceBEq,Int.reduceBNe,Nat.reduceSub,Nat.reduceEqDiff,Nat.reduceAdd,Nat.reduceMul,Nat.reduceLeDiff,Nat.reduceLT,Nat.reduceBEq,reduceCtorEq]|((first|((try refine zai ?_);apply zaj)|(apply zah;intro _));(solve|exact(hnm)|exact(hlr)|exact(hlc)|exact(hco)|(refine CallOK.le (hnm) ?_;exact zM)|(refine CallOK.le (hlr) ?_;exact zM)|(refine CallOK.le (hlc) ?_;exact zM)|(refine CallOK.le (hco) ?_;exact zM)|fail);try case hn=>rfl)|refine zab ?_|refine zac (fun hb=> ?_) (fun hb=> ?_)|(refine And.intro ?_ ?_;exact zI)|refine And.intro (fun hg=> ?_) (fun hg=> ?_)|exact zC|fail)
   ·rw[hq,hb,if_neg (by simp)]at hF
    unfold lockB
    rw[←hF];rfl
   ·rename_i ha
    rw[hq,ha,hb,if_neg (by simp)]at hF
    unfold lockB
    rw[←hF];rfl
   ·rename_i ha hc
    rw[hq,ha,hc,hb,if_neg (by simp)]at hF
    unfold lockB
    rw[←hF];rfl
   ·rename_i ha hc
    exact hK _ (i+1) (Gh.canon [] [] [] (by simp only[hw,zan,zaz,zao,zaq,zar,zas,List.set_cons_zero,List.set_cons_succ,and_true,true_and,Int.natCast_zero,Int.cast_ofNat_Int,D.v.injEq,Value.int.injEq];try(repeat'(first|rfl|omega|with_reducible apply And.intro))) rfl rfl) hi (by rw[zaB hi,hq,ha,hc,hb];rfl) (by omega)
 ·have hi:i=l.length:=by
   have:¬(i:Int)<l.length:=by simpa using hge
   omega
  rw[zbf hi]at hF
  unfold lockB
  rw[←hF]
  repeat'(first|(with_reducible first|refine zaa _ _ ?_|refine zae ?_|refine zaf ?_)|rw[zad]|simp only[zY,Int.reduceEq,Int.reduceBEq,Int.reduceBNe,Nat.reduceSub,Nat.reduceEqDiff,Nat.reduceAdd,Nat.reduceMul,Nat.reduceLeDiff,Nat.reduceLT,Nat.reduceBEq,reduceCtorEq]|refine zab ?_|refine zac (fun hb=> ?_) (fun hb=> ?_)|(refine And.intro ?_ ?_;exact zI)|refine And.intro (fun hg=> ?_) (fun hg=> ?_)|exact zC|fail)
theorem zgx (l:List Lk) (hl:l.length<2^30) (c:Int):CallOK Tryz.prog 78 [.f (al l.length (locksE l)), .f (ai c)] (fun r o=>r=[.one (.own 2 (heldP l c).length (grantsE (heldP l c)) false)]∧o=[]):=by
 refine CallOK.nil ?_
 refine zak zaA mixed (T:=Ty) (n:=28) Tryz.func78 (c:=Tryz.f78.body.getD .skip) rfl Tryz.results78 Tryz.ntmps78 Tryz.call78 ?_
 simp only[Tryz.f78,Option.getD]
 repeat'(first|(with_reducible first|refine zaa _ _ ?_|refine zae ?_|refine zaf ?_)|rw[zad]|simp only[zam,zY,Int.reduceEq,Int.reduceBEq,Int.reduceBNe,Nat.reduceSub,Nat.reduceEqDiff,Nat.reduceAdd,Nat.reduceMul,Nat.reduceLeDiff,Nat.reduceLT,Nat.reduceBEq,reduceCtorEq]|refine zab ?_|refine zac (fun hb=> ?_) (fun hb=> ?_)|(refine And.intro ?_ ?_;exact zI)|refine And.intro (fun hg=> ?_) (fun hg=> ?_)|exact zC|fail)
 refine zau (τ:=Nat×List Grant) (fun t=>⟨[dd,ai c,dd,dd,dd, .one (.own ⟨5,1,1⟩ 0 t.2.length),dd,dd,al l.length (locksE l),ai l.length,ai t.1,dd,dd,dd,dd,dd,dd,dd,dd,dd,dd,dd,dd,dd,dd,dd,dd,dd],[(5,{next:=2,l:=[none,some {e:=1,var:=false,fz:=false,sz:=2,cells:=(grantsE t.2).map C.d}]}),(7,⟨2,[]⟩),(24,⟨2,[]⟩),(25,⟨2,[]⟩)]⟩)
  (fun t=>t.1≤l.length∧t.2.length≤t.1) (fun t=>t.2++heldP (l.drop t.1) c) (fun t=>l.length - t.1) (0,[])
  ((Gh.nil (i:=5) (s:=5) (sz:=2) rfl).trans (Gh.canon [5] [7,24,25] [] zK rfl rfl)) ⟨Nat.zero_le _,Nat.zero_le _⟩ ?_
 intro⟨i,acc⟩ ⟨hi0,ha⟩ hF K hK
 simp only[List.drop_zero,List.nil_append]at hi0 ha hF hK⊢
 repeat(first|with_reducible refine zaa _ _ ?_|with_reducible refine And.imp_right (zaa _ _) ?_|with_reducible refine And.imp_right (And.imp_right (zaa _ _)) ?_|with_reducible refine And.imp_right (And.imp_right (And.imp_right (zaa _ _))) ?_|rw[zad]|simp only[zB,Nat.reduceSub,Nat.reduceEqDiff,Nat.reduceAdd,Nat.reduceMul,Nat.reduceLeDiff,Nat.reduceLT,Nat.reduceBEq,reduceCtorEq])
 refine zac (fun hlt=> ?_) (fun hge=> ?_)
 ·have hi:i<l.length:=by simpa using hlt
  have hat:=zaG hi
  have hw:=zat hi (by omega)
  have hFs:heldP (l.drop i) c=if(l[i].holder==c)=true then⟨l[i].name,l[i].token⟩::heldP (l.drop (i+1)) c else heldP (l.drop (i+1)) c:=by
   unfold heldP
   rw[List.drop_eq_getElem_cons hi,List.filter_cons]
   split<;>simp
  cases hb:l[i].holder==c
  ·rw[hb,if_neg (by simp)]at hFs
   repeat'(first|(with_reducible first|refine zaa _ _ ?_|refine zae ?_|refine zaf ?_)|rw[zad]|simp only[hat,hb,List.cons_append,List.nil_append,zam,zY,Int.reduceEq,Int.reduceBEq,Int.reduceBNe,Nat.reduceSub,Nat.reduceEqDiff,Nat.reduceAdd,Nat.reduceMul,Nat.reduceLeDiff,Nat.reduceLT,Nat.reduceBEq,reduceCtorEq]|refine zab ?_|refine zac (fun hb=> ?_) (fun hb=> ?_)|(refine And.intro ?_ ?_;exact zI)|refine And.intro (fun hg=> ?_) (fun hg=> ?_)|exact zC|fail)
   exact hK _ (i+1,acc) (Gh.canon [5] [] [] (by simp only[hw,zan,zaz,zao,zaq,zar,zas,List.set_cons_zero,List.set_cons_succ,and_true,true_and,Int.natCast_zero,Int.cast_ofNat_Int,D.v.injEq,Value.int.injEq];try(repeat'(first|rfl|omega|with_reducible apply And.intro))) rfl rfl) ⟨hi,by simp only;omega⟩ (by simp only;rw[hFs]) (by simp only;omega)
  ·rw[hb,if_pos rfl]at hFs
   repeat'(first|(with_reducible first|refine zaa _ _ ?_|refine zae ?_|refine zaf ?_)|rw[zad]|simp only[hat,hb,List.cons_append,List.nil_append,zam,zY,Int.reduceEq,Int.reduceBEq,Int.reduceBNe,Nat.reduceSub,Nat.reduceEqDiff,Nat.reduceAdd,Nat.reduceMul,Nat.reduceLeDiff,Nat.reduceLT,Nat.reduceBEq,reduceCtorEq]|refine zab ?_|refine zac (fun hb=> ?_) (fun hb=> ?_)|(refine And.intro ?_ ?_;exact zI)|refine And.intro (fun hg=> ?_) (fun hg=> ?_)|exact zC|fail)
   exact hK _ (i+1,acc++[⟨l[i].name,l[i].token⟩]) (Gh.canon [5] [] [] (by simp only[hw,List.length_append,List.length_singleton,zan,zaz,zao,zaq,zar,zas,List.set_cons_zero,List.set_cons_succ,and_true,true_and,Int.natCast_zero,Int.cast_ofNat_Int,D.v.injEq,Value.int.injEq];try(repeat'(first|rfl|omega|with_reducible apply And.intro))) rfl (by simp only[List.length_append,List.length_singleton];rw[zec];rfl)) ⟨hi,by simp only[List.length_append,List.length_singleton];omega⟩ (by simp only[List.append_assoc,List.singleton_append];rw[hFs]) (by simp only;omega)
 ·have hi:i=l.length:=by
   have:¬(i:Int)<l.length:=by simpa using hge
   omega
  rw[hi,List.drop_length,show heldP [] c=[] from rfl,List.append_nil]at hF
  rw[←hF]
  repeat'(first|(with_reducible first|refine zaa _ _ ?_|refine zae ?_|refine zaf ?_)|rw[zad]|simp only[zY,Int.reduceEq,Int.reduceBEq,Int.reduceBNe,Nat.reduceSub,Nat.reduceEqDiff,Nat.reduceAdd,Nat.reduceMul,Nat.reduceLeDiff,Nat.reduceLT,Nat.reduceBEq,reduceCtorEq]|refine zab ?_|refine zac (fun hb=> ?_) (fun hb=> ?_)|(refine And.intro ?_ ?_;exact zI)|refine And.intro (fun hg=> ?_) (fun hg=> ?_)|exact zC|fail)
  simp[rfs1,roLe]
theorem zli (l:List Lk) (i:Nat) (hi:i<l.length) (hl:l.length<2^30) (hll:∀k∈l,k.line.length<2^30) (t:Int) (ht:0≤t∧t<2^62):
  CallOK Tryz.prog 102 [.row 4 l.length (locksE l), .f (ai i), .f (ai t)]
  (fun r o=>r=[.one (.own 4 (passP l i l[i] t).1.length (locksE (passP l i l[i] t).1) true),ri (passP l i l[i] t).2]∧o=[[]]):=by
 refine zak zaA mixed (T:=Ty) (n:=42) Tryz.func102 (c:=Tryz.f102.body.getD .skip) rfl Tryz.results102 Tryz.ntmps102 Tryz.call102 ?_
 simp only[Tryz.f102,Option.getD]
 have hat:=zaG hi
 simp only[List.cons_append,List.nil_append]at hat
 have hat2:(locksE l).drop (i*4+3)= .sl l[i].line.length (intsE l[i].line)::locksE (l.drop (i+1)):=by rw[←List.drop_drop,hat];rfl
 have hnx:=znV l[i].line (hll _ (List.getElem_mem hi))
 have hw:=zat hi (by omega)
 have hwt:IntKind.i64.wrap (t+1)=t+1:=wrap64 (by omega) (by omega)
 cases hline:l[i].line with
 |nil=>
  rw[hline]at hnx
  simp only[List.headD_nil,List.tail_nil,List.isEmpty_nil]at hnx
  rw[hline]at hat2
  obtain⟨n,hn⟩:∃n,l.length=n+1:=⟨l.length - 1,by omega⟩
  have hdl:=zjq n i (locksE l) (by rw[zam,hn]) (by omega) (by omega)
  rw[←hn]at hdl
  repeat'(first|(with_reducible first|refine zaa _ _ ?_|refine zae ?_|refine zaf ?_)|rw[zad]|simp only[hat2,hw,hwt,←List.map_drop,List.map_cons,zam,rowI,zY,Int.reduceEq,Int.reduceBEq,Int.reduceBNe,Nat.reduceSub,Nat.reduceEqDiff,Nat.reduceAdd,Nat.reduceMul,Nat.reduceLeDiff,Nat.reduceLT,Nat.reduceBEq,reduceCtorEq]|((first|((try refine zai ?_);apply zaj)|(apply zah;intro _));(solve|exact(hnx)|(refine CallOK.le (hnx) ?_;exact zM)|fail);try case hn=>rfl)|refine zab ?_|refine zac (fun hb=> ?_) (fun hb=> ?_)|(refine And.intro ?_ ?_;exact zI)|refine And.intro (fun hg=> ?_) (fun hg=> ?_)|exact zC|fail)
  refine zbi (mv:= ?mv1) (lent:= ?le1) 0 ?ha1 (hdl) ?hb1 ?hc1
  case ha1=>(try simp only[zB,zaF,Nat.reduceSub,Nat.reduceEqDiff,Nat.reduceAdd,Nat.reduceMul,Nat.reduceLeDiff,Nat.reduceLT,Nat.reduceBEq,reduceCtorEq]);exact rfl
  case hb1=>(try simp only[zB,scM,Nat.reduceSub,Nat.reduceEqDiff,Nat.reduceAdd,Nat.reduceMul,Nat.reduceLeDiff,Nat.reduceLT,Nat.reduceBEq,reduceCtorEq]);repeat'(first|rfl|trivial|omega|with_reducible refine And.intro ?_ ?_)
  show aops _ _ _ _ _ _ _ _
  repeat'(first|(with_reducible first|refine zaa _ _ ?_|refine zae ?_|refine zaf ?_)|rw[zad]|simp only[zY,Int.reduceEq,Int.reduceBEq,Int.reduceBNe,Nat.reduceSub,Nat.reduceEqDiff,Nat.reduceAdd,Nat.reduceMul,Nat.reduceLeDiff,Nat.reduceLT,Nat.reduceBEq,reduceCtorEq]|refine zab ?_|refine zac (fun hb=> ?_) (fun hb=> ?_)|(refine And.intro ?_ ?_;exact zI)|refine And.intro (fun hg=> ?_) (fun hg=> ?_)|exact zC|fail)
  have hp:passP l i l[i] t=(l.eraseIdx i,0):=by unfold passP;rw[hline]
  rw[hp]
  have h1:=zgS Lk.enc 4 (fun _=>rfl) hi
  have h2:=zgT hi
  simp only[h1,h2,show l.length - 1=n by omega]
 |cons c rest=>
  rw[hline]at hnx
  simp only[List.headD_cons,List.tail_cons,List.isEmpty_cons]at hnx
  rw[hline]at hat2
  have hset:=zcX Lk.enc 4 (fun _=>rfl) hi ⟨l[i].name,c,t+1,rest⟩
  simp only[fillAt,List.map_cons,List.map_nil]at hset
  have hp:passP l i l[i] t=(l.set i ⟨l[i].name,c,t+1,rest⟩,1):=by unfold passP;rw[hline]
  rw[hp]
  repeat'(first|(with_reducible first|refine zaa _ _ ?_|refine zae ?_|refine zaf ?_)|rw[zad]|simp only[hat,hat2,hw,hwt,hset,←List.map_drop,List.map_cons,zam,rowI,zY,Int.reduceEq,Int.reduceBEq,Int.reduceBNe,Nat.reduceSub,Nat.reduceEqDiff,Nat.reduceAdd,Nat.reduceMul,Nat.reduceLeDiff,Nat.reduceLT,Nat.reduceBEq,reduceCtorEq]|((first|((try refine zai ?_);apply zaj)|(apply zah;intro _));(solve|exact(hnx)|(refine CallOK.le (hnx) ?_;exact zM)|fail);try case hn=>rfl)|refine zab ?_|refine zac (fun hb=> ?_) (fun hb=> ?_)|(refine And.intro ?_ ?_;exact zI)|refine And.intro (fun hg=> ?_) (fun hg=> ?_)|exact zC|fail)
  rw[List.length_set]
theorem znW (l:List Lk) (hs:SL l) (hl:l.length<2^30) (hll:∀k∈l,k.line.length<2^30) (name:ByteArray) (c t:Int) (ht:0≤t∧t<2^62) (w:Bool):
  CallOK Tryz.prog 76 [.f (al l.length (locksE l)), .f (ast name), .f (ai c), .f (ai t), .f (ab w)]
  (fun r o=>r=[.one (.own 4 (takeP l name c t w).1.length (locksE (takeP l name c t w).1) false),ri (takeP l name c t w).2.1,ri (takeP l name c t w).2.2]∧o=[]):=by
 refine CallOK.nil ?_
 refine zak zaA mixed (T:=Ty) (n:=96) Tryz.func76 (c:=Tryz.f76.body.getD .skip) rfl Tryz.results76 Tryz.ntmps76 Tryz.call76 ?_
 simp only[Tryz.f76,Option.getD]
 have hp:=zhF l hs (by omega) name
 have hco:=zd9 l hl hll
 have hwt:IntKind.i64.wrap (t+1)=t+1:=wrap64 (by omega) (by omega)
 cases hf:findL l name with
 |none=>
  rw[hf]at hp
  simp only[Option.isSome_none]at hp
  have hin:=zjr l.length (posL l name) (locksE l) [sD name,iD c,iD (t+1), .sl 0 []] zam rfl zbw hl
  have htk:takeP l name c t w=if decide ((l.length:Int)≥4)=true then([],0,5)else(l.take (posL l name)++⟨name,c,t+1,[]⟩::l.drop (posL l name),0,0):=by unfold takeP;rw[hf]
  rw[htk]
  have hti:=zh1 Lk.enc 4 (fun _=>rfl) (l:=l) (k:=posL l name) zbw ⟨name,c,t+1,[]⟩
  have htl:=zf4 (l:=l) (k:=posL l name) zbw ⟨name,c,t+1,[]⟩
  cases h4:decide ((l.length:Int)≥4)
  ·rw[if_neg (by simp)]
   simp only[hti,htl]
   repeat'(first|(with_reducible first|refine zaa _ _ ?_|refine zae ?_|refine zaf ?_)|rw[zad]|simp only[hwt,h4,zam,zY,Int.reduceEq,Int.reduceBEq,Int.reduceBNe,Nat.reduceSub,Nat.reduceEqDiff,Nat.reduceAdd,Nat.reduceMul,Nat.reduceLeDiff,Nat.reduceLT,Nat.reduceBEq,reduceCtorEq]|((first|((try refine zai ?_);apply zaj)|(apply zah;intro _));(solve|exact(hp)|exact(hco)|(refine CallOK.le (hp) ?_;exact zM)|(refine CallOK.le (hco) ?_;exact zM)|fail);try case hn=>rfl)|refine zab ?_|refine zac (fun hb=> ?_) (fun hb=> ?_)|(refine And.intro ?_ ?_;exact zI)|refine And.intro (fun hg=> ?_) (fun hg=> ?_)|exact zC|fail)
   refine zbi (mv:= ?mv2) (lent:= ?le2) 0 ?ha2 (hin) ?hb2 ?hc2
   case ha2=>(try simp only[zB,zaF,Nat.reduceSub,Nat.reduceEqDiff,Nat.reduceAdd,Nat.reduceMul,Nat.reduceLeDiff,Nat.reduceLT,Nat.reduceBEq,reduceCtorEq]);exact rfl
   case hb2=>(try simp only[zB,scM,Nat.reduceSub,Nat.reduceEqDiff,Nat.reduceAdd,Nat.reduceMul,Nat.reduceLeDiff,Nat.reduceLT,Nat.reduceBEq,reduceCtorEq]);repeat'(first|rfl|trivial|omega|with_reducible refine And.intro ?_ ?_)
   show aops _ _ _ _ _ _ _ _
   repeat'(first|(with_reducible first|refine zaa _ _ ?_|refine zae ?_|refine zaf ?_)|rw[zad]|simp only[zY,Int.reduceEq,Int.reduceBEq,Int.reduceBNe,Nat.reduceSub,Nat.reduceEqDiff,Nat.reduceAdd,Nat.reduceMul,Nat.reduceLeDiff,Nat.reduceLT,Nat.reduceBEq,reduceCtorEq]|refine zab ?_|refine zac (fun hb=> ?_) (fun hb=> ?_)|(refine And.intro ?_ ?_;exact zI)|refine And.intro (fun hg=> ?_) (fun hg=> ?_)|exact zC|fail)
   simp[rfs3,roLe]
  ·rw[if_pos rfl]
   repeat'(first|(with_reducible first|refine zaa _ _ ?_|refine zae ?_|refine zaf ?_)|rw[zad]|simp only[h4,zam,zY,Int.reduceEq,Int.reduceBEq,Int.reduceBNe,Nat.reduceSub,Nat.reduceEqDiff,Nat.reduceAdd,Nat.reduceMul,Nat.reduceLeDiff,Nat.reduceLT,Nat.reduceBEq,reduceCtorEq]|((first|((try refine zai ?_);apply zaj)|(apply zah;intro _));(solve|exact(hp)|(refine CallOK.le (hp) ?_;exact zM)|fail);try case hn=>rfl)|refine zab ?_|refine zac (fun hb=> ?_) (fun hb=> ?_)|(refine And.intro ?_ ?_;exact zI)|refine And.intro (fun hg=> ?_) (fun hg=> ?_)|exact zC|fail)
   simp[rfs3,roLe]
 |some k=>
  rw[hf]at hp
  simp only[Option.isSome_some]at hp
  obtain⟨⟨hi,he⟩,hn⟩:=zby hs hf
  have hat:=zaG hi
  rw[he]at hat
  simp only[List.cons_append,List.nil_append]at hat
  have hkl:=hll k (he▸List.getElem_mem hi)
  have hah:=zlL k.line (by omega) c
  have hj:=zni k.line hkl c
  have htk:takeP l name c t w=if(k.holder==c)=true then([],0,7)else if(!w)=true then([],0,8)else
    if hasI k.line c=true then(l,aheadP k.line c,10)else
    if((joinP k.line c).2.2 !=0)=true then([],0,(joinP k.line c).2.2)else(l.set (posL l name) ⟨k.name,k.holder,k.token,(joinP k.line c).1⟩,(joinP k.line c).2.1,10):=by
   unfold takeP
   rw[hf]
   simp only[bne_iff_ne]
  generalize takeP l name c t w=R at htk⊢
  have hset:=zbr Lk.enc 4 (fun _=>rfl) hi (k:=3) (by decide) (.sl (joinP k.line c).1.length (intsE (joinP k.line c).1)) ⟨k.name,k.holder,k.token,(joinP k.line c).1⟩ (by rw[he];rfl)
  repeat'(first|(with_reducible first|refine zaa _ _ ?_|refine zae ?_|refine zaf ?_)|rw[zad]|simp only[hat,hset,rowI,List.drop_succ_cons,List.drop_zero,zam,zY,Int.reduceEq,Int.reduceBEq,Int.reduceBNe,Nat.reduceSub,Nat.reduceEqDiff,Nat.reduceAdd,Nat.reduceMul,Nat.reduceLeDiff,Nat.reduceLT,Nat.reduceBEq,reduceCtorEq]|((first|((try refine zai ?_);apply zaj)|(apply zah;intro _));(solve|exact(hp)|exact(hco)|exact(hah)|exact(hj)|(refine CallOK.le (hp) ?_;exact zM)|(refine CallOK.le (hco) ?_;exact zM)|(refine CallOK.le (hah) ?_;exact zM)|(refine CallOK.le (hj) ?_;exact zM)|fail);try case hn=>rfl)|refine zab ?_|refine zac (fun hb=> ?_) (fun hb=> ?_)|(refine And.intro ?_ ?_;exact zI)|refine And.intro (fun hg=> ?_) (fun hg=> ?_)|exact zC|fail)
  ·rw[if_pos hb]at htk;rw[htk];simp[rfs3,roLe]
  ·rename_i h1
   rw[if_neg (by rw[h1];simp),if_pos hb]at htk;rw[htk];simp[rfs3,roLe]
  ·rename_i h1 h2
   rw[if_neg (by rw[h1];simp),if_neg (by rw[h2];simp),if_pos hb]at htk;rw[htk];simp[rfs3,roLe,aheadP]
  ·rename_i h1 h2 h3
   rw[if_neg (by rw[h1];simp),if_neg (by rw[h2];simp),if_neg (by rw[h3];simp),if_pos hb]at htk;rw[htk];simp[rfs3,roLe]
  ·rename_i h1 h2 h3
   rw[if_neg (by rw[h1];simp),if_neg (by rw[h2];simp),if_neg (by rw[h3];simp),if_neg (by rw[hb];simp)]at htk;rw[htk];simp[rfs3,roLe]
theorem znX (l:List Lk) (hs:SL l) (hl:l.length<2^30) (hll:∀k∈l,k.line.length<2^30) (name:ByteArray) (c t:Int) (ht:0≤t∧t<2^62):
  CallOK Tryz.prog 77 [.f (al l.length (locksE l)), .f (ast name), .f (ai c), .f (ai t)]
  (fun r o=>r=[.one (.own 4 (freeP l name c t).1.length (locksE (freeP l name c t).1) false),ri (freeP l name c t).2.1,ri (freeP l name c t).2.2]∧o=[]):=by
 refine CallOK.nil ?_
 refine zak zaA mixed (T:=Ty) (n:=62) Tryz.func77 (c:=Tryz.f77.body.getD .skip) rfl Tryz.results77 Tryz.ntmps77 Tryz.call77 ?_
 simp only[Tryz.f77,Option.getD]
 have hp:=zhF l hs (by omega) name
 have hco:=zd9 l hl hll
 cases hf:findL l name with
 |none=>
  rw[hf]at hp
  simp only[Option.isSome_none]at hp
  have hfr:freeP l name c t=([],0,6):=by unfold freeP;rw[hf]
  rw[hfr]
  repeat'(first|(with_reducible first|refine zaa _ _ ?_|refine zae ?_|refine zaf ?_)|rw[zad]|simp only[zam,zY,Int.reduceEq,Int.reduceBEq,Int.reduceBNe,Nat.reduceSub,Nat.reduceEqDiff,Nat.reduceAdd,Nat.reduceMul,Nat.reduceLeDiff,Nat.reduceLT,Nat.reduceBEq,reduceCtorEq]|((first|((try refine zai ?_);apply zaj)|(apply zah;intro _));(solve|exact(hp)|(refine CallOK.le (hp) ?_;exact zM)|fail);try case hn=>rfl)|refine zab ?_|refine zac (fun hb=> ?_) (fun hb=> ?_)|(refine And.intro ?_ ?_;exact zI)|refine And.intro (fun hg=> ?_) (fun hg=> ?_)|exact zC|fail)
  simp[rfs3,roLe]
 |some k=>
  rw[hf]at hp
  simp only[Option.isSome_some]at hp
  obtain⟨⟨hi,he⟩,hn⟩:=zby hs hf
  have hat:=zaG hi
  rw[he]at hat
  simp only[List.cons_append,List.nil_append]at hat
  have hat1:(locksE l).drop (posL l name*4+1)=iD k.holder::iD k.token:: .sl k.line.length (intsE k.line)::locksE (l.drop (posL l name+1)):=by rw[←List.drop_drop,hat];rfl
  have hat3:(locksE l).drop (posL l name*4+3)= .sl k.line.length (intsE k.line)::locksE (l.drop (posL l name+1)):=by rw[←List.drop_drop,hat];rfl
  have hkl:=hll k (he▸List.getElem_mem hi)
  have hps:=zli l (posL l name) hi hl hll t ht
  rw[he]at hps
  have hlv:=zlM k.line hkl c
  have hset:=zbr Lk.enc 4 (fun _=>rfl) hi (k:=3) (by decide) (.sl (leaveP k.line c).1.length (intsE (leaveP k.line c).1)) ⟨k.name,k.holder,k.token,(leaveP k.line c).1⟩ (by rw[he];rfl)
  have hlb:(leaveP k.line c).2=hasI k.line c:=by
   unfold leaveP hasI
   have:=zcY (fun x=>c==x) k.line
   split
   ·rename_i h;rw[←this];simp;omega
   ·rename_i h;rw[←this];simp;omega
  have hfr:freeP l name c t=if(k.holder==c)=true then((passP l (posL l name) k t).1,(passP l (posL l name) k t).2,0)else
    if hasI k.line c=true then(l.set (posL l name) ⟨k.name,k.holder,k.token,(leaveP k.line c).1⟩,0,0)else([],0,6):=by unfold freeP;rw[hf]
  rw[hfr]
  rw[hlb]at hlv
  cases hh:k.holder==c
  ·rw[if_neg (by simp)]
   cases hi:hasI k.line c
   ·rw[hi]at hlv
    rw[if_neg (by simp)]
    repeat'(first|(with_reducible first|refine zaa _ _ ?_|refine zae ?_|refine zaf ?_)|rw[zad]|simp only[hat1,hat3,hh,←List.map_drop,List.map_cons,hset,rowI,zam,zY,Int.reduceEq,Int.reduceBEq,Int.reduceBNe,Nat.reduceSub,Nat.reduceEqDiff,Nat.reduceAdd,Nat.reduceMul,Nat.reduceLeDiff,Nat.reduceLT,Nat.reduceBEq,reduceCtorEq]|((first|((try refine zai ?_);apply zaj)|(apply zah;intro _));(solve|exact(hp)|exact(hco)|exact(hlv)|(refine CallOK.le (hp) ?_;exact zM)|(refine CallOK.le (hco) ?_;exact zM)|(refine CallOK.le (hlv) ?_;exact zM)|fail);try case hn=>rfl)|refine zab ?_|refine zac (fun hb=> ?_) (fun hb=> ?_)|(refine And.intro ?_ ?_;exact zI)|refine And.intro (fun hg=> ?_) (fun hg=> ?_)|exact zC|fail)
    simp[rfs3,roLe]
   ·rw[hi]at hlv
    rw[if_pos rfl]
    repeat'(first|(with_reducible first|refine zaa _ _ ?_|refine zae ?_|refine zaf ?_)|rw[zad]|simp only[hat1,hat3,hh,←List.map_drop,List.map_cons,hset,rowI,zam,zY,Int.reduceEq,Int.reduceBEq,Int.reduceBNe,Nat.reduceSub,Nat.reduceEqDiff,Nat.reduceAdd,Nat.reduceMul,Nat.reduceLeDiff,Nat.reduceLT,Nat.reduceBEq,reduceCtorEq]|((first|((try refine zai ?_);apply zaj)|(apply zah;intro _));(solve|exact(hp)|exact(hco)|exact(hlv)|(refine CallOK.le (hp) ?_;exact zM)|(refine CallOK.le (hco) ?_;exact zM)|(refine CallOK.le (hlv) ?_;exact zM)|fail);try case hn=>rfl)|refine zab ?_|refine zac (fun hb=> ?_) (fun hb=> ?_)|(refine And.intro ?_ ?_;exact zI)|refine And.intro (fun hg=> ?_) (fun hg=> ?_)|exact zC|fail)
    simp[rfs3,roLe]
  ·rw[if_pos rfl]
   repeat'(first|(with_reducible first|refine zaa _ _ ?_|refine zae ?_|refine zaf ?_)|rw[zad]|simp only[hat1,hh,←List.map_drop,List.map_cons,zam,zY,Int.reduceEq,Int.reduceBEq,Int.reduceBNe,Nat.reduceSub,Nat.reduceEqDiff,Nat.reduceAdd,Nat.reduceMul,Nat.reduceLeDiff,Nat.reduceLT,Nat.reduceBEq,reduceCtorEq]|((first|((try refine zai ?_);apply zaj)|(apply zah;intro _));(solve|exact(hp)|exact(hco)|(refine CallOK.le (hp) ?_;exact zM)|(refine CallOK.le (hco) ?_;exact zM)|fail);try case hn=>rfl)|refine zab ?_|refine zac (fun hb=> ?_) (fun hb=> ?_)|(refine And.intro ?_ ?_;exact zI)|refine And.intro (fun hg=> ?_) (fun hg=> ?_)|exact zC|fail)
   refine zbi (mv:= ?mv3) (lent:= ?le3) 0 ?ha3 (hps) ?hb3 ?hc3
   case ha3=>(try simp only[zB,zaF,Nat.reduceSub,Nat.reduceEqDiff,Nat.reduceAdd,Nat.reduceMul,Nat.reduceLeDiff,Nat.reduceLT,Nat.reduceBEq,reduceCtorEq]);exact rfl
   case hb3=>(try simp only[zB,scM,Nat.reduceSub,Nat.reduceEqDiff,Nat.reduceAdd,Nat.reduceMul,Nat.reduceLeDiff,Nat.reduceLT,Nat.reduceBEq,reduceCtorEq]);repeat'(first|rfl|trivial|omega|with_reducible refine And.intro ?_ ?_)
   show aops _ _ _ _ _ _ _ _
   repeat'(first|(with_reducible first|refine zaa _ _ ?_|refine zae ?_|refine zaf ?_)|rw[zad]|simp only[zY,Int.reduceEq,Int.reduceBEq,Int.reduceBNe,Nat.reduceSub,Nat.reduceEqDiff,Nat.reduceAdd,Nat.reduceMul,Nat.reduceLeDiff,Nat.reduceLT,Nat.reduceBEq,reduceCtorEq]|refine zab ?_|refine zac (fun hb=> ?_) (fun hb=> ?_)|(refine And.intro ?_ ?_;exact zI)|refine And.intro (fun hg=> ?_) (fun hg=> ?_)|exact zC|fail)
   simp[rfs3,roLe]
end Go.Proofs.YtniafckaafcpbaaGreat
