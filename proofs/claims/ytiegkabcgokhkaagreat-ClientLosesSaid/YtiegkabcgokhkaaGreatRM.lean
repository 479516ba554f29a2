import Derived.Test.YtiegkabcgokhkaaGreatRL
import Derived.Test.YtiegkabcgokhkaaGreatJ
namespace Go.Proofs.YtiegkabcgokhkaaGreat
open Go.Pk
set_option maxRecDepth 100000
set_option linter.unusedSimpArgs false
set_option linter.unusedVariables false
def eqG (a b:Grant):Bool:=(a.name.toList==b.name.toList)&&(a.token==b.token)
def sameG (a b:List Grant):Bool:=(a.length==b.length)&&((a.zip b).all fun p=>eqG p.1 p.2)
theorem zgk (a b:List Grant) (ha:a.length<2^30) (hb:b.length<2^30):CallOK Tryz.prog 25 [.f (al a.length (grantsE a)), .f (al b.length (grantsE b))] (fun r o=>r=[rb (sameG a b)]∧o=[]):=by
 refine zal zat mixed (T:=Ty) (n:=26) Tryz.func25 (c:=Tryz.f25.body.getD .skip) rfl Tryz.results25 Tryz.ntmps25 Tryz.call25 ?_
 simp only[Tryz.f25,Option.getD]
 cases hl:((a.length:Int) !=(b.length:Int))
 ·have hle:a.length=b.length:=by simp at hl;omega
  have hs:sameG a b=(a.zip b).all fun p=>eqG p.1 p.2:=by unfold sameG;rw[hle];simp
  rw[hs]
  repeat'(first|(with_reducible first|refine zaa _ _ ?_|refine zad ?_|refine zae ?_)|rw[zaf]|simp only[hl,zY,Int.reduceEq,Int.reduceBEq,Int.reduceBNe,Nat.reduceSub,Nat.reduceEqDiff,Nat.reduceAdd,Nat.reduceMul,Nat.reduceLeDiff,Nat.reduceLT,Nat.reduceBEq,reduceCtorEq]|refine zab ?_|refine zac (fun hb=> ?_) (fun hb=> ?_)|(refine And.intro ?_ ?_;exact zI)|refine And.intro (fun hg=> ?_) (fun hg=> ?_)|exact zC|fail)
  refine zaV (τ:=Nat) (fun i=>⟨[al a.length (grantsE a),al b.length (grantsE b),dd,dd,dd,ai i,dd,dd,dd,dd,dd,dd,dd,dd,dd,dd,dd,dd,dd,dd,dd,dd,dd,dd,dd,dd],[]⟩)
   (fun i=>i≤a.length) (fun i=>((a.drop i).zip (b.drop i)).all fun p=>eqG p.1 p.2) (fun i=>a.length - i) 0
   (Gh.canon [] [] [] zK rfl rfl) (Nat.zero_le _) ?_
  intro i hi0 hF K hK
  rw[List.drop_zero,List.drop_zero]at hF
  repeat(first|with_reducible refine zaa _ _ ?_|with_reducible refine And.imp_right (zaa _ _) ?_|with_reducible refine And.imp_right (And.imp_right (zaa _ _)) ?_|with_reducible refine And.imp_right (And.imp_right (And.imp_right (zaa _ _))) ?_|rw[zaf]|simp only[zB,Nat.reduceSub,Nat.reduceEqDiff,Nat.reduceAdd,Nat.reduceMul,Nat.reduceLeDiff,Nat.reduceLT,Nat.reduceBEq,reduceCtorEq])
  refine zac (fun hlt=> ?_) (fun hge=> ?_)
  ·have hi:i<a.length:=by simpa using hlt
   have hib:i<b.length:=by omega
   have hat:=zaP hi
   have hbt:=zaP hib
   have hw:=za3 hi (by omega)
   have hq:(((a.drop i).zip (b.drop i)).all fun p=>eqG p.1 p.2)=(eqG a[i] b[i]&&(((a.drop (i+1)).zip (b.drop (i+1))).all fun p=>eqG p.1 p.2)):=by
    rw[List.drop_eq_getElem_cons hi,List.drop_eq_getElem_cons hib,List.zip_cons_cons,List.all_cons]
   rw[hq]at hF
   have hlb:decide ((i:Int)<b.length)=true:=by simp;omega
   repeat'(first|(with_reducible first|refine zaa _ _ ?_|refine zad ?_|refine zae ?_)|rw[zaf]|simp only[hat,hbt,hlb,List.cons_append,List.nil_append,zaD,zY,Int.reduceEq,Int.reduceBEq,Int.reduceBNe,Nat.reduceSub,Nat.reduceEqDiff,Nat.reduceAdd,Nat.reduceMul,Nat.reduceLeDiff,Nat.reduceLT,Nat.reduceBEq,reduceCtorEq]|refine zab ?_|refine zac (fun hb=> ?_) (fun hb=> ?_)|(refine And.intro ?_ ?_;exact zI)|refine And.intro (fun hg=> ?_) (fun hg=> ?_)|exact zC|fail)
   ·have he:eqG a[i] b[i]=false:=by rw[eqG];simpa only[Bool.not_eq_true']using hb
    rw[he,Bool.false_and]at hF
    rw[←hF]
   ·have he:eqG a[i] b[i]=true:=by rw[eqG];simpa only[Bool.not_eq_false']using hb
    rw[he,Bool.true_and]at hq
    exact hK _ (i+1) (Gh.canon [] [] [] (by simp only[hw,zaq,zaE,zar,zaw,zax,zay,List.set_cons_zero,List.set_cons_succ,and_true,true_and,Int.natCast_zero,Int.cast_ofNat_Int,D.v.injEq,Value.int.injEq];try(repeat'(first|rfl|omega|with_reducible apply And.intro))) rfl rfl) hi hq.symm (by omega)
  ·have hi:i=a.length:=by
    have:¬(i:Int)<a.length:=by simpa using hge
    omega
   rw[hi,List.drop_length,List.zip_nil_left,List.all_nil]at hF
   rw[←hF]
   repeat'(first|(with_reducible first|refine zaa _ _ ?_|refine zad ?_|refine zae ?_)|rw[zaf]|simp only[zY,Int.reduceEq,Int.reduceBEq,Int.reduceBNe,Nat.reduceSub,Nat.reduceEqDiff,Nat.reduceAdd,Nat.reduceMul,Nat.reduceLeDiff,Nat.reduceLT,Nat.reduceBEq,reduceCtorEq]|refine zab ?_|refine zac (fun hb=> ?_) (fun hb=> ?_)|(refine And.intro ?_ ?_;exact zI)|refine And.intro (fun hg=> ?_) (fun hg=> ?_)|exact zC|fail)
 ·have hs:sameG a b=false:=by
   have:(a.length==b.length)=false:=by simp at hl⊢;omega
   unfold sameG;rw[this];rfl
  rw[hs]
  repeat'(first|(with_reducible first|refine zaa _ _ ?_|refine zad ?_|refine zae ?_)|rw[zaf]|simp only[hl,zY,Int.reduceEq,Int.reduceBEq,Int.reduceBNe,Nat.reduceSub,Nat.reduceEqDiff,Nat.reduceAdd,Nat.reduceMul,Nat.reduceLeDiff,Nat.reduceLT,Nat.reduceBEq,reduceCtorEq]|refine zab ?_|refine zac (fun hb=> ?_) (fun hb=> ?_)|(refine And.intro ?_ ?_;exact zI)|refine And.intro (fun hg=> ?_) (fun hg=> ?_)|exact zC|fail)
theorem zg3:CallOK Tryz.prog 187 [.f anil, .f anil] (fun r o=>r=[rb true]∧o=[]):=by
 refine zal zat mixed (T:=Ty) (n:=26) Tryz.func187 (c:=Tryz.f187.body.getD .skip) rfl Tryz.results187 Tryz.ntmps187 Tryz.call187 ?_
 simp only[Tryz.f187,Option.getD]
 repeat'(first|(with_reducible first|refine zaa _ _ ?_|refine zad ?_|refine zae ?_)|rw[zaf]|simp only[zY,Int.reduceEq,Int.reduceBEq,Int.reduceBNe,Nat.reduceSub,Nat.reduceEqDiff,Nat.reduceAdd,Nat.reduceMul,Nat.reduceLeDiff,Nat.reduceLT,Nat.reduceBEq,reduceCtorEq]|refine zab ?_|refine zac (fun hb=> ?_) (fun hb=> ?_)|(refine And.intro ?_ ?_;exact zI)|refine And.intro (fun hg=> ?_) (fun hg=> ?_)|exact zC|fail)
 refine zaW Ty Tryz.prog (τ:=Unit) (fun _=>⟨[anil,anil,dd,dd,dd,ai 0,dd,dd,dd,dd,dd,dd,dd,dd,dd,dd,dd,dd,dd,dd,dd,dd,dd,dd,dd,dd],[]⟩) (fun _=>True) (fun _=>0) ()
  (Gh.canon [] [] [] zK rfl rfl) trivial ?_
 intro _ _ K hK
 have h0:decide ((0:Int)<0)=false:=rfl
 repeat'(first|(with_reducible first|refine zaa _ _ ?_|refine zad ?_|refine zae ?_)|rw[zaf]|simp only[h0,zY,Int.reduceEq,Int.reduceBEq,Int.reduceBNe,Nat.reduceSub,Nat.reduceEqDiff,Nat.reduceAdd,Nat.reduceMul,Nat.reduceLeDiff,Nat.reduceLT,Nat.reduceBEq,reduceCtorEq]|refine zab ?_|refine zac (fun hb=> ?_) (fun hb=> ?_)|(refine And.intro ?_ ?_;exact zI)|refine And.intro (fun hg=> ?_) (fun hg=> ?_)|exact zC|fail)
theorem zg4:CallOK Tryz.prog 206 [.f anil, .f anil] (fun r o=>r=[rb true]∧o=[]):=by
 refine zal zat mixed (T:=Ty) (n:=26) Tryz.func206 (c:=Tryz.f206.body.getD .skip) rfl Tryz.results206 Tryz.ntmps206 Tryz.call206 ?_
 simp only[Tryz.f206,Option.getD]
 repeat'(first|(with_reducible first|refine zaa _ _ ?_|refine zad ?_|refine zae ?_)|rw[zaf]|simp only[zY,Int.reduceEq,Int.reduceBEq,Int.reduceBNe,Nat.reduceSub,Nat.reduceEqDiff,Nat.reduceAdd,Nat.reduceMul,Nat.reduceLeDiff,Nat.reduceLT,Nat.reduceBEq,reduceCtorEq]|refine zab ?_|refine zac (fun hb=> ?_) (fun hb=> ?_)|(refine And.intro ?_ ?_;exact zI)|refine And.intro (fun hg=> ?_) (fun hg=> ?_)|exact zC|fail)
 refine zaW Ty Tryz.prog (τ:=Unit) (fun _=>⟨[anil,anil,dd,dd,dd,ai 0,dd,dd,dd,dd,dd,dd,dd,dd,dd,dd,dd,dd,dd,dd,dd,dd,dd,dd,dd,dd],[]⟩) (fun _=>True) (fun _=>0) ()
  (Gh.canon [] [] [] zK rfl rfl) trivial ?_
 intro _ _ K hK
 have h0:decide ((0:Int)<0)=false:=rfl
 repeat'(first|(with_reducible first|refine zaa _ _ ?_|refine zad ?_|refine zae ?_)|rw[zaf]|simp only[h0,zY,Int.reduceEq,Int.reduceBEq,Int.reduceBNe,Nat.reduceSub,Nat.reduceEqDiff,Nat.reduceAdd,Nat.reduceMul,Nat.reduceLeDiff,Nat.reduceLT,Nat.reduceBEq,reduceCtorEq]|refine zab ?_|refine zac (fun hb=> ?_) (fun hb=> ?_)|(refine And.intro ?_ ?_;exact zI)|refine And.intro (fun hg=> ?_) (fun hg=> ?_)|exact zC|fail)
theorem zfD:CallOK Tryz.prog 207 [.f anil, .f anil] (fun r o=>r=[rb true]∧o=[]):=by
 refine zal zat mixed (T:=Ty) (n:=68) Tryz.func207 (c:=Tryz.f207.body.getD .skip) rfl Tryz.results207 Tryz.ntmps207 Tryz.call207 ?_
 simp only[Tryz.f207,Option.getD]
 repeat'(first|(with_reducible first|refine zaa _ _ ?_|refine zad ?_|refine zae ?_)|rw[zaf]|simp only[zY,Int.reduceEq,Int.reduceBEq,Int.reduceBNe,Nat.reduceSub,Nat.reduceEqDiff,Nat.reduceAdd,Nat.reduceMul,Nat.reduceLeDiff,Nat.reduceLT,Nat.reduceBEq,reduceCtorEq]|refine zab ?_|refine zac (fun hb=> ?_) (fun hb=> ?_)|(refine And.intro ?_ ?_;exact zI)|refine And.intro (fun hg=> ?_) (fun hg=> ?_)|exact zC|fail)
 refine zaW Ty Tryz.prog (τ:=Unit) (fun _=>⟨[anil,anil,dd,dd,dd,ai 0,dd,dd,dd,dd,dd,dd,dd,dd,dd,dd,dd,dd,dd,dd,dd,dd,dd,dd,dd,dd,dd,dd,dd,dd,dd,dd,dd,dd,dd,dd,dd,dd,dd,dd,dd,dd,dd,dd,dd,dd,dd,dd,dd,dd,dd,dd,dd,dd,dd,dd,dd,dd,dd,dd,dd,dd,dd,dd,dd,dd,dd,dd],[]⟩) (fun _=>True) (fun _=>0) ()
  (Gh.canon [] [] [] zK rfl rfl) trivial ?_
 intro _ _ K hK
 have h0:decide ((0:Int)<0)=false:=rfl
 repeat'(first|(with_reducible first|refine zaa _ _ ?_|refine zad ?_|refine zae ?_)|rw[zaf]|simp only[h0,zY,Int.reduceEq,Int.reduceBEq,Int.reduceBNe,Nat.reduceSub,Nat.reduceEqDiff,Nat.reduceAdd,Nat.reduceMul,Nat.reduceLeDiff,Nat.reduceLT,Nat.reduceBEq,reduceCtorEq]|refine zab ?_|refine zac (fun hb=> ?_) (fun hb=> ?_)|(refine And.intro ?_ ?_;exact zI)|refine And.intro (fun hg=> ?_) (fun hg=> ?_)|exact zC|fail)
theorem zfE:CallOK Tryz.prog 208 [.f anil, .f anil] (fun r o=>r=[rb true]∧o=[]):=by
 refine zal zat mixed (T:=Ty) (n:=55) Tryz.func208 (c:=Tryz.f208.body.getD .skip) rfl Tryz.results208 Tryz.ntmps208 Tryz.call208 ?_
 simp only[Tryz.f208,Option.getD]
 repeat'(first|(with_reducible first|refine zaa _ _ ?_|refine zad ?_|refine zae ?_)|rw[zaf]|simp only[zY,Int.reduceEq,Int.reduceBEq,Int.reduceBNe,Nat.reduceSub,Nat.reduceEqDiff,Nat.reduceAdd,Nat.reduceMul,Nat.reduceLeDiff,Nat.reduceLT,Nat.reduceBEq,reduceCtorEq]|refine zab ?_|refine zac (fun hb=> ?_) (fun hb=> ?_)|(refine And.intro ?_ ?_;exact zI)|refine And.intro (fun hg=> ?_) (fun hg=> ?_)|exact zC|fail)
 refine zaW Ty Tryz.prog (τ:=Unit) (fun _=>⟨[anil,anil,dd,dd,dd,ai 0,dd,dd,dd,dd,dd,dd,dd,dd,dd,dd,dd,dd,dd,dd,dd,dd,dd,dd,dd,dd,dd,dd,dd,dd,dd,dd,dd,dd,dd,dd,dd,dd,dd,dd,dd,dd,dd,dd,dd,dd,dd,dd,dd,dd,dd,dd,dd,dd,dd],[]⟩) (fun _=>True) (fun _=>0) ()
  (Gh.canon [] [] [] zK rfl rfl) trivial ?_
 intro _ _ K hK
 have h0:decide ((0:Int)<0)=false:=rfl
 repeat'(first|(with_reducible first|refine zaa _ _ ?_|refine zad ?_|refine zae ?_)|rw[zaf]|simp only[h0,zY,Int.reduceEq,Int.reduceBEq,Int.reduceBNe,Nat.reduceSub,Nat.reduceEqDiff,Nat.reduceAdd,Nat.reduceMul,Nat.reduceLeDiff,Nat.reduceLT,Nat.reduceBEq,reduceCtorEq]|refine zab ?_|refine zac (fun hb=> ?_) (fun hb=> ?_)|(refine And.intro ?_ ?_;exact zI)|refine And.intro (fun hg=> ?_) (fun hg=> ?_)|exact zC|fail)
theorem zfF:CallOK Tryz.prog 188 [.f anil, .f anil] (fun r o=>r=[rb true]∧o=[]):=by
 refine zal zat mixed (T:=Ty) (n:=55) Tryz.func188 (c:=Tryz.f188.body.getD .skip) rfl Tryz.results188 Tryz.ntmps188 Tryz.call188 ?_
 simp only[Tryz.f188,Option.getD]
 repeat'(first|(with_reducible first|refine zaa _ _ ?_|refine zad ?_|refine zae ?_)|rw[zaf]|simp only[zY,Int.reduceEq,Int.reduceBEq,Int.reduceBNe,Nat.reduceSub,Nat.reduceEqDiff,Nat.reduceAdd,Nat.reduceMul,Nat.reduceLeDiff,Nat.reduceLT,Nat.reduceBEq,reduceCtorEq]|refine zab ?_|refine zac (fun hb=> ?_) (fun hb=> ?_)|(refine And.intro ?_ ?_;exact zI)|refine And.intro (fun hg=> ?_) (fun hg=> ?_)|exact zC|fail)
 refine zaW Ty Tryz.prog (τ:=Unit) (fun _=>⟨[anil,anil,dd,dd,dd,ai 0,dd,dd,dd,dd,dd,dd,dd,dd,dd,dd,dd,dd,dd,dd,dd,dd,dd,dd,dd,dd,dd,dd,dd,dd,dd,dd,dd,dd,dd,dd,dd,dd,dd,dd,dd,dd,dd,dd,dd,dd,dd,dd,dd,dd,dd,dd,dd,dd,dd],[]⟩) (fun _=>True) (fun _=>0) ()
  (Gh.canon [] [] [] zK rfl rfl) trivial ?_
 intro _ _ K hK
 have h0:decide ((0:Int)<0)=false:=rfl
 repeat'(first|(with_reducible first|refine zaa _ _ ?_|refine zad ?_|refine zae ?_)|rw[zaf]|simp only[h0,zY,Int.reduceEq,Int.reduceBEq,Int.reduceBNe,Nat.reduceSub,Nat.reduceEqDiff,Nat.reduceAdd,Nat.reduceMul,Nat.reduceLeDiff,Nat.reduceLT,Nat.reduceBEq,reduceCtorEq]|refine zab ?_|refine zac (fun hb=> ?_) (fun hb=> ?_)|(refine And.intro ?_ ?_;exact zI)|refine And.intro (fun hg=> ?_) (fun hg=> ?_)|exact zC|fail)
theorem zfG:CallOK Tryz.prog 149 [.f (.agg [db false,di 0,di 0,di 0,di 0,dn]), .f (.agg [db false,di 0,di 0,di 0,di 0,dn])] (fun r o=>r=[rb true]∧o=[]):=by
 refine zal zat mixed (T:=Ty) (n:=38) Tryz.func149 (c:=Tryz.f149.body.getD .skip) rfl Tryz.results149 Tryz.ntmps149 Tryz.call149 ?_
 simp only[Tryz.f149,Option.getD]
 repeat'(first|(with_reducible first|refine zaa _ _ ?_|refine zad ?_|refine zae ?_)|rw[zaf]|simp only[zY,Int.reduceEq,Int.reduceBEq,Int.reduceBNe,Nat.reduceSub,Nat.reduceEqDiff,Nat.reduceAdd,Nat.reduceMul,Nat.reduceLeDiff,Nat.reduceLT,Nat.reduceBEq,reduceCtorEq]|((first|((try refine zah ?_);apply zak)|(apply zai;intro _));(solve|exact(zg3)|(refine CallOK.le (zg3) ?_;exact zM)|fail);try case hn=>rfl)|refine zab ?_|refine zac (fun hb=> ?_) (fun hb=> ?_)|(refine And.intro ?_ ?_;exact zI)|refine And.intro (fun hg=> ?_) (fun hg=> ?_)|exact zC|fail)
theorem zg5:CallOK Tryz.prog 150 [.f (.agg [di 0,di 0,di 0,di 0,di 0,dn]), .f (.agg [di 0,di 0,di 0,di 0,di 0,dn])] (fun r o=>r=[rb true]∧o=[]):=by
 refine zal zat mixed (T:=Ty) (n:=38) Tryz.func150 (c:=Tryz.f150.body.getD .skip) rfl Tryz.results150 Tryz.ntmps150 Tryz.call150 ?_
 simp only[Tryz.f150,Option.getD]
 repeat'(first|(with_reducible first|refine zaa _ _ ?_|refine zad ?_|refine zae ?_)|rw[zaf]|simp only[zY,Int.reduceEq,Int.reduceBEq,Int.reduceBNe,Nat.reduceSub,Nat.reduceEqDiff,Nat.reduceAdd,Nat.reduceMul,Nat.reduceLeDiff,Nat.reduceLT,Nat.reduceBEq,reduceCtorEq]|((first|((try refine zah ?_);apply zak)|(apply zai;intro _));(solve|exact(zfF)|(refine CallOK.le (zfF) ?_;exact zM)|fail);try case hn=>rfl)|refine zab ?_|refine zac (fun hb=> ?_) (fun hb=> ?_)|(refine And.intro ?_ ?_;exact zI)|refine And.intro (fun hg=> ?_) (fun hg=> ?_)|exact zC|fail)
theorem zeR:CallOK Tryz.prog 189 [.f (.agg [di 0,di 0,di 0,dn,dn,dn]), .f (.agg [di 0,di 0,di 0,dn,dn,dn])] (fun r o=>r=[rb true]∧o=[]):=by
 refine zal zat mixed (T:=Ty) (n:=45) Tryz.func189 (c:=Tryz.f189.body.getD .skip) rfl Tryz.results189 Tryz.ntmps189 Tryz.call189 ?_
 simp only[Tryz.f189,Option.getD]
 repeat'(first|(with_reducible first|refine zaa _ _ ?_|refine zad ?_|refine zae ?_)|rw[zaf]|simp only[zY,Int.reduceEq,Int.reduceBEq,Int.reduceBNe,Nat.reduceSub,Nat.reduceEqDiff,Nat.reduceAdd,Nat.reduceMul,Nat.reduceLeDiff,Nat.reduceLT,Nat.reduceBEq,reduceCtorEq]|((first|((try refine zah ?_);apply zak)|(apply zai;intro _));(solve|exact(zg4)|exact(zfD)|exact(zfE)|(refine CallOK.le (zg4) ?_;exact zM)|(refine CallOK.le (zfD) ?_;exact zM)|(refine CallOK.le (zfE) ?_;exact zM)|fail);try case hn=>rfl)|refine zab ?_|refine zac (fun hb=> ?_) (fun hb=> ?_)|(refine And.intro ?_ ?_;exact zI)|refine And.intro (fun hg=> ?_) (fun hg=> ?_)|exact zC|fail)
theorem zg6:CallOK Tryz.prog 151 [.f (.agg [di 0,di 0,di 0,di 0,di 0,di 0,dn,dn,dn]), .f (.agg [di 0,di 0,di 0,di 0,di 0,di 0,dn,dn,dn])] (fun r o=>r=[rb true]∧o=[]):=by
 refine zal zat mixed (T:=Ty) (n:=24) Tryz.func151 (c:=Tryz.f151.body.getD .skip) rfl Tryz.results151 Tryz.ntmps151 Tryz.call151 ?_
 simp only[Tryz.f151,Option.getD]
 repeat'(first|(with_reducible first|refine zaa _ _ ?_|refine zad ?_|refine zae ?_)|rw[zaf]|simp only[zY,Int.reduceEq,Int.reduceBEq,Int.reduceBNe,Nat.reduceSub,Nat.reduceEqDiff,Nat.reduceAdd,Nat.reduceMul,Nat.reduceLeDiff,Nat.reduceLT,Nat.reduceBEq,reduceCtorEq]|((first|((try refine zah ?_);apply zak)|(apply zai;intro _));(solve|exact(zeR)|(refine CallOK.le (zeR) ?_;exact zM)|fail);try case hn=>rfl)|refine zab ?_|refine zac (fun hb=> ?_) (fun hb=> ?_)|(refine And.intro ?_ ?_;exact zI)|refine And.intro (fun hg=> ?_) (fun hg=> ?_)|exact zC|fail)
theorem zkv (n m:Int):CallOK Tryz.prog 111 [.f (ai n), .f (ai m)] (fun r o=>r=[rb (decide (n≥m)&&decide (n≤2305843009213693952))]∧o=[]):=by
 refine zal zat mixed (T:=Ty) (n:=12) Tryz.func111 (c:=Tryz.f111.body.getD .skip) rfl Tryz.results111 Tryz.ntmps111 Tryz.call111 ?_
 simp only[Tryz.f111,Option.getD]
 cases h:decide (n≥m)
 ·repeat'(first|(with_reducible first|refine zaa _ _ ?_|refine zad ?_|refine zae ?_)|rw[zaf]|simp only[h,zY,Int.reduceEq,Int.reduceBEq,Int.reduceBNe,Nat.reduceSub,Nat.reduceEqDiff,Nat.reduceAdd,Nat.reduceMul,Nat.reduceLeDiff,Nat.reduceLT,Nat.reduceBEq,reduceCtorEq]|refine zab ?_|refine zac (fun hb=> ?_) (fun hb=> ?_)|(refine And.intro ?_ ?_;exact zI)|refine And.intro (fun hg=> ?_) (fun hg=> ?_)|exact zC|fail)
 ·repeat'(first|(with_reducible first|refine zaa _ _ ?_|refine zad ?_|refine zae ?_)|rw[zaf]|simp only[h,zY,Int.reduceEq,Int.reduceBEq,Int.reduceBNe,Nat.reduceSub,Nat.reduceEqDiff,Nat.reduceAdd,Nat.reduceMul,Nat.reduceLeDiff,Nat.reduceLT,Nat.reduceBEq,reduceCtorEq]|refine zab ?_|refine zac (fun hb=> ?_) (fun hb=> ?_)|(refine And.intro ?_ ?_;exact zI)|refine And.intro (fun hg=> ?_) (fun hg=> ?_)|exact zC|fail)
theorem zer (n m:Int):CallOK Tryz.prog 152 [.f (ai n), .f (ai m)] (fun r o=>r=[rb (decide (n≥m)&&decide (n≤2305843009213693952))]∧o=[]):=by
 refine zal zat mixed (T:=Ty) (n:=12) Tryz.func152 (c:=Tryz.f152.body.getD .skip) rfl Tryz.results152 Tryz.ntmps152 Tryz.call152 ?_
 simp only[Tryz.f152,Option.getD]
 cases h:decide (n≥m)
 ·repeat'(first|(with_reducible first|refine zaa _ _ ?_|refine zad ?_|refine zae ?_)|rw[zaf]|simp only[h,zY,Int.reduceEq,Int.reduceBEq,Int.reduceBNe,Nat.reduceSub,Nat.reduceEqDiff,Nat.reduceAdd,Nat.reduceMul,Nat.reduceLeDiff,Nat.reduceLT,Nat.reduceBEq,reduceCtorEq]|refine zab ?_|refine zac (fun hb=> ?_) (fun hb=> ?_)|(refine And.intro ?_ ?_;exact zI)|refine And.intro (fun hg=> ?_) (fun hg=> ?_)|exact zC|fail)
 ·repeat'(first|(with_reducible first|refine zaa _ _ ?_|refine zad ?_|refine zae ?_)|rw[zaf]|simp only[h,zY,Int.reduceEq,Int.reduceBEq,Int.reduceBNe,Nat.reduceSub,Nat.reduceEqDiff,Nat.reduceAdd,Nat.reduceMul,Nat.reduceLeDiff,Nat.reduceLT,Nat.reduceBEq,reduceCtorEq]|refine zab ?_|refine zac (fun hb=> ?_) (fun hb=> ?_)|(refine And.intro ?_ ?_;exact zI)|refine And.intro (fun hg=> ?_) (fun hg=> ?_)|exact zC|fail)
def shV (v:Int) (j:Nat):Int:=v.fdiv (2^(8*(8 - j)))
abbrev numE (v:Int) (j:Nat):List D:=(List.range 8).map fun m=>uD (if j≤m then byteAt v m else 0)
theorem zlB (v:Int) (k:Nat) (hk:k<8):(numE v (k+1)).set k (uD (byteAt v k))=numE v k:=by
 apply List.ext_getElem
 ·simp
 ·intro m h1 h2
  simp only[List.length_set,List.length_map,List.length_range]at h1
  rw[List.getElem_set]
  simp only[List.getElem_map,List.getElem_range]
  split
  ·rename_i e;subst e;rw[if_pos (Nat.le_refl _)]
  ·rename_i e
   by_cases h:k+1≤m
   ·rw[if_pos h,if_pos (by omega)]
   ·rw[if_neg h,if_neg (by omega)]
theorem zgl (v:Int) (h:0≤v∧v<4611686018427387904):CallOK Tryz.prog 78 [.f (ai v)] (fun r o=>r=[.one (.own 1 8 (bytesE (numB v)) false)]∧o=[]):=by
 refine zal zat mixed (T:=Ty) (n:=18) Tryz.func78 (c:=Tryz.f78.body.getD .skip) rfl Tryz.results78 Tryz.ntmps78 Tryz.call78 ?_
 simp only[Tryz.f78,Option.getD]
 have hv8:shV v 8=v:=by unfold shV;simp
 repeat'(first|(with_reducible first|refine zaa _ _ ?_|refine zad ?_|refine zae ?_)|rw[zaf]|simp only[zY,Int.reduceEq,Int.reduceBEq,Int.reduceBNe,Nat.reduceSub,Nat.reduceEqDiff,Nat.reduceAdd,Nat.reduceMul,Nat.reduceLeDiff,Nat.reduceLT,Nat.reduceBEq,reduceCtorEq]|refine zab ?_|refine zac (fun hb=> ?_) (fun hb=> ?_)|(refine And.intro ?_ ?_;exact zI)|refine And.intro (fun hg=> ?_) (fun hg=> ?_)|exact zC|fail)
 refine zaV (τ:=Nat) (fun j=>⟨[ai (shV v j),dd,dd, .one (.own ⟨3,1,1⟩ 0 8),ai ((j:Int) - 1),dd,dd,dd,dd,dd,dd,dd,dd,dd,dd,dd,dd,dd],[(5,⟨2,[]⟩),(3,{next:=2,l:=[none,some {e:=1,var:=false,fz:=false,sz:=1,cells:=(numE v j).map C.d}]})]⟩)
  (fun j=>j≤8) (fun _=>()) (fun j=>j) 8
  (Gh.canon [3] [] [] (by simp only[hv8,zaq,zaE,zar,zaw,zax,zay,List.set_cons_zero,List.set_cons_succ,and_true,true_and,Int.natCast_zero,Int.cast_ofNat_Int,D.v.injEq,Value.int.injEq];try(repeat'(first|rfl|omega|with_reducible apply And.intro))) rfl rfl) (Nat.le_refl _) ?_
 intro j hj0 hF K hK
 repeat(first|with_reducible refine zaa _ _ ?_|with_reducible refine And.imp_right (zaa _ _) ?_|with_reducible refine And.imp_right (And.imp_right (zaa _ _)) ?_|with_reducible refine And.imp_right (And.imp_right (And.imp_right (zaa _ _))) ?_|rw[zaf]|simp only[zB,Nat.reduceSub,Nat.reduceEqDiff,Nat.reduceAdd,Nat.reduceMul,Nat.reduceLeDiff,Nat.reduceLT,Nat.reduceBEq,reduceCtorEq])
 refine zac (fun hlt=> ?_) (fun hge=> ?_)
 ·obtain⟨k,rfl⟩:∃k,j=k+1:=⟨j - 1,by simp at hlt;omega⟩
  have hk:((((k+1:Nat):Int)) - 1)=(k:Int):=by omega
  have hge0:decide ((k:Int)≥0)=true:=by simp
  have w1:IntKind.i64.wrap ((k:Int) - 1)=(k:Int) - 1:=wrap64 (by omega) (by omega)
  have hb0:0≤shV v (k+1)∧shV v (k+1)≤v:=by
   unfold shV
   rw[Int.fdiv_eq_ediv_of_nonneg _ (Int.pow_nonneg (by decide))]
   exact⟨Int.ediv_nonneg h.1 (Int.pow_nonneg (by decide)),Int.ediv_le_self _ h.1⟩
  have w2:IntKind.u8.wrap (shV v (k+1))=byteAt v k:=by unfold byteAt shV;rw[show 8 - (k+1)=7 - k from by omega]
  have w3:(shV v (k+1)).fdiv (2^8)=shV v k:=by
   have p0:∀n:Nat,(0:Int)≤2^n:=fun n=>Int.pow_nonneg (by decide)
   unfold shV
   rw[Int.fdiv_eq_ediv_of_nonneg v (p0 (8*(8 - (k+1)))),Int.fdiv_eq_ediv_of_nonneg _ (p0 8),Int.fdiv_eq_ediv_of_nonneg v (p0 (8*(8 - k))),Int.ediv_ediv_of_nonneg (p0 _),←Int.pow_add,show 8*(8 - (k+1))+8=8*(8 - k) from by omega]
  have w4:IntKind.i64.wrap (shV v k)=shV v k:=by
   have:0≤shV v k∧shV v k≤v:=by
    unfold shV
    rw[Int.fdiv_eq_ediv_of_nonneg _ (Int.pow_nonneg (by decide))]
    exact⟨Int.ediv_nonneg h.1 (Int.pow_nonneg (by decide)),Int.ediv_le_self _ h.1⟩
   exact wrap64 (by omega) (by omega)
  have hset:((numE v (k+1)).map C.d).set k (C.d (uD (byteAt v k)))=(numE v k).map C.d:=by
   rw[←zlB v k (by omega),List.map_set]
  have hle:(k+1≤8)=True:=eq_true hj0
  have h8:(if(8:Int)<0 then none else some (Value.int .i64 ((shV v (k+1)).fdiv (2^min (Int.toNat 8) IntKind.i64.bits))))=some (Value.int .i64 (shV v k)):=by
   rw[if_neg (by decide),show min (Int.toNat 8) IntKind.i64.bits=8 from rfl,w3]
  repeat'(first|(with_reducible first|refine zaa _ _ ?_|refine zad ?_|refine zae ?_)|rw[zaf]|simp only[hk,w1,w2,h8,hset,List.length_range,hle,Int.toNat_natCast,zY,Int.reduceEq,Int.reduceBEq,Int.reduceBNe,Nat.reduceSub,Nat.reduceEqDiff,Nat.reduceAdd,Nat.reduceMul,Nat.reduceLeDiff,Nat.reduceLT,Nat.reduceBEq,reduceCtorEq]|refine zab ?_|refine zac (fun hb=> ?_) (fun hb=> ?_)|(refine And.intro ?_ ?_;exact zI)|refine And.intro (fun hg=> ?_) (fun hg=> ?_)|exact zC|fail)
  exact hK _ k (Gh.canon [3] [] [] zK rfl rfl) (by omega) rfl (by omega)
 ·have hj:j=0:=by simp at hge;omega
  subst hj
  repeat'(first|(with_reducible first|refine zaa _ _ ?_|refine zad ?_|refine zae ?_)|rw[zaf]|simp only[zY,Int.reduceEq,Int.reduceBEq,Int.reduceBNe,Nat.reduceSub,Nat.reduceEqDiff,Nat.reduceAdd,Nat.reduceMul,Nat.reduceLeDiff,Nat.reduceLT,Nat.reduceBEq,reduceCtorEq]|refine zab ?_|refine zac (fun hb=> ?_) (fun hb=> ?_)|(refine And.intro ?_ ?_;exact zI)|refine And.intro (fun hg=> ?_) (fun hg=> ?_)|exact zC|fail)
  rfl
theorem zd7 (r:Reply) (h:r.held.length<2^30):CallOK Tryz.prog 186 [.f (.agg r.lent), .f (.agg r.lent)] (fun x o=>x=[rb true]∧o=[]):=by
 refine zal zat mixed (T:=Ty) (n:=31) Tryz.func186 (c:=Tryz.f186.body.getD .skip) rfl Tryz.results186 Tryz.ntmps186 Tryz.call186 ?_
 simp only[Tryz.f186,Option.getD]
 have hs:=zgk r.held r.held h h
 have:sameG r.held r.held=true:=by
  unfold sameG
  rw[beq_self_eq_true,Bool.true_and,List.all_eq_true]
  intro p hp
  have:p.1=p.2:=by
   obtain⟨i,h1,h2⟩:=List.getElem_of_mem hp
   rw[←h2,List.getElem_zip]
  rw[this,eqG,beq_self_eq_true,beq_self_eq_true];rfl
 rw[this]at hs
 repeat'(first|(with_reducible first|refine zaa _ _ ?_|refine zad ?_|refine zae ?_)|rw[zaf]|simp only[beq_self_eq_true,zY,Int.reduceEq,Int.reduceBEq,Int.reduceBNe,Nat.reduceSub,Nat.reduceEqDiff,Nat.reduceAdd,Nat.reduceMul,Nat.reduceLeDiff,Nat.reduceLT,Nat.reduceBEq,reduceCtorEq]|((first|((try refine zah ?_);apply zak)|(apply zai;intro _));(solve|exact(hs)|(refine CallOK.le (hs) ?_;exact zM)|fail);try case hn=>rfl)|refine zab ?_|refine zac (fun hb=> ?_) (fun hb=> ?_)|(refine And.intro ?_ ?_;exact zI)|refine And.intro (fun hg=> ?_) (fun hg=> ?_)|exact zC|fail)
theorem zdI (m:Memo) (h:m.reply.held.length<2^30):CallOK Tryz.prog 148 [.f (.agg m.lent), .f (.agg m.lent)] (fun x o=>x=[rb true]∧o=[]):=by
 refine zal zat mixed (T:=Ty) (n:=24) Tryz.func148 (c:=Tryz.f148.body.getD .skip) rfl Tryz.results148 Tryz.ntmps148 Tryz.call148 ?_
 simp only[Tryz.f148,Option.getD]
 repeat'(first|(with_reducible first|refine zaa _ _ ?_|refine zad ?_|refine zae ?_)|rw[zaf]|simp only[beq_self_eq_true,zY,Int.reduceEq,Int.reduceBEq,Int.reduceBNe,Nat.reduceSub,Nat.reduceEqDiff,Nat.reduceAdd,Nat.reduceMul,Nat.reduceLeDiff,Nat.reduceLT,Nat.reduceBEq,reduceCtorEq]|((first|((try refine zah ?_);apply zak)|(apply zai;intro _));(solve|exact(zd7 m.reply h)|(refine CallOK.le (zd7 m.reply h) ?_;exact zM)|fail);try case hn=>rfl)|refine zab ?_|refine zac (fun hb=> ?_) (fun hb=> ?_)|(refine And.intro ?_ ?_;exact zI)|refine And.intro (fun hg=> ?_) (fun hg=> ?_)|exact zC|fail)
theorem zkw (m:Memo):CallOK Tryz.prog 110 [.f (.agg ((pkMD m).map C.d))] (fun x o=>x=[.agg ((pkMD m).map RO.d)]∧o=[]):=by
 refine zal zat mixed (T:=Ty) (n:=63) Tryz.func110 (c:=Tryz.f110.body.getD .skip) rfl Tryz.results110 Tryz.ntmps110 Tryz.call110 ?_
 simp only[Tryz.f110,Option.getD]
 repeat'(first|(with_reducible first|refine zaa _ _ ?_|refine zad ?_|refine zae ?_)|rw[zaf]|simp only[zY,Int.reduceEq,Int.reduceBEq,Int.reduceBNe,Nat.reduceSub,Nat.reduceEqDiff,Nat.reduceAdd,Nat.reduceMul,Nat.reduceLeDiff,Nat.reduceLT,Nat.reduceBEq,reduceCtorEq]|refine zab ?_|refine zac (fun hb=> ?_) (fun hb=> ?_)|(refine And.intro ?_ ?_;exact zI)|refine And.intro (fun hg=> ?_) (fun hg=> ?_)|exact zC|fail)
theorem zg7 (m:Memo) (h:m.reply.held.length<2^30):CallOK Tryz.prog 109 [.f (.agg (pkM m)), .f (.agg (pkM m))] (fun x o=>x=[rb true]∧o=[]):=by
 refine zal zat mixed (T:=Ty) (n:=66) Tryz.func109 (c:=Tryz.f109.body.getD .skip) rfl Tryz.results109 Tryz.ntmps109 Tryz.call109 ?_
 simp only[Tryz.f109,Option.getD]
 repeat'(first|(with_reducible first|refine zaa _ _ ?_|refine zad ?_|refine zae ?_)|rw[zaf]|simp only[beq_self_eq_true,zY,Int.reduceEq,Int.reduceBEq,Int.reduceBNe,Nat.reduceSub,Nat.reduceEqDiff,Nat.reduceAdd,Nat.reduceMul,Nat.reduceLeDiff,Nat.reduceLT,Nat.reduceBEq,reduceCtorEq]|((first|((try refine zah ?_);apply zak)|(apply zai;intro _));(solve|exact(zdI m h)|exact(zfG)|exact(zg5)|exact(zg6)|(refine CallOK.le (zdI m h) ?_;exact zM)|(refine CallOK.le (zfG) ?_;exact zM)|(refine CallOK.le (zg5) ?_;exact zM)|(refine CallOK.le (zg6) ?_;exact zM)|fail);try case hn=>rfl)|refine zab ?_|refine zac (fun hb=> ?_) (fun hb=> ?_)|(refine And.intro ?_ ?_;exact zI)|refine And.intro (fun hg=> ?_) (fun hg=> ?_)|exact zC|fail)
end Go.Proofs.YtiegkabcgokhkaaGreat
