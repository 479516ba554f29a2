import Derived.Test.YtniafckaafcpbaaGreatE
namespace Go.Proofs.YtniafckaafcpbaaGreat
open Go.Pk
set_option maxRecDepth 100000
set_option linter.unusedSimpArgs false
set_option linter.unusedVariables false
theorem zce (l:List Int) (hl:l.length<2^62) (v:Int):CallOK Tryz.prog 104 [.f (al l.length (intsE l)), .f (ai v)] (fun r o=>r=[ri (idxF (fun x=>v==x) l 0)]∧o=[]):=by
 refine zak zaA mixed (T:=Ty) (n:=19) Tryz.func104 (c:=Tryz.f104.body.getD .skip) rfl Tryz.results104 Tryz.ntmps104 Tryz.call104 ?_
 simp only[Tryz.f104,Option.getD]
 repeat(first|with_reducible refine zaa _ _ ?_|with_reducible refine And.imp_right (zaa _ _) ?_|with_reducible refine And.imp_right (And.imp_right (zaa _ _)) ?_|with_reducible refine And.imp_right (And.imp_right (And.imp_right (zaa _ _))) ?_|rw[zad]|simp only[zB,Nat.reduceSub,Nat.reduceEqDiff,Nat.reduceAdd,Nat.reduceMul,Nat.reduceLeDiff,Nat.reduceLT,Nat.reduceBEq,reduceCtorEq])
 refine zau (τ:=Nat) (fun i=>⟨[al l.length (intsE l),ai v,dd,dd,ai 0,dd,al l.length (intsE l),ai l.length,ai i,dd,dd,dd,dd,dd,dd,dd,dd,dd,dd],[]⟩) (fun i=>i≤l.length) (fun i=>idxF (fun x=>v==x) (l.drop i) i) (fun i=>l.length - i) 0 (Gh.fgt ?_) (Nat.zero_le _) ?_
 ·simp only[zaS,zaT,za4,Int.natCast_zero]
 intro i hi0 hF K hK
 repeat(first|with_reducible refine zaa _ _ ?_|with_reducible refine And.imp_right (zaa _ _) ?_|with_reducible refine And.imp_right (And.imp_right (zaa _ _)) ?_|with_reducible refine And.imp_right (And.imp_right (And.imp_right (zaa _ _))) ?_|rw[zad]|simp only[zB,Nat.reduceSub,Nat.reduceEqDiff,Nat.reduceAdd,Nat.reduceMul,Nat.reduceLeDiff,Nat.reduceLT,Nat.reduceBEq,reduceCtorEq])
 refine zac (fun hlt=> ?_) (fun hge=> ?_)
 ·have hi:i<l.length:=by simpa using hlt
  rw[List.drop_eq_getElem_cons hi,idxF]at hF
  have hat:=zbo hi
  simp only[List.cons_append,List.nil_append]at hat
  have hw:=zat hi hl
  clear hlt
  repeat'(first|(with_reducible first|refine zaa _ _ ?_|refine zae ?_|refine zaf ?_)|rw[zad]|simp only[zaw,hat,zY,Int.reduceEq,Int.reduceBEq,Int.reduceBNe,Nat.reduceSub,Nat.reduceEqDiff,Nat.reduceAdd,Nat.reduceMul,Nat.reduceLeDiff,Nat.reduceLT,Nat.reduceBEq,reduceCtorEq]|refine zab ?_|refine zac (fun hb=> ?_) (fun hb=> ?_)|(refine And.intro ?_ ?_;exact zI)|refine And.intro (fun hg=> ?_) (fun hg=> ?_)|exact zC|fail)
  ·rw[if_pos hb]at hF
   rw[hF];rfl
  ·rw[if_neg (by simp[hb])]at hF
   refine hK _ (i+1) (Gh.fgt ?_) hi (by simp only[List.drop_eq_getElem_cons hi,idxF];rw[if_neg (by simp[hb])];rfl) (by omega)
   simp only[hw,zaS,zaT,za4]
 ·have hi:i=l.length:=by
   have:¬(i:Int)<l.length:=by simpa using hge
   omega
  rw[hi,List.drop_length,idxF]at hF
  repeat(first|with_reducible refine zaa _ _ ?_|with_reducible refine And.imp_right (zaa _ _) ?_|with_reducible refine And.imp_right (And.imp_right (zaa _ _)) ?_|with_reducible refine And.imp_right (And.imp_right (And.imp_right (zaa _ _))) ?_|rw[zad]|simp only[zB,Nat.reduceSub,Nat.reduceEqDiff,Nat.reduceAdd,Nat.reduceMul,Nat.reduceLeDiff,Nat.reduceLT,Nat.reduceBEq,reduceCtorEq])
  rw[hF];rfl
theorem zaU (l:List Int) (hl:l.length<2^62) (v:Int):CallOK Tryz.prog 68 [.f (al l.length (intsE l)), .f (ai v)] (fun r o=>r=[rb (l.any fun x=>v==x)]∧o=[]):=by
 refine zak zaA mixed (T:=Ty) (n:=9) Tryz.func68 (c:=Tryz.f68.body.getD .skip) rfl Tryz.results68 Tryz.ntmps68 Tryz.call68 ?_
 simp only[Tryz.f68,Option.getD]
 repeat'(first|with_reducible refine zaa _ _ ?_|rw[zad]|simp only[zB,Nat.reduceSub,Nat.reduceEqDiff,Nat.reduceAdd,Nat.reduceMul,Nat.reduceLeDiff,Nat.reduceLT,Nat.reduceBEq,reduceCtorEq]|((first|((try refine zai ?_);apply zaj)|(apply zah;intro _));(solve|exact(zce l hl v)|(refine CallOK.le (zce l hl v) ?_;exact zM)|fail);try case hn=>rfl)|refine zab ?_|refine zac (fun hb=> ?_) (fun hb=> ?_)|(refine And.intro ?_ ?_;exact zI)|refine And.intro (fun hg=> ?_) (fun hg=> ?_)|exact zC|fail)
 rw[zcY]
theorem zeo (v:Int):CallOK Tryz.prog 133 [.f (ai v)] (fun r o=>r=[rb false]∧o=[]):=by
 refine zak zaA mixed (T:=Ty) (n:=6) Tryz.func133 (c:=Tryz.f133.body.getD .skip) rfl Tryz.results133 Tryz.ntmps133 Tryz.call133 ?_
 simp only[Tryz.f133,Option.getD]
 repeat'(first|with_reducible refine zaa _ _ ?_|rw[zad]|simp only[zB,bne_self_eq_false,Nat.reduceSub,Nat.reduceEqDiff,Nat.reduceAdd,Nat.reduceMul,Nat.reduceLeDiff,Nat.reduceLT,Nat.reduceBEq,reduceCtorEq]|refine zab ?_|refine zac (fun hb=> ?_) (fun hb=> ?_)|(refine And.intro ?_ ?_;exact zI)|refine And.intro (fun hg=> ?_) (fun hg=> ?_)|exact zC|fail)
def cmpI (a b:Int):Int:=if a<b then -1 else if a>b then 1 else 0
theorem zct (a b:Int):CallOK Tryz.prog 108 [.f (ai a), .f (ai b)] (fun r o=>r=[ri (cmpI a b)]∧o=[]):=by
 refine zak zaA mixed (T:=Ty) (n:=20) Tryz.func108 (c:=Tryz.f108.body.getD .skip) rfl Tryz.results108 Tryz.ntmps108 Tryz.call108 ?_
 simp only[Tryz.f108,Option.getD]
 repeat'(first|(with_reducible first|refine zaa _ _ ?_|refine zae ?_|refine zaf ?_)|rw[zad]|simp only[zY,Int.reduceEq,Int.reduceBEq,Int.reduceBNe,Nat.reduceSub,Nat.reduceEqDiff,Nat.reduceAdd,Nat.reduceMul,Nat.reduceLeDiff,Nat.reduceLT,Nat.reduceBEq,reduceCtorEq]|((first|((try refine zai ?_);apply zaj)|(apply zah;intro _));(solve|exact(zeo a)|exact(zeo b)|(refine CallOK.le (zeo a) ?_;exact zM)|(refine CallOK.le (zeo b) ?_;exact zM)|fail);try case hn=>rfl)|refine zab ?_|refine zac (fun hb=> ?_) (fun hb=> ?_)|(refine And.intro ?_ ?_;exact zI)|refine And.intro (fun hg=> ?_) (fun hg=> ?_)|exact zC|fail)
 all_goals simp only[decide_eq_true_eq,decide_eq_false_iff_not]at*
 ·unfold cmpI;rw[if_pos (by assumption)]
 ·unfold cmpI;rw[if_neg (by assumption),if_pos (by assumption)]
 ·unfold cmpI;rw[if_neg (by assumption),if_neg (by assumption)]
theorem zcu (n:Int):CallOK Tryz.prog 127 [.f (ai n)] (fun r o=>r=[rb (decide (n≥0)&&decide (n<8))]∧o=[]):=by
 refine zak zaA mixed (T:=Ty) (n:=9) Tryz.func127 (c:=Tryz.f127.body.getD .skip) rfl Tryz.results127 Tryz.ntmps127 Tryz.call127 ?_
 simp only[Tryz.f127,Option.getD]
 repeat'(first|(with_reducible first|refine zaa _ _ ?_|refine zae ?_|refine zaf ?_)|rw[zad]|simp only[zY,Int.reduceEq,Int.reduceBEq,Int.reduceBNe,Nat.reduceSub,Nat.reduceEqDiff,Nat.reduceAdd,Nat.reduceMul,Nat.reduceLeDiff,Nat.reduceLT,Nat.reduceBEq,reduceCtorEq]|refine zab ?_|refine zac (fun hb=> ?_) (fun hb=> ?_)|(refine And.intro ?_ ?_;exact zI)|refine And.intro (fun hg=> ?_) (fun hg=> ?_)|exact zC|fail)
theorem zdD (n:Int):CallOK Tryz.prog 90 [.f (ai n)] (fun r o=>r=[rb (decide (n≥0)&&decide (n<8))]∧o=[]):=by
 refine zak zaA mixed (T:=Ty) (n:=9) Tryz.func90 (c:=Tryz.f90.body.getD .skip) rfl Tryz.results90 Tryz.ntmps90 Tryz.call90 ?_
 simp only[Tryz.f90,Option.getD]
 repeat'(first|(with_reducible first|refine zaa _ _ ?_|refine zae ?_|refine zaf ?_)|rw[zad]|simp only[zY,Int.reduceEq,Int.reduceBEq,Int.reduceBNe,Nat.reduceSub,Nat.reduceEqDiff,Nat.reduceAdd,Nat.reduceMul,Nat.reduceLeDiff,Nat.reduceLT,Nat.reduceBEq,reduceCtorEq]|refine zab ?_|refine zac (fun hb=> ?_) (fun hb=> ?_)|(refine And.intro ?_ ?_;exact zI)|refine And.intro (fun hg=> ?_) (fun hg=> ?_)|exact zC|fail)
def isClient (n:Int):Bool:=decide (n≥0)&&decide (n<8)
def hasI (l:List Int) (v:Int):Bool:=l.any fun x=>v==x
theorem zlL (l:List Int) (hl:l.length<2^62) (c:Int):CallOK Tryz.prog 115 [.f (al l.length (intsE l)), .f (ai c)]
  (fun r o=>r=[ri (if idxF (fun x=>c==x) l 0≥0 then idxF (fun x=>c==x) l 0 else 0),rb (hasI l c)]∧o=[]):=by
 refine zak zaA mixed (T:=Ty) (n:=13) Tryz.func115 (c:=Tryz.f115.body.getD .skip) rfl Tryz.results115 Tryz.ntmps115 Tryz.call115 ?_
 simp only[Tryz.f115,Option.getD]
 have hh:=zcY (fun x=>c==x) l
 repeat'(first|(with_reducible first|refine zaa _ _ ?_|refine zae ?_|refine zaf ?_)|rw[zad]|simp only[zY,Int.reduceEq,Int.reduceBEq,Int.reduceBNe,Nat.reduceSub,Nat.reduceEqDiff,Nat.reduceAdd,Nat.reduceMul,Nat.reduceLeDiff,Nat.reduceLT,Nat.reduceBEq,reduceCtorEq]|((first|((try refine zai ?_);apply zaj)|(apply zah;intro _));(solve|exact(zce l hl c)|(refine CallOK.le (zce l hl c) ?_;exact zM)|fail);try case hn=>rfl)|refine zab ?_|refine zac (fun hb=> ?_) (fun hb=> ?_)|(refine And.intro ?_ ?_;exact zI)|refine And.intro (fun hg=> ?_) (fun hg=> ?_)|exact zC|fail)
 ·rw[hb]at hh
  unfold hasI
  rw[←hh,if_pos (by simpa using hb)]
 ·rw[hb]at hh
  unfold hasI
  rw[←hh,if_neg (by simpa using hb)]
theorem rfs3 {a b c a' b' c':RO}:rfsLe [.one a, .one b, .one c] [.one a', .one b', .one c']=(roLe a a'∧roLe b b'∧roLe c c'∧True):=rfl
def rowI (l:List Int):RF:= .one (.own 1 l.length (intsE l) false)
def joinP (l:List Int) (c:Int):List Int×Int×Int:=
 if(!isClient c)=true then([],0,1)else if hasI l c=true then([],0,7)else if decide ((l.length:Int)≥3)=true then([],0,5)else(l++[c],l.length,0)
theorem zni (l:List Int) (hl:l.length<2^30) (c:Int):CallOK Tryz.prog 116 [.f (al l.length (intsE l)), .f (ai c)]
  (fun r o=>r=[rowI (joinP l c).1,ri (joinP l c).2.1,ri (joinP l c).2.2]∧o=[]):=by
 refine CallOK.nil ?_
 refine zak zaA mixed (T:=Ty) (n:=26) Tryz.func116 (c:=Tryz.f116.body.getD .skip) rfl Tryz.results116 Tryz.ntmps116 Tryz.call116 ?_
 simp only[Tryz.f116,Option.getD]
 have hcl:=zcf l.length (intsE l) zaw (by omega)
 repeat'(first|(with_reducible first|refine zaa _ _ ?_|refine zae ?_|refine zaf ?_)|rw[zad]|simp only[zaw,zY,Int.reduceEq,Int.reduceBEq,Int.reduceBNe,Nat.reduceSub,Nat.reduceEqDiff,Nat.reduceAdd,Nat.reduceMul,Nat.reduceLeDiff,Nat.reduceLT,Nat.reduceBEq,reduceCtorEq]|((first|((try refine zai ?_);apply zaj)|(apply zah;intro _));(solve|exact(zcu c)|exact(zaU l (by omega) c)|exact(hcl)|(refine CallOK.le (zcu c) ?_;exact zM)|(refine CallOK.le (zaU l (by omega) c) ?_;exact zM)|(refine CallOK.le (hcl) ?_;exact zM)|fail);try case hn=>rfl)|refine zab ?_|refine zac (fun hb=> ?_) (fun hb=> ?_)|(refine And.intro ?_ ?_;exact zI)|refine And.intro (fun hg=> ?_) (fun hg=> ?_)|exact zC|fail)
 all_goals unfold isClient joinP hasI isClient at*
 ·rw[if_pos hb];simp[rfs3,rowI,roLe]
 ·rename_i hc
  rw[if_neg (by rw[hc];simp),if_pos hb];simp[rfs3,rowI,roLe]
 ·rename_i hc hh
  rw[if_neg (by rw[hc];simp),if_neg (by rw[hh];simp),if_pos hb];simp[rfs3,rowI,roLe]
 ·rename_i hc hh
  rw[if_neg (by rw[hc];simp),if_neg (by rw[hh];simp),if_neg (by rw[hb];simp)];simp[rfs3,rowI,roLe]
theorem zke {l:List Int} {i:Nat} (hi:i≤l.length):(intsE l).drop i=intsE (l.drop i):=by have:=zeP (fun n=>[iD n]) 1 (fun _=>rfl) hi;rwa[Nat.mul_one]at this
theorem zeN {l:List Int} {i:Nat} (hi:i≤l.length):(intsE l).take i=intsE (l.take i):=by have:=zbU (fun n=>[iD n]) 1 (fun _=>rfl) hi;rwa[Nat.mul_one]at this
def leaveP (l:List Int) (c:Int):List Int×Bool:=if idxF (fun x=>c==x) l 0<0 then(l,false)else(l.eraseIdx (idxF (fun x=>c==x) l 0).toNat,true)
theorem zlM (l:List Int) (hl:l.length<2^30) (c:Int):CallOK Tryz.prog 117 [.f (al l.length (intsE l)), .f (ai c)]
  (fun r o=>r=[rowI (leaveP l c).1,rb (leaveP l c).2]∧o=[]):=by
 refine zak zaA mixed (T:=Ty) (n:=20) Tryz.func117 (c:=Tryz.f117.body.getD .skip) rfl Tryz.results117 Tryz.ntmps117 Tryz.call117 ?_
 simp only[Tryz.f117,Option.getD]
 have hcl:=zcf l.length (intsE l) zaw (by omega)
 rcases zcw (fun x=>c==x) l 0 with⟨h1,h2⟩|⟨k,hk,h1,h2,h3⟩
 ·have hi:=zce l (by omega) c
  rw[show((0:Nat):Int)=0 from rfl]at h2
  rw[h2]at hi
  have hlt:decide ((-1:Int)<0)=true:=rfl
  repeat'(first|(with_reducible first|refine zaa _ _ ?_|refine zae ?_|refine zaf ?_)|rw[zad]|simp only[zaw,hlt,zY,Int.reduceEq,Int.reduceBEq,Int.reduceBNe,Nat.reduceSub,Nat.reduceEqDiff,Nat.reduceAdd,Nat.reduceMul,Nat.reduceLeDiff,Nat.reduceLT,Nat.reduceBEq,reduceCtorEq]|((first|((try refine zai ?_);apply zaj)|(apply zah;intro _));(solve|exact(hi)|exact(hcl)|(refine CallOK.le (hi) ?_;exact zM)|(refine CallOK.le (hcl) ?_;exact zM)|fail);try case hn=>rfl)|refine zab ?_|refine zac (fun hb=> ?_) (fun hb=> ?_)|(refine And.intro ?_ ?_;exact zI)|refine And.intro (fun hg=> ?_) (fun hg=> ?_)|exact zC|fail)
  unfold leaveP
  rw[h2,if_pos (by decide)]
  rfl
 ·have hi:=zce l (by omega) c
  rw[show((0:Nat):Int)=0 from rfl,Nat.zero_add]at h1
  rw[h1]at hi
  have hlt:decide ((k:Int)<0)=false:=by simp
  have hw:=zat hk (by omega)
  obtain⟨n,hn⟩:∃n,l.length=n+1:=⟨l.length - 1,by omega⟩
  have hdl:=zkh n k (intsE l) (by rw[zaw,hn]) (by omega) (by omega)
  rw[hn]at hi hcl hk
  have hll:(intsE l).length=n+1:=by rw[zaw,hn]
  rw[hn]
  repeat'(first|(with_reducible first|refine zaa _ _ ?_|refine zae ?_|refine zaf ?_)|rw[zad]|simp only[hlt,hw,hll,zY,Int.reduceEq,Int.reduceBEq,Int.reduceBNe,Nat.reduceSub,Nat.reduceEqDiff,Nat.reduceAdd,Nat.reduceMul,Nat.reduceLeDiff,Nat.reduceLT,Nat.reduceBEq,reduceCtorEq]|((first|((try refine zai ?_);apply zaj)|(apply zah;intro _));(solve|exact(hi)|exact(hcl)|(refine CallOK.le (hi) ?_;exact zM)|(refine CallOK.le (hcl) ?_;exact zM)|fail);try case hn=>rfl)|refine zab ?_|refine zac (fun hb=> ?_) (fun hb=> ?_)|(refine And.intro ?_ ?_;exact zI)|refine And.intro (fun hg=> ?_) (fun hg=> ?_)|exact zC|fail)
  refine zbi (mv:= ?mv1) (lent:= ?le1) 0 ?ha1 (hdl) ?hb1 ?hc1
  case ha1=>(try simp only[zB,zaF,Nat.reduceSub,Nat.reduceEqDiff,Nat.reduceAdd,Nat.reduceMul,Nat.reduceLeDiff,Nat.reduceLT,Nat.reduceBEq,reduceCtorEq]);exact rfl
  case hb1=>(try simp only[zB,scM,Nat.reduceSub,Nat.reduceEqDiff,Nat.reduceAdd,Nat.reduceMul,Nat.reduceLeDiff,Nat.reduceLT,Nat.reduceBEq,reduceCtorEq]);repeat'(first|rfl|trivial|omega|with_reducible refine And.intro ?_ ?_)
  show aops _ _ _ _ _ _ _ _
  repeat'(first|(with_reducible first|refine zaa _ _ ?_|refine zae ?_|refine zaf ?_)|rw[zad]|simp only[zY,Int.reduceEq,Int.reduceBEq,Int.reduceBNe,Nat.reduceSub,Nat.reduceEqDiff,Nat.reduceAdd,Nat.reduceMul,Nat.reduceLeDiff,Nat.reduceLT,Nat.reduceBEq,reduceCtorEq]|refine zab ?_|refine zac (fun hb=> ?_) (fun hb=> ?_)|(refine And.intro ?_ ?_;exact zI)|refine And.intro (fun hg=> ?_) (fun hg=> ?_)|exact zC|fail)
  unfold leaveP
  rw[h1,if_neg (by omega),Int.toNat_natCast]
  have he:(l.eraseIdx k).length=n:=by rw[List.length_eraseIdx];split<;>omega
  have hx:intsE (l.eraseIdx k)=List.take k (intsE l)++List.drop (k+1) (intsE l):=by
   rw[List.eraseIdx_eq_take_drop_succ,zeN (by omega),zke (by omega)]
   simp[intsE]
  simp only[rowI,he,hx]
def withoutP (l gone:List Int):List Int:=l.filter fun c=> !hasI gone c
theorem zh0 (gone:List Int) (hg:gone.length<2^62) (c:Int):CallOK Tryz.prog 130 [.f (ai c), .f (.one (.eltR [.lent gone.length (intsE gone)]))] (fun r o=>r=[rb (hasI gone c)]∧o=[]):=by
 refine zak zaA mixed (T:=Ty) (n:=7) Tryz.func130 (c:=Tryz.f130.body.getD .skip) rfl Tryz.results130 Tryz.ntmps130 Tryz.call130 ?_
 simp only[Tryz.f130,Option.getD]
 repeat'(first|(with_reducible first|refine zaa _ _ ?_|refine zae ?_|refine zaf ?_)|rw[zad]|simp only[zY,Int.reduceEq,Int.reduceBEq,Int.reduceBNe,Nat.reduceSub,Nat.reduceEqDiff,Nat.reduceAdd,Nat.reduceMul,Nat.reduceLeDiff,Nat.reduceLT,Nat.reduceBEq,reduceCtorEq]|((first|((try refine zai ?_);apply zaj)|(apply zah;intro _));(solve|exact(zaU gone hg c)|exact(CallOK.le (zaU gone hg c) (by simp[argsLe,aLe,csLe,cLe]))|(refine CallOK.le (zaU gone hg c) ?_;exact zM)|(refine CallOK.le (CallOK.le (zaU gone hg c) (by simp[argsLe,aLe,csLe,cLe])) ?_;exact zM)|fail);try case hn=>rfl)|refine zab ?_|refine zac (fun hb=> ?_) (fun hb=> ?_)|(refine And.intro ?_ ?_;exact zI)|refine And.intro (fun hg=> ?_) (fun hg=> ?_)|exact zC|fail)
 rfl
theorem zjn (l gone:List Int) (hl:l.length<2^30) (hg:gone.length<2^30):CallOK Tryz.prog 101 [.f (al l.length (intsE l)), .f (al gone.length (intsE gone))] (fun r o=>r=[rowI (withoutP l gone)]∧o=[]):=by
 refine zak zaA mixed (T:=Ty) (n:=9) Tryz.func101 (c:=Tryz.f101.body.getD .skip) rfl Tryz.results101 Tryz.ntmps101 Tryz.call101 ?_
 simp only[Tryz.f101,Option.getD]
 have hcl:=zcf l.length (intsE l) zaw (by omega)
 have hd:=zlN l (by omega) (hasI gone) 130 [.eltR [.lent gone.length (intsE gone)]] (fun _=>rfl) (fun _=>rfl) (fun _ _=>rfl) (fun _=>rfl) (fun x _=>zh0 gone (by omega) x)
 repeat'(first|(with_reducible first|refine zaa _ _ ?_|refine zae ?_|refine zaf ?_)|rw[zad]|simp only[zaw,zY,Int.reduceEq,Int.reduceBEq,Int.reduceBNe,Nat.reduceSub,Nat.reduceEqDiff,Nat.reduceAdd,Nat.reduceMul,Nat.reduceLeDiff,Nat.reduceLT,Nat.reduceBEq,reduceCtorEq]|((first|((try refine zai ?_);apply zaj)|(apply zah;intro _));(solve|exact(hcl)|(refine CallOK.le (hcl) ?_;exact zM)|fail);try case hn=>rfl)|refine zab ?_|refine zac (fun hb=> ?_) (fun hb=> ?_)|(refine And.intro ?_ ?_;exact zI)|refine And.intro (fun hg=> ?_) (fun hg=> ?_)|exact zC|fail)
 refine zbi (mv:= ?mv2) (lent:= ?le2) 0 ?ha2 (hd) ?hb2 ?hc2
 case ha2=>(try simp only[zB,zaF,Nat.reduceSub,Nat.reduceEqDiff,Nat.reduceAdd,Nat.reduceMul,Nat.reduceLeDiff,Nat.reduceLT,Nat.reduceBEq,reduceCtorEq]);exact rfl
 case hb2=>(try simp only[zB,scM,Nat.reduceSub,Nat.reduceEqDiff,Nat.reduceAdd,Nat.reduceMul,Nat.reduceLeDiff,Nat.reduceLT,Nat.reduceBEq,reduceCtorEq]);repeat'(first|rfl|trivial|omega|with_reducible refine And.intro ?_ ?_)
 show aops _ _ _ _ _ _ _ _
 repeat'(first|(with_reducible first|refine zaa _ _ ?_|refine zae ?_|refine zaf ?_)|rw[zad]|simp only[zY,Int.reduceEq,Int.reduceBEq,Int.reduceBNe,Nat.reduceSub,Nat.reduceEqDiff,Nat.reduceAdd,Nat.reduceMul,Nat.reduceLeDiff,Nat.reduceLT,Nat.reduceBEq,reduceCtorEq]|refine zab ?_|refine zac (fun hb=> ?_) (fun hb=> ?_)|(refine And.intro ?_ ?_;exact zI)|refine And.intro (fun hg=> ?_) (fun hg=> ?_)|exact zC|fail)
 rfl
end Go.Proofs.YtniafckaafcpbaaGreat
