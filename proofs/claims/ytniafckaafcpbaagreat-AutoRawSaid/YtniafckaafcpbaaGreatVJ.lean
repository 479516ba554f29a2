import Derived.Test.YtniafckaafcpbaaGreatVI
namespace Go.Proofs.YtniafckaafcpbaaGreat
open Go.Pk
set_option maxRecDepth 100000
set_option linter.unusedSimpArgs false
set_option linter.unusedVariables false
theorem zcE {α:Type} [BEq α] [LawfulBEq α] {a:α}:(a !=a)=false:=by simp
theorem zhU (a:List Grant) (ha:a.length<2^30):CallOK Tryz.prog 28 [.f (al a.length (grantsE a)), .f (al a.length (grantsE a))] (fun r o=>r=[rb true]∧o=[]):=by
 refine zak zaA mixed (T:=Ty) (n:=26) Tryz.func28 (c:=Tryz.f28.body.getD .skip) rfl Tryz.results28 Tryz.ntmps28 Tryz.call28 ?_
 simp only[Tryz.f28,Option.getD]
 have hl:((a.length:Int) !=(a.length:Int))=false:=zcE
 repeat'(first|(with_reducible first|refine zaa _ _ ?_|refine zae ?_|refine zaf ?_)|rw[zad]|simp only[hl,zY,Int.reduceEq,Int.reduceBEq,Int.reduceBNe,Nat.reduceSub,Nat.reduceEqDiff,Nat.reduceAdd,Nat.reduceMul,Nat.reduceLeDiff,Nat.reduceLT,Nat.reduceBEq,reduceCtorEq]|refine zab ?_|refine zac (fun hb=> ?_) (fun hb=> ?_)|(refine And.intro ?_ ?_;exact zI)|refine And.intro (fun hg=> ?_) (fun hg=> ?_)|exact zC|fail)
 refine zau (τ:=Nat) (fun i=>⟨[al a.length (grantsE a),al a.length (grantsE a),dd,dd,dd,ai i,dd,dd,dd,dd,dd,dd,dd,dd,dd,dd,dd,dd,dd,dd,dd,dd,dd,dd,dd,dd],[]⟩)
  (fun i=>i≤a.length) (fun i=>()) (fun i=>a.length - i) 0
  (Gh.canon [] [] [] zK rfl rfl) (Nat.zero_le _) ?_
 intro i hi0 hF K hK
 repeat(first|with_reducible refine zaa _ _ ?_|with_reducible refine And.imp_right (zaa _ _) ?_|with_reducible refine And.imp_right (And.imp_right (zaa _ _)) ?_|with_reducible refine And.imp_right (And.imp_right (And.imp_right (zaa _ _))) ?_|rw[zad]|simp only[zB,Nat.reduceSub,Nat.reduceEqDiff,Nat.reduceAdd,Nat.reduceMul,Nat.reduceLeDiff,Nat.reduceLT,Nat.reduceBEq,reduceCtorEq])
 refine zac (fun hlt=> ?_) (fun hge=> ?_)
 ·have hi:i<a.length:=by simpa using hlt
  have hat:=zbV hi
  have hw:=zat hi (by omega)
  have hlb:decide ((i:Int)<a.length)=true:=by simp;omega
  repeat'(first|(with_reducible first|refine zaa _ _ ?_|refine zae ?_|refine zaf ?_)|rw[zad]|simp only[hat,hlb,zcE,beq_self_eq_true,Bool.not_true,Bool.and_self,List.cons_append,List.nil_append,zbl,zY,Int.reduceEq,Int.reduceBEq,Int.reduceBNe,Nat.reduceSub,Nat.reduceEqDiff,Nat.reduceAdd,Nat.reduceMul,Nat.reduceLeDiff,Nat.reduceLT,Nat.reduceBEq,reduceCtorEq]|refine zab ?_|refine zac (fun hb=> ?_) (fun hb=> ?_)|(refine And.intro ?_ ?_;exact zI)|refine And.intro (fun hg=> ?_) (fun hg=> ?_)|exact zC|fail)
  exact hK _ (i+1) (Gh.canon [] [] [] (by simp only[hw,zan,zaz,zao,zaq,zar,zas,List.set_cons_zero,List.set_cons_succ,and_true,true_and,Int.natCast_zero,Int.cast_ofNat_Int,D.v.injEq,Value.int.injEq];try(repeat'(first|rfl|omega|with_reducible apply And.intro))) rfl rfl) hi rfl (by omega)
 ·have hi:i=a.length:=by
   have:¬(i:Int)<a.length:=by simpa using hge
   omega
  repeat'(first|(with_reducible first|refine zaa _ _ ?_|refine zae ?_|refine zaf ?_)|rw[zad]|simp only[zY,Int.reduceEq,Int.reduceBEq,Int.reduceBNe,Nat.reduceSub,Nat.reduceEqDiff,Nat.reduceAdd,Nat.reduceMul,Nat.reduceLeDiff,Nat.reduceLT,Nat.reduceBEq,reduceCtorEq]|refine zab ?_|refine zac (fun hb=> ?_) (fun hb=> ?_)|(refine And.intro ?_ ?_;exact zI)|refine And.intro (fun hg=> ?_) (fun hg=> ?_)|exact zC|fail)
theorem zfj (r:Reply) (h:r.held.length<2^30):CallOK Tryz.prog 18 [.f (.agg r.lent), .f (.agg r.lent)] (fun x o=>x=[rb true]∧o=[]):=by
 refine zak zaA mixed (T:=Ty) (n:=31) Tryz.func18 (c:=Tryz.f18.body.getD .skip) rfl Tryz.results18 Tryz.ntmps18 Tryz.call18 ?_
 simp only[Tryz.f18,Option.getD]
 have hg:=zhU r.held h
 repeat'(first|(with_reducible first|refine zaa _ _ ?_|refine zae ?_|refine zaf ?_)|rw[zad]|simp only[beq_self_eq_true,zY,Int.reduceEq,Int.reduceBEq,Int.reduceBNe,Nat.reduceSub,Nat.reduceEqDiff,Nat.reduceAdd,Nat.reduceMul,Nat.reduceLeDiff,Nat.reduceLT,Nat.reduceBEq,reduceCtorEq]|((first|((try refine zai ?_);apply zaj)|(apply zah;intro _));(solve|exact(hg)|(refine CallOK.le (hg) ?_;exact zM)|fail);try case hn=>rfl)|refine zab ?_|refine zac (fun hb=> ?_) (fun hb=> ?_)|(refine And.intro ?_ ?_;exact zI)|refine And.intro (fun hg=> ?_) (fun hg=> ?_)|exact zC|fail)
theorem zj3 (a:List Sess) (ha:a.length<2^30):CallOK Tryz.prog 37 [.f (al a.length (sessE a)), .f (al a.length (sessE a))] (fun r o=>r=[rb true]∧o=[]):=by
 refine zak zaA mixed (T:=Ty) (n:=26) Tryz.func37 (c:=Tryz.f37.body.getD .skip) rfl Tryz.results37 Tryz.ntmps37 Tryz.call37 ?_
 simp only[Tryz.f37,Option.getD]
 have hl:((a.length:Int) !=(a.length:Int))=false:=zcE
 repeat'(first|(with_reducible first|refine zaa _ _ ?_|refine zae ?_|refine zaf ?_)|rw[zad]|simp only[hl,zY,Int.reduceEq,Int.reduceBEq,Int.reduceBNe,Nat.reduceSub,Nat.reduceEqDiff,Nat.reduceAdd,Nat.reduceMul,Nat.reduceLeDiff,Nat.reduceLT,Nat.reduceBEq,reduceCtorEq]|refine zab ?_|refine zac (fun hb=> ?_) (fun hb=> ?_)|(refine And.intro ?_ ?_;exact zI)|refine And.intro (fun hg=> ?_) (fun hg=> ?_)|exact zC|fail)
 refine zau (τ:=Nat) (fun i=>⟨[al a.length (sessE a),al a.length (sessE a),dd,dd,dd,ai i,dd,dd,dd,dd,dd,dd,dd,dd,dd,dd,dd,dd,dd,dd,dd,dd,dd,dd,dd,dd],[]⟩)
  (fun i=>i≤a.length) (fun i=>()) (fun i=>a.length - i) 0
  (Gh.canon [] [] [] zK rfl rfl) (Nat.zero_le _) ?_
 intro i hi0 hF K hK
 repeat(first|with_reducible refine zaa _ _ ?_|with_reducible refine And.imp_right (zaa _ _) ?_|with_reducible refine And.imp_right (And.imp_right (zaa _ _)) ?_|with_reducible refine And.imp_right (And.imp_right (And.imp_right (zaa _ _))) ?_|rw[zad]|simp only[zB,Nat.reduceSub,Nat.reduceEqDiff,Nat.reduceAdd,Nat.reduceMul,Nat.reduceLeDiff,Nat.reduceLT,Nat.reduceBEq,reduceCtorEq])
 refine zac (fun hlt=> ?_) (fun hge=> ?_)
 ·have hi:i<a.length:=by simpa using hlt
  have hat:=zaV hi
  have hw:=zat hi (by omega)
  have hlb:decide ((i:Int)<a.length)=true:=by simp;omega
  repeat'(first|(with_reducible first|refine zaa _ _ ?_|refine zae ?_|refine zaf ?_)|rw[zad]|simp only[hat,hlb,zcE,beq_self_eq_true,Bool.not_true,Bool.and_self,List.cons_append,List.nil_append,zax,zY,Int.reduceEq,Int.reduceBEq,Int.reduceBNe,Nat.reduceSub,Nat.reduceEqDiff,Nat.reduceAdd,Nat.reduceMul,Nat.reduceLeDiff,Nat.reduceLT,Nat.reduceBEq,reduceCtorEq]|refine zab ?_|refine zac (fun hb=> ?_) (fun hb=> ?_)|(refine And.intro ?_ ?_;exact zI)|refine And.intro (fun hg=> ?_) (fun hg=> ?_)|exact zC|fail)
  exact hK _ (i+1) (Gh.canon [] [] [] (by simp only[hw,zan,zaz,zao,zaq,zar,zas,List.set_cons_zero,List.set_cons_succ,and_true,true_and,Int.natCast_zero,Int.cast_ofNat_Int,D.v.injEq,Value.int.injEq];try(repeat'(first|rfl|omega|with_reducible apply And.intro))) rfl rfl) hi rfl (by omega)
 ·have hi:i=a.length:=by
   have:¬(i:Int)<a.length:=by simpa using hge
   omega
  repeat'(first|(with_reducible first|refine zaa _ _ ?_|refine zae ?_|refine zaf ?_)|rw[zad]|simp only[zY,Int.reduceEq,Int.reduceBEq,Int.reduceBNe,Nat.reduceSub,Nat.reduceEqDiff,Nat.reduceAdd,Nat.reduceMul,Nat.reduceLeDiff,Nat.reduceLT,Nat.reduceBEq,reduceCtorEq]|refine zab ?_|refine zac (fun hb=> ?_) (fun hb=> ?_)|(refine And.intro ?_ ?_;exact zI)|refine And.intro (fun hg=> ?_) (fun hg=> ?_)|exact zC|fail)
theorem zjh (a:List Lk) (ha:a.length<2^30) (hll:∀k∈a,k.line.length<2^30):CallOK Tryz.prog 38 [.f (al a.length (locksE a)), .f (al a.length (locksE a))] (fun r o=>r=[rb true]∧o=[]):=by
 refine zak zaA mixed (T:=Ty) (n:=68) Tryz.func38 (c:=Tryz.f38.body.getD .skip) rfl Tryz.results38 Tryz.ntmps38 Tryz.call38 ?_
 simp only[Tryz.f38,Option.getD]
 have hl:((a.length:Int) !=(a.length:Int))=false:=zcE
 repeat'(first|(with_reducible first|refine zaa _ _ ?_|refine zae ?_|refine zaf ?_)|rw[zad]|simp only[hl,zY,Int.reduceEq,Int.reduceBEq,Int.reduceBNe,Nat.reduceSub,Nat.reduceEqDiff,Nat.reduceAdd,Nat.reduceMul,Nat.reduceLeDiff,Nat.reduceLT,Nat.reduceBEq,reduceCtorEq]|refine zab ?_|refine zac (fun hb=> ?_) (fun hb=> ?_)|(refine And.intro ?_ ?_;exact zI)|refine And.intro (fun hg=> ?_) (fun hg=> ?_)|exact zC|fail)
 refine zau (τ:=Nat) (fun i=>⟨[al a.length (locksE a),al a.length (locksE a),dd,dd,dd,ai i,dd,dd,dd,dd,dd,dd,dd,dd,dd,dd,dd,dd,dd,dd,dd,dd,dd,dd,dd,dd,dd,dd,dd,dd,dd,dd,dd,dd,dd,dd,dd,dd,dd,dd,dd,dd,dd,dd,dd,dd,dd,dd,dd,dd,dd,dd,dd,dd,dd,dd,dd,dd,dd,dd,dd,dd,dd,dd,dd,dd,dd,dd],[]⟩)
  (fun i=>i≤a.length) (fun i=>()) (fun i=>a.length - i) 0
  (Gh.canon [] [] [] zK rfl rfl) (Nat.zero_le _) ?_
 intro i hi0 hF K hK
 repeat(first|with_reducible refine zaa _ _ ?_|with_reducible refine And.imp_right (zaa _ _) ?_|with_reducible refine And.imp_right (And.imp_right (zaa _ _)) ?_|with_reducible refine And.imp_right (And.imp_right (And.imp_right (zaa _ _))) ?_|rw[zad]|simp only[zB,Nat.reduceSub,Nat.reduceEqDiff,Nat.reduceAdd,Nat.reduceMul,Nat.reduceLeDiff,Nat.reduceLT,Nat.reduceBEq,reduceCtorEq])
 refine zac (fun hlt=> ?_) (fun hge=> ?_)
 ·have hi:i<a.length:=by simpa using hlt
  have hat:=zaG hi
  have hw:=zat hi (by omega)
  have hlb:decide ((i:Int)<a.length)=true:=by simp;omega
  have hat1:(locksE a).drop (i*4+1)=iD a[i].holder::iD a[i].token:: .sl a[i].line.length (intsE a[i].line)::locksE (a.drop (i+1)):=by rw[←List.drop_drop,hat];rfl
  have hsi:=zeB a[i].line a[i].line (by have:=hll _ (List.getElem_mem hi);omega) (by have:=hll _ (List.getElem_mem hi);omega)
  rw[show sameI a[i].line a[i].line=true from by unfold sameI;rw[beq_self_eq_true,Bool.true_and,List.all_eq_true];intro p hp;obtain⟨j,h1,h2⟩:=List.getElem_of_mem hp;rw[←h2,List.getElem_zip];simp]at hsi
  repeat'(first|(with_reducible first|refine zaa _ _ ?_|refine zae ?_|refine zaf ?_)|rw[zad]|simp only[hat,hlb,zcE,beq_self_eq_true,Bool.not_true,Bool.and_self,hat1,List.cons_append,List.nil_append,zam,zY,Int.reduceEq,Int.reduceBEq,Int.reduceBNe,Nat.reduceSub,Nat.reduceEqDiff,Nat.reduceAdd,Nat.reduceMul,Nat.reduceLeDiff,Nat.reduceLT,Nat.reduceBEq,reduceCtorEq]|((first|((try refine zai ?_);apply zaj)|(apply zah;intro _));(solve|exact(hsi)|(refine CallOK.le (hsi) ?_;exact zM)|fail);try case hn=>rfl)|refine zab ?_|refine zac (fun hb=> ?_) (fun hb=> ?_)|(refine And.intro ?_ ?_;exact zI)|refine And.intro (fun hg=> ?_) (fun hg=> ?_)|exact zC|fail)
  exact hK _ (i+1) (Gh.canon [] [] [] (by simp only[hw,zan,zaz,zao,zaq,zar,zas,List.set_cons_zero,List.set_cons_succ,and_true,true_and,Int.natCast_zero,Int.cast_ofNat_Int,D.v.injEq,Value.int.injEq];try(repeat'(first|rfl|omega|with_reducible apply And.intro))) rfl rfl) hi rfl (by omega)
 ·have hi:i=a.length:=by
   have:¬(i:Int)<a.length:=by simpa using hge
   omega
  repeat'(first|(with_reducible first|refine zaa _ _ ?_|refine zae ?_|refine zaf ?_)|rw[zad]|simp only[zY,Int.reduceEq,Int.reduceBEq,Int.reduceBNe,Nat.reduceSub,Nat.reduceEqDiff,Nat.reduceAdd,Nat.reduceMul,Nat.reduceLeDiff,Nat.reduceLT,Nat.reduceBEq,reduceCtorEq]|refine zab ?_|refine zac (fun hb=> ?_) (fun hb=> ?_)|(refine And.intro ?_ ?_;exact zI)|refine And.intro (fun hg=> ?_) (fun hg=> ?_)|exact zC|fail)
theorem zji (a:List Memo) (ha:a.length<2^30) (hll:∀k∈a,k.reply.held.length<2^30):CallOK Tryz.prog 39 [.f (al a.length (memosE a)), .f (al a.length (memosE a))] (fun r o=>r=[rb true]∧o=[]):=by
 refine zak zaA mixed (T:=Ty) (n:=55) Tryz.func39 (c:=Tryz.f39.body.getD .skip) rfl Tryz.results39 Tryz.ntmps39 Tryz.call39 ?_
 simp only[Tryz.f39,Option.getD]
 have hl:((a.length:Int) !=(a.length:Int))=false:=zcE
 repeat'(first|(with_reducible first|refine zaa _ _ ?_|refine zae ?_|refine zaf ?_)|rw[zad]|simp only[hl,zY,Int.reduceEq,Int.reduceBEq,Int.reduceBNe,Nat.reduceSub,Nat.reduceEqDiff,Nat.reduceAdd,Nat.reduceMul,Nat.reduceLeDiff,Nat.reduceLT,Nat.reduceBEq,reduceCtorEq]|refine zab ?_|refine zac (fun hb=> ?_) (fun hb=> ?_)|(refine And.intro ?_ ?_;exact zI)|refine And.intro (fun hg=> ?_) (fun hg=> ?_)|exact zC|fail)
 refine zau (τ:=Nat) (fun i=>⟨[al a.length (memosE a),al a.length (memosE a),dd,dd,dd,ai i,dd,dd,dd,dd,dd,dd,dd,dd,dd,dd,dd,dd,dd,dd,dd,dd,dd,dd,dd,dd,dd,dd,dd,dd,dd,dd,dd,dd,dd,dd,dd,dd,dd,dd,dd,dd,dd,dd,dd,dd,dd,dd,dd,dd,dd,dd,dd,dd,dd],[]⟩)
  (fun i=>i≤a.length) (fun i=>()) (fun i=>a.length - i) 0
  (Gh.canon [] [] [] zK rfl rfl) (Nat.zero_le _) ?_
 intro i hi0 hF K hK
 repeat(first|with_reducible refine zaa _ _ ?_|with_reducible refine And.imp_right (zaa _ _) ?_|with_reducible refine And.imp_right (And.imp_right (zaa _ _)) ?_|with_reducible refine And.imp_right (And.imp_right (And.imp_right (zaa _ _))) ?_|rw[zad]|simp only[zB,Nat.reduceSub,Nat.reduceEqDiff,Nat.reduceAdd,Nat.reduceMul,Nat.reduceLeDiff,Nat.reduceLT,Nat.reduceBEq,reduceCtorEq])
 refine zac (fun hlt=> ?_) (fun hge=> ?_)
 ·have hi:i<a.length:=by simpa using hlt
  have hat:=za2 hi
  have hw:=zat hi (by omega)
  have hlb:decide ((i:Int)<a.length)=true:=by simp;omega
  have hsr:=zfj a[i].reply (hll _ (List.getElem_mem hi))
  repeat'(first|(with_reducible first|refine zaa _ _ ?_|refine zae ?_|refine zaf ?_)|rw[zad]|simp only[hat,hlb,zcE,beq_self_eq_true,Bool.not_true,Bool.and_self,List.cons_append,List.nil_append,zaD,zY,Int.reduceEq,Int.reduceBEq,Int.reduceBNe,Nat.reduceSub,Nat.reduceEqDiff,Nat.reduceAdd,Nat.reduceMul,Nat.reduceLeDiff,Nat.reduceLT,Nat.reduceBEq,reduceCtorEq]|((first|((try refine zai ?_);apply zaj)|(apply zah;intro _));(solve|exact(hsr)|(refine CallOK.le (hsr) ?_;exact zM)|fail);try case hn=>rfl)|refine zab ?_|refine zac (fun hb=> ?_) (fun hb=> ?_)|(refine And.intro ?_ ?_;exact zI)|refine And.intro (fun hg=> ?_) (fun hg=> ?_)|exact zC|fail)
  exact hK _ (i+1) (Gh.canon [] [] [] (by simp only[hw,zan,zaz,zao,zaq,zar,zas,List.set_cons_zero,List.set_cons_succ,and_true,true_and,Int.natCast_zero,Int.cast_ofNat_Int,D.v.injEq,Value.int.injEq];try(repeat'(first|rfl|omega|with_reducible apply And.intro))) rfl rfl) hi rfl (by omega)
 ·have hi:i=a.length:=by
   have:¬(i:Int)<a.length:=by simpa using hge
   omega
  repeat'(first|(with_reducible first|refine zaa _ _ ?_|refine zae ?_|refine zaf ?_)|rw[zad]|simp only[zY,Int.reduceEq,Int.reduceBEq,Int.reduceBNe,Nat.reduceSub,Nat.reduceEqDiff,Nat.reduceAdd,Nat.reduceMul,Nat.reduceLeDiff,Nat.reduceLT,Nat.reduceBEq,reduceCtorEq]|refine zab ?_|refine zac (fun hb=> ?_) (fun hb=> ?_)|(refine And.intro ?_ ?_;exact zI)|refine And.intro (fun hg=> ?_) (fun hg=> ?_)|exact zC|fail)
theorem zin (s:St) (h:Small s):CallOK Tryz.prog 11 [.f (.agg s.lent), .f (.agg s.lent)] (fun x o=>x=[rb true]∧o=[]):=by
 refine zak zaA mixed (T:=Ty) (n:=45) Tryz.func11 (c:=Tryz.f11.body.getD .skip) rfl Tryz.results11 Tryz.ntmps11 Tryz.call11 ?_
 simp only[Tryz.f11,Option.getD]
 have h1:=zj3 s.sess h.sess
 have h2:=zjh s.locks h.locks (fun k hk=>(h.line k hk).1)
 have h3:=zji s.memos h.memos (fun k hk=>(h.held k hk).1)
 repeat'(first|(with_reducible first|refine zaa _ _ ?_|refine zae ?_|refine zaf ?_)|rw[zad]|simp only[beq_self_eq_true,zY,Int.reduceEq,Int.reduceBEq,Int.reduceBNe,Nat.reduceSub,Nat.reduceEqDiff,Nat.reduceAdd,Nat.reduceMul,Nat.reduceLeDiff,Nat.reduceLT,Nat.reduceBEq,reduceCtorEq]|((first|((try refine zai ?_);apply zaj)|(apply zah;intro _));(solve|exact(h1)|exact(h2)|exact(h3)|(refine CallOK.le (h1) ?_;exact zM)|(refine CallOK.le (h2) ?_;exact zM)|(refine CallOK.le (h3) ?_;exact zM)|fail);try case hn=>rfl)|refine zab ?_|refine zac (fun hb=> ?_) (fun hb=> ?_)|(refine And.intro ?_ ?_;exact zI)|refine And.intro (fun hg=> ?_) (fun hg=> ?_)|exact zC|fail)
end Go.Proofs.YtniafckaafcpbaaGreat
