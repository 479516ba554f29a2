import Derived.Test.YtniafckaafcpbaaGreatVP
namespace Go.Proofs.YtniafckaafcpbaaGreat
open Go.Pk
set_option maxRecDepth 100000
set_option linter.unusedSimpArgs false
set_option linter.unusedVariables false
set_option maxHeartbeats 4000000 in
theorem zjZ (l:List Memo) (hl:l.length<2^30) (hll:∀m∈l,replyOk m.reply):CallOK Tryz.prog 58 [.f (al l.length (memosE l))] (fun r o=>r=[rb (memoB l)]∧o=[]):=by
 refine zak zaA mixed (T:=Ty) (n:=46) Tryz.func58 (c:=Tryz.f58.body.getD .skip) rfl Tryz.results58 Tryz.ntmps58 Tryz.call58 ?_
 simp only[Tryz.f58,Option.getD]
 repeat'(first|(with_reducible first|refine zaa _ _ ?_|refine zae ?_|refine zaf ?_)|rw[zad]|simp only[zaD,zY,Int.reduceEq,Int.reduceBEq,Int.reduceBNe,Nat.reduceSub,Nat.reduceEqDiff,Nat.reduceAdd,Nat.reduceMul,Nat.reduceLeDiff,Nat.reduceLT,Nat.reduceBEq,reduceCtorEq]|refine zab ?_|refine zac (fun hb=> ?_) (fun hb=> ?_)|(refine And.intro ?_ ?_;exact zI)|refine And.intro (fun hg=> ?_) (fun hg=> ?_)|exact zC|fail)
 refine zau (τ:=Nat) (fun i=>⟨[al l.length (memosE l),dd,dd,ai i,dd,dd,dd,dd,dd,dd,dd,dd,dd,dd,dd,dd,dd,dd,dd,dd,dd,dd,dd,dd,dd,dd,dd,dd,dd,dd,dd,dd,dd,dd,dd,dd,dd,dd,dd,dd,dd,dd,dd,dd,dd,dd],[]⟩)
  (fun i=>i≤l.length) (fun i=>checkP (memoQ l) i (l.drop i)) (fun i=>l.length - i) 0
  (Gh.canon [] [] [] zK rfl rfl) (Nat.zero_le _) ?_
 intro i hi0 hF K hK
 simp only[List.drop_zero]at hF hK⊢
 have hF:checkP (memoQ l) i (l.drop i)=memoB l:=hF
 repeat(first|with_reducible refine zaa _ _ ?_|with_reducible refine And.imp_right (zaa _ _) ?_|with_reducible refine And.imp_right (And.imp_right (zaa _ _)) ?_|with_reducible refine And.imp_right (And.imp_right (And.imp_right (zaa _ _))) ?_|rw[zad]|simp only[zB,Nat.reduceSub,Nat.reduceEqDiff,Nat.reduceAdd,Nat.reduceMul,Nat.reduceLeDiff,Nat.reduceLT,Nat.reduceBEq,reduceCtorEq])
 refine zac (fun hlt=> ?_) (fun hge=> ?_)
 ·have hi:i<l.length:=by simpa using hlt
  have hat:=za2 hi
  have hw:=zat hi (by omega)
  rw[zaB hi]at hF
  have han:=zdW l[i] (hll _ (List.getElem_mem hi))
  cases e0:decide ((i:Int)>0)
  ·have hq:memoQ l i l[i]= !(!(answerB l[i])):=by
    unfold memoQ
    have h0:decide (i>0)=false:=by simpa using e0
    rw[h0,Bool.false_and,Bool.or_false]
   have h0:i=0:=by simpa using e0
   have hp:(memosE l).drop ((IntKind.i64.wrap ((i:Int) - 1)).toNat*6)=l[i].enc++memosE (l.drop (i+1)):=by
    rw[←za2 hi,h0];rfl
   repeat'(first|(with_reducible first|refine zaa _ _ ?_|refine zae ?_|refine zaf ?_)|rw[zad]|simp only[hat,hp,e0,List.cons_append,List.nil_append,zaD,zY,Int.reduceEq,Int.reduceBEq,Int.reduceBNe,Nat.reduceSub,Nat.reduceEqDiff,Nat.reduceAdd,Nat.reduceMul,Nat.reduceLeDiff,Nat.reduceLT,Nat.reduceBEq,reduceCtorEq]|((first|((try refine zai ?_);apply zaj)|(apply zah;intro _));(solve|exact(han)|(refine CallOK.le (han) ?_;exact zM)|fail);try case hn=>rfl)|refine zab ?_|refine zac (fun hb=> ?_) (fun hb=> ?_)|(refine And.intro ?_ ?_;exact zI)|refine And.intro (fun hg=> ?_) (fun hg=> ?_)|exact zC|fail)
   ·rw[hq,hb,if_neg (by simp)]at hF
    rw[←hF]
   ·exact hK _ (i+1) (Gh.canon [] [] [] (by simp only[hw,zan,zaz,zao,zaq,zar,zas,List.set_cons_zero,List.set_cons_succ,and_true,true_and,Int.natCast_zero,Int.cast_ofNat_Int,D.v.injEq,Value.int.injEq];try(repeat'(first|rfl|omega|with_reducible apply And.intro))) rfl rfl) hi (by rw[zaB hi,hq,hb];rfl) (by omega)
  ·have hq:memoQ l i l[i]= !(!(answerB l[i])||decide (l[i].client≤(l[i - 1]'(by omega)).client)):=by
    unfold memoQ prevM
    have h0:decide (i>0)=true:=by simpa using e0
    rw[h0,Bool.true_and,List.getElem?_eq_getElem (by omega)]
    rfl
   have h0:0<i:=by simpa using e0
   have hp:=za2 (show i - 1<l.length by omega)
   have hw1:IntKind.i64.wrap ((i:Int) - 1)=((i - 1:Nat):Int):=by rw[wrap64 (by omega) (by omega)];omega
   repeat'(first|(with_reducible first|refine zaa _ _ ?_|refine zae ?_|refine zaf ?_)|rw[zad]|simp only[hat,hp,hw1,e0,List.cons_append,List.nil_append,zaD,zY,Int.reduceEq,Int.reduceBEq,Int.reduceBNe,Nat.reduceSub,Nat.reduceEqDiff,Nat.reduceAdd,Nat.reduceMul,Nat.reduceLeDiff,Nat.reduceLT,Nat.reduceBEq,reduceCtorEq]|((first|((try refine zai ?_);apply zaj)|(apply zah;intro _));(solve|exact(han)|(refine CallOK.le (han) ?_;exact zM)|fail);try case hn=>rfl)|refine zab ?_|refine zac (fun hb=> ?_) (fun hb=> ?_)|(refine And.intro ?_ ?_;exact zI)|refine And.intro (fun hg=> ?_) (fun hg=> ?_)|exact zC|fail)
   ·rw[hq,hb,if_neg (by simp)]at hF
    rw[←hF]
   ·exact hK _ (i+1) (Gh.canon [] [] [] (by simp only[hw,zan,zaz,zao,zaq,zar,zas,List.set_cons_zero,List.set_cons_succ,and_true,true_and,Int.natCast_zero,Int.cast_ofNat_Int,D.v.injEq,Value.int.injEq];try(repeat'(first|rfl|omega|with_reducible apply And.intro))) rfl rfl) hi (by rw[zaB hi,hq,hb];rfl) (by omega)
 ·have hi:i=l.length:=by
   have:¬(i:Int)<l.length:=by simpa using hge
   omega
  rw[zbf hi]at hF
  rw[←hF]
  repeat'(first|(with_reducible first|refine zaa _ _ ?_|refine zae ?_|refine zaf ?_)|rw[zad]|simp only[zY,Int.reduceEq,Int.reduceBEq,Int.reduceBNe,Nat.reduceSub,Nat.reduceEqDiff,Nat.reduceAdd,Nat.reduceMul,Nat.reduceLeDiff,Nat.reduceLT,Nat.reduceBEq,reduceCtorEq]|refine zab ?_|refine zac (fun hb=> ?_) (fun hb=> ?_)|(refine And.intro ?_ ?_;exact zI)|refine And.intro (fun hg=> ?_) (fun hg=> ?_)|exact zC|fail)
def lockOk (s:St) (k:Lk):Bool:=(findS s.sess k.holder).isSome&&decide (k.token≤s.token)&&k.line.all fun c=>(findS s.sess c).isSome
theorem zjf (s:St):((s.locks.all fun k=>decide (k.token≤s.token))&&seatedB s)=s.locks.all (lockOk s):=by
 unfold seatedB
 generalize s.locks=l
 induction l with
 |nil=>rfl
 |cons k l ih=>
  simp only[List.all_cons]at ih⊢
  rw[←ih]
  unfold lockOk
  generalize (l.all fun k=>decide (k.token≤s.token))=a
  generalize (l.all fun k=>(findS s.sess k.holder).isSome&&k.line.all fun c=>(findS s.sess c).isSome)=b
  generalize (k.line.all fun c=>(findS s.sess c).isSome)=c
  generalize (findS s.sess k.holder).isSome=d
  generalize decide (k.token≤s.token)=e
  cases a<;>cases b<;>cases c<;>cases d<;>cases e<;>rfl
set_option maxHeartbeats 4000000 in
theorem zgE (s:St) (h:Small s):CallOK Tryz.prog 21 [.f (.agg s.lent)] (fun r o=>r=[rb (rightB s)]∧o=[]):=by
 refine zak zaA mixed (T:=Ty) (n:=110) Tryz.func21 (c:=Tryz.f21.body.getD .skip) rfl Tryz.results21 Tryz.ntmps21 Tryz.call21 ?_
 simp only[Tryz.f21,Option.getD]
 have w1:CallOK Tryz.prog 55 [.f (ai s.time), .f (ai 0)] (fun r o=>r=[rb (within s.time)]∧o=[]):=zb4 s.time 0
 have w2:CallOK Tryz.prog 55 [.f (ai s.num), .f (ai 0)] (fun r o=>r=[rb (within s.num)]∧o=[]):=zb4 s.num 0
 have w3:CallOK Tryz.prog 55 [.f (ai s.token), .f (ai 0)] (fun r o=>r=[rb (within s.token)]∧o=[]):=zb4 s.token 0
 have hsr:=zlH s.sess h.sess
 have hlr:=zj2 s.locks h.locks h.line
 have hmr:=zjZ s.memos h.memos h.held
 have hns:=h.sess
 have hnl:=h.locks
 cases hA:(!within s.time|| !within s.num|| !within s.token|| !sessB s.sess|| !lockB s.locks|| !memoB s.memos)
 ·have hrb:rightB s=((s.sess.all fun x=>decide (x.num≤s.num))&&s.locks.all (lockOk s)):=by
   rw[←zjf]
   unfold rightB
   simp at hA
   rw[hA.1.1.1.1.1,hA.1.1.1.1.2,hA.1.1.1.2,hA.1.1.2,hA.1.2,hA.2]
   simp only[Bool.true_and,Bool.and_assoc]
  repeat'(first|(with_reducible first|refine zaa _ _ ?_|refine zae ?_|refine zaf ?_)|rw[zad]|simp only[hA,zY,Int.reduceEq,Int.reduceBEq,Int.reduceBNe,Nat.reduceSub,Nat.reduceEqDiff,Nat.reduceAdd,Nat.reduceMul,Nat.reduceLeDiff,Nat.reduceLT,Nat.reduceBEq,reduceCtorEq]|((first|((try refine zai ?_);apply zaj)|(apply zah;intro _));(solve|exact(w1)|exact(w2)|exact(w3)|exact(hsr)|exact(hlr)|exact(hmr)|(refine CallOK.le (w1) ?_;exact zM)|(refine CallOK.le (w2) ?_;exact zM)|(refine CallOK.le (w3) ?_;exact zM)|(refine CallOK.le (hsr) ?_;exact zM)|(refine CallOK.le (hlr) ?_;exact zM)|(refine CallOK.le (hmr) ?_;exact zM)|fail);try case hn=>rfl)|refine zab ?_|refine zac (fun hb=> ?_) (fun hb=> ?_)|(refine And.intro ?_ ?_;exact zI)|refine And.intro (fun hg=> ?_) (fun hg=> ?_)|exact zC|fail)
  refine zau (τ:=Nat) (fun i=>⟨[dd, .one (.ptr ⟨1,0,1⟩ 0),dd,ai i,dd,dd,dd,dd,dd,dd,dd,dd,dd,dd,dd,dd,dd,dd,dd,dd,dd,dd,dd,dd,dd,dd,dd,dd,dd,dd,dd,dd,dd,dd,dd,dd,dd,dd,dd,dd,dd,dd,dd,dd,dd,dd,dd,dd,dd,dd,dd,dd,dd,dd,dd,dd,dd,dd,dd,dd,dd,dd,dd,dd,dd,dd,dd,dd,dd,dd,dd,dd,dd,dd,dd,dd,dd,dd,dd,dd,dd,dd,dd,dd,dd,dd,dd,dd,dd,dd,dd,dd,dd,dd,dd,dd,dd,dd,dd,dd,dd,dd,dd,dd,dd,dd,dd,dd,dd,dd],[(1,{next:=2,l:=[some {e:=1,var:=true,fz:=false,sz:=0,cells:=[di s.time,di s.num,di s.token, .lent s.sess.length (sessE s.sess), .lent s.locks.length (locksE s.locks), .lent s.memos.length (memosE s.memos)]},none,none,none,none,none,none]})]⟩)
   (fun i=>i≤s.sess.length) (fun i=>(s.sess.drop i).all fun x=>decide (x.num≤s.num)) (fun i=>s.sess.length - i) 0
   (Gh.canon [1] [] [] zK rfl rfl) (Nat.zero_le _) ?_
  intro i hi0 hF K hK
  rw[List.drop_zero]at hF
  repeat(first|with_reducible refine zaa _ _ ?_|with_reducible refine And.imp_right (zaa _ _) ?_|with_reducible refine And.imp_right (And.imp_right (zaa _ _)) ?_|with_reducible refine And.imp_right (And.imp_right (And.imp_right (zaa _ _))) ?_|rw[zad]|simp only[zB,Nat.reduceSub,Nat.reduceEqDiff,Nat.reduceAdd,Nat.reduceMul,Nat.reduceLeDiff,Nat.reduceLT,Nat.reduceBEq,reduceCtorEq])
  refine zac (fun hlt=> ?_) (fun hge=> ?_)
  ·have hi:i<s.sess.length:=by simpa using hlt
   have hat:=zaV hi
   have hw:=zat hi (by omega)
   rw[List.drop_eq_getElem_cons hi,List.all_cons]at hF
   repeat'(first|(with_reducible first|refine zaa _ _ ?_|refine zae ?_|refine zaf ?_)|rw[zad]|simp only[hat,List.cons_append,List.nil_append,zax,zY,Int.reduceEq,Int.reduceBEq,Int.reduceBNe,Nat.reduceSub,Nat.reduceEqDiff,Nat.reduceAdd,Nat.reduceMul,Nat.reduceLeDiff,Nat.reduceLT,Nat.reduceBEq,reduceCtorEq]|refine zab ?_|refine zac (fun hb=> ?_) (fun hb=> ?_)|(refine And.intro ?_ ?_;exact zI)|refine And.intro (fun hg=> ?_) (fun hg=> ?_)|exact zC|fail)
   ·have e:decide (s.sess[i].num≤s.num)=false:=by simp at hb⊢;omega
    rw[e,Bool.false_and]at hF
    rw[hrb,←hF]
    rfl
   ·have e:decide (s.sess[i].num≤s.num)=true:=by simp at hb⊢;omega
    exact hK _ (i+1) (Gh.canon [1] [] [] (by simp only[hw,zan,zaz,zao,zaq,zar,zas,List.set_cons_zero,List.set_cons_succ,and_true,true_and,Int.natCast_zero,Int.cast_ofNat_Int,D.v.injEq,Value.int.injEq];try(repeat'(first|rfl|omega|with_reducible apply And.intro))) rfl rfl) hi (by rw[List.drop_eq_getElem_cons hi,List.all_cons,e,Bool.true_and]) (by omega)
  ·have hi:i=s.sess.length:=by
    have:¬(i:Int)<s.sess.length:=by simpa using hge
    omega
   rw[hi,List.drop_length,List.all_nil]at hF
   rw[←hF,Bool.true_and]at hrb
   rw[hrb]
   repeat'(first|(with_reducible first|refine zaa _ _ ?_|refine zae ?_|refine zaf ?_)|rw[zad]|simp only[zY,Int.reduceEq,Int.reduceBEq,Int.reduceBNe,Nat.reduceSub,Nat.reduceEqDiff,Nat.reduceAdd,Nat.reduceMul,Nat.reduceLeDiff,Nat.reduceLT,Nat.reduceBEq,reduceCtorEq]|refine zab ?_|refine zac (fun hb=> ?_) (fun hb=> ?_)|(refine And.intro ?_ ?_;exact zI)|refine And.intro (fun hg=> ?_) (fun hg=> ?_)|exact zC|fail)
   refine zau (τ:=Nat) (fun i=>⟨[dd, .one (.ptr ⟨1,0,1⟩ 0),dd,dd,ai i,dd,dd,dd,dd,dd,dd,dd,dd,dd,dd,dd,dd,dd,dd,dd,dd,dd,dd,dd,dd,dd,dd,dd,dd,dd,dd,dd,dd,dd,dd,dd,dd,dd,dd,dd,dd,dd,dd,dd,dd,dd,dd,dd,dd,dd,dd,dd,dd,dd,dd,dd,dd,dd,dd,dd,dd,dd,dd,dd,dd,dd,dd,dd,dd,dd,dd,dd,dd,dd,dd,dd,dd,dd,dd,dd,dd,dd,dd,dd,dd,dd,dd,dd,dd,dd,dd,dd,dd,dd,dd,dd,dd,dd,dd,dd,dd,dd,dd,dd,dd,dd,dd,dd,dd,dd],[(1,{next:=2,l:=[some {e:=1,var:=true,fz:=false,sz:=0,cells:=[di s.time,di s.num,di s.token, .lent s.sess.length (sessE s.sess), .lent s.locks.length (locksE s.locks), .lent s.memos.length (memosE s.memos)]},none,none,none,none,none,none]}),(5,⟨2,[]⟩),(6,⟨2,[]⟩),(9,⟨2,[]⟩)]⟩)
    (fun i=>i≤s.locks.length) (fun i=>(s.locks.drop i).all (lockOk s)) (fun i=>s.locks.length - i) 0
    (Gh.canon [1] [5,6,9] [] zK rfl rfl) (Nat.zero_le _) ?_
   clear hF hK
   intro i hi0 hF K hK
   rw[List.drop_zero]at hF
   repeat(first|with_reducible refine zaa _ _ ?_|with_reducible refine And.imp_right (zaa _ _) ?_|with_reducible refine And.imp_right (And.imp_right (zaa _ _)) ?_|with_reducible refine And.imp_right (And.imp_right (And.imp_right (zaa _ _))) ?_|rw[zad]|simp only[zB,Nat.reduceSub,Nat.reduceEqDiff,Nat.reduceAdd,Nat.reduceMul,Nat.reduceLeDiff,Nat.reduceLT,Nat.reduceBEq,reduceCtorEq])
   refine zac (fun hlt2=> ?_) (fun hge2=> ?_)
   ·have hi:i<s.locks.length:=by simpa using hlt2
    have hat:=zaG hi
    have hw:=zat hi (by omega)
    have hlo:=(h.line _ (List.getElem_mem hi)).1
    rw[List.drop_eq_getElem_cons hi,List.all_cons]at hF
    have hfi:=zca s.sess (by omega) s.locks[i].holder
    cases ha:(findS s.sess s.locks[i].holder).isSome
    ·have e:lockOk s s.locks[i]=false:=by unfold lockOk;rw[ha];rfl
     rw[e,Bool.false_and]at hF
     rw[ha]at hfi
     repeat'(first|(with_reducible first|refine zaa _ _ ?_|refine zae ?_|refine zaf ?_)|rw[zad]|simp only[hat,List.cons_append,List.nil_append,zam,zY,Int.reduceEq,Int.reduceBEq,Int.reduceBNe,Nat.reduceSub,Nat.reduceEqDiff,Nat.reduceAdd,Nat.reduceMul,Nat.reduceLeDiff,Nat.reduceLT,Nat.reduceBEq,reduceCtorEq]|((first|((try refine zai ?_);apply zaj)|(apply zah;intro _));(solve|exact(hfi)|(refine CallOK.le (hfi) ?_;exact zM)|fail);try case hn=>rfl)|refine zab ?_|refine zac (fun hb=> ?_) (fun hb=> ?_)|(refine And.intro ?_ ?_;exact zI)|refine And.intro (fun hg=> ?_) (fun hg=> ?_)|exact zC|fail)
     rw[←hF]
    ·rw[ha]at hfi
     cases hb0:decide (s.locks[i].token>s.token)
     ·have e:lockOk s s.locks[i]=s.locks[i].line.all fun c=>(findS s.sess c).isSome:=by
       unfold lockOk
       rw[ha,show decide (s.locks[i].token≤s.token)=true by simp at hb0⊢;omega];rfl
      rw[e]at hF
      repeat'(first|(with_reducible first|refine zaa _ _ ?_|refine zae ?_|refine zaf ?_)|rw[zad]|simp only[hat,hb0,List.cons_append,List.nil_append,zam,zY,Int.reduceEq,Int.reduceBEq,Int.reduceBNe,Nat.reduceSub,Nat.reduceEqDiff,Nat.reduceAdd,Nat.reduceMul,Nat.reduceLeDiff,Nat.reduceLT,Nat.reduceBEq,reduceCtorEq]|((first|((try refine zai ?_);apply zaj)|(apply zah;intro _));(solve|exact(hfi)|(refine CallOK.le (hfi) ?_;exact zM)|fail);try case hn=>rfl)|refine zab ?_|refine zac (fun hb=> ?_) (fun hb=> ?_)|(refine And.intro ?_ ?_;exact zI)|refine And.intro (fun hg=> ?_) (fun hg=> ?_)|exact zC|fail)
      refine zau (τ:=Nat) (fun j=>⟨[dd, .one (.ptr ⟨1,0,1⟩ 0),dd,dd,ai i, .one (.ptr ⟨5,0,1⟩ 0),dd,dd,ai j,dd,dd,dd,dd,dd,dd,dd,dd,dd,dd,dd,dd,dd,dd,dd,dd,dd,dd,dd,dd,dd,dd,dd,dd,dd,dd,dd,dd,dd,dd,dd,dd,dd,dd,dd,dd,dd,dd,dd,dd,dd,dd,dd,dd,dd,dd,dd,dd,dd,dd,dd,dd,dd,dd,dd,dd,dd,dd,dd,dd,dd,dd,dd,dd,dd,dd,dd,dd,dd,dd,dd,dd,dd,dd,dd,dd,dd,dd,dd,dd,dd,dd,dd,dd,dd,dd,dd,dd,dd,dd,dd,dd,dd,dd,dd,dd,dd,dd,dd,dd,dd],[(1,{next:=2,l:=[some {e:=1,var:=true,fz:=false,sz:=0,cells:=[di s.time,di s.num,di s.token, .lent s.sess.length (sessE s.sess), .lent s.locks.length (locksE s.locks), .lent s.memos.length (memosE s.memos)]},none,none,none,none,none,none]}),(5,{next:=2,l:=[some {e:=1,var:=true,fz:=false,sz:=0,cells:=[.d (sD s.locks[i].name),di s.locks[i].holder,di s.locks[i].token, .d (.sl s.locks[i].line.length (intsE s.locks[i].line))]},none,none,none,none]}),(6,⟨2,[]⟩),(9,⟨2,[]⟩)]⟩)
       (fun j=>j≤s.locks[i].line.length) (fun j=>(s.locks[i].line.drop j).all fun c=>(findS s.sess c).isSome) (fun j=>s.locks[i].line.length - j) 0
       (Gh.canon [1,5] [] [] zK rfl rfl) (Nat.zero_le _) ?_
      intro j hj0 hF2 K2 hK2
      rw[List.drop_zero]at hF2
      repeat(first|with_reducible refine zaa _ _ ?_|with_reducible refine And.imp_right (zaa _ _) ?_|with_reducible refine And.imp_right (And.imp_right (zaa _ _)) ?_|with_reducible refine And.imp_right (And.imp_right (And.imp_right (zaa _ _))) ?_|rw[zad]|simp only[zB,Nat.reduceSub,Nat.reduceEqDiff,Nat.reduceAdd,Nat.reduceMul,Nat.reduceLeDiff,Nat.reduceLT,Nat.reduceBEq,reduceCtorEq])
      refine zac (fun hlt3=> ?_) (fun hge3=> ?_)
      ·have hj:j<s.locks[i].line.length:=by simpa using hlt3
       have haj:=zbo hj
       have hwj:=zat hj (by omega)
       have hfj:=zca s.sess (by omega) s.locks[i].line[j]
       rw[List.drop_eq_getElem_cons hj,List.all_cons]at hF2
       cases hb:(findS s.sess s.locks[i].line[j]).isSome
       ·rw[hb]at hfj hF2
        rw[←hF2]at hF
        repeat'(first|(with_reducible first|refine zaa _ _ ?_|refine zae ?_|refine zaf ?_)|rw[zad]|simp only[haj,List.cons_append,List.nil_append,zaw,zY,Int.reduceEq,Int.reduceBEq,Int.reduceBNe,Nat.reduceSub,Nat.reduceEqDiff,Nat.reduceAdd,Nat.reduceMul,Nat.reduceLeDiff,Nat.reduceLT,Nat.reduceBEq,reduceCtorEq]|((first|((try refine zai ?_);apply zaj)|(apply zah;intro _));(solve|exact(hfj)|(refine CallOK.le (hfj) ?_;exact zM)|fail);try case hn=>rfl)|refine zab ?_|refine zac (fun hb=> ?_) (fun hb=> ?_)|(refine And.intro ?_ ?_;exact zI)|refine And.intro (fun hg=> ?_) (fun hg=> ?_)|exact zC|fail)
        rw[←hF]
        rfl
       ·rw[hb]at hfj hF2
        repeat'(first|(with_reducible first|refine zaa _ _ ?_|refine zae ?_|refine zaf ?_)|rw[zad]|simp only[haj,List.cons_append,List.nil_append,zaw,zY,Int.reduceEq,Int.reduceBEq,Int.reduceBNe,Nat.reduceSub,Nat.reduceEqDiff,Nat.reduceAdd,Nat.reduceMul,Nat.reduceLeDiff,Nat.reduceLT,Nat.reduceBEq,reduceCtorEq]|((first|((try refine zai ?_);apply zaj)|(apply zah;intro _));(solve|exact(hfj)|(refine CallOK.le (hfj) ?_;exact zM)|fail);try case hn=>rfl)|refine zab ?_|refine zac (fun hb=> ?_) (fun hb=> ?_)|(refine And.intro ?_ ?_;exact zI)|refine And.intro (fun hg=> ?_) (fun hg=> ?_)|exact zC|fail)
        exact hK2 _ (j+1) (Gh.canon [1,5] [] [] (by simp only[hwj,zan,zaz,zao,zaq,zar,zas,List.set_cons_zero,List.set_cons_succ,and_true,true_and,Int.natCast_zero,Int.cast_ofNat_Int,D.v.injEq,Value.int.injEq];try(repeat'(first|rfl|omega|with_reducible apply And.intro))) rfl rfl) hj (by rw[List.drop_eq_getElem_cons hj,List.all_cons,hb,Bool.true_and]) (by omega)
      ·have hj:j=s.locks[i].line.length:=by
        have:¬(j:Int)<s.locks[i].line.length:=by simpa using hge3
        omega
       rw[hj,List.drop_length,List.all_nil]at hF2
       repeat'(first|(with_reducible first|refine zaa _ _ ?_|refine zae ?_|refine zaf ?_)|rw[zad]|simp only[zY,Int.reduceEq,Int.reduceBEq,Int.reduceBNe,Nat.reduceSub,Nat.reduceEqDiff,Nat.reduceAdd,Nat.reduceMul,Nat.reduceLeDiff,Nat.reduceLT,Nat.reduceBEq,reduceCtorEq]|refine zab ?_|refine zac (fun hb=> ?_) (fun hb=> ?_)|(refine And.intro ?_ ?_;exact zI)|refine And.intro (fun hg=> ?_) (fun hg=> ?_)|exact zC|fail)
       exact hK _ (i+1) (Gh.canon [1] [] [] (by simp only[hw,zan,zaz,zao,zaq,zar,zas,List.set_cons_zero,List.set_cons_succ,and_true,true_and,Int.natCast_zero,Int.cast_ofNat_Int,D.v.injEq,Value.int.injEq];try(repeat'(first|rfl|omega|with_reducible apply And.intro))) rfl rfl) hi (by rw[List.drop_eq_getElem_cons hi,List.all_cons,e,←hF2,Bool.true_and]) (by omega)
     ·have e:lockOk s s.locks[i]=false:=by
       unfold lockOk
       rw[ha,show decide (s.locks[i].token≤s.token)=false by simp at hb0⊢;omega];rfl
      rw[e,Bool.false_and]at hF
      repeat'(first|(with_reducible first|refine zaa _ _ ?_|refine zae ?_|refine zaf ?_)|rw[zad]|simp only[hat,hb0,List.cons_append,List.nil_append,zam,zY,Int.reduceEq,Int.reduceBEq,Int.reduceBNe,Nat.reduceSub,Nat.reduceEqDiff,Nat.reduceAdd,Nat.reduceMul,Nat.reduceLeDiff,Nat.reduceLT,Nat.reduceBEq,reduceCtorEq]|((first|((try refine zai ?_);apply zaj)|(apply zah;intro _));(solve|exact(hfi)|(refine CallOK.le (hfi) ?_;exact zM)|fail);try case hn=>rfl)|refine zab ?_|refine zac (fun hb=> ?_) (fun hb=> ?_)|(refine And.intro ?_ ?_;exact zI)|refine And.intro (fun hg=> ?_) (fun hg=> ?_)|exact zC|fail)
      rw[←hF]
   ·have hi:i=s.locks.length:=by
     have:¬(i:Int)<s.locks.length:=by simpa using hge2
     omega
    rw[hi,List.drop_length,List.all_nil]at hF
    rw[←hF]
    repeat'(first|(with_reducible first|refine zaa _ _ ?_|refine zae ?_|refine zaf ?_)|rw[zad]|simp only[zY,Int.reduceEq,Int.reduceBEq,Int.reduceBNe,Nat.reduceSub,Nat.reduceEqDiff,Nat.reduceAdd,Nat.reduceMul,Nat.reduceLeDiff,Nat.reduceLT,Nat.reduceBEq,reduceCtorEq]|refine zab ?_|refine zac (fun hb=> ?_) (fun hb=> ?_)|(refine And.intro ?_ ?_;exact zI)|refine And.intro (fun hg=> ?_) (fun hg=> ?_)|exact zC|fail)
 ·have hrb:rightB s=false:=by
   unfold rightB
   simp only[Bool.or_eq_true,Bool.not_eq_true']at hA
   rcases hA with((((h|h)|h)|h)|h)|h<;>rw[h]<;>simp
  rw[hrb]
  repeat'(first|(with_reducible first|refine zaa _ _ ?_|refine zae ?_|refine zaf ?_)|rw[zad]|simp only[hA,zY,Int.reduceEq,Int.reduceBEq,Int.reduceBNe,Nat.reduceSub,Nat.reduceEqDiff,Nat.reduceAdd,Nat.reduceMul,Nat.reduceLeDiff,Nat.reduceLT,Nat.reduceBEq,reduceCtorEq]|((first|((try refine zai ?_);apply zaj)|(apply zah;intro _));(solve|exact(w1)|exact(w2)|exact(w3)|exact(hsr)|exact(hlr)|exact(hmr)|(refine CallOK.le (w1) ?_;exact zM)|(refine CallOK.le (w2) ?_;exact zM)|(refine CallOK.le (w3) ?_;exact zM)|(refine CallOK.le (hsr) ?_;exact zM)|(refine CallOK.le (hlr) ?_;exact zM)|(refine CallOK.le (hmr) ?_;exact zM)|fail);try case hn=>rfl)|refine zab ?_|refine zac (fun hb=> ?_) (fun hb=> ?_)|(refine And.intro ?_ ?_;exact zI)|refine And.intro (fun hg=> ?_) (fun hg=> ?_)|exact zC|fail)
end Go.Proofs.YtniafckaafcpbaaGreat
