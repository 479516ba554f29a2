import Derived.Test.YtliimajkpggbhaaGreatWE
namespace Go.Proofs.YtliimajkpggbhaaGreat
open Go.Pk Tryz
set_option maxRecDepth 100000
set_option linter.unusedSimpArgs false
set_option linter.unusedVariables false
theorem tk1 (X:List Int) (c:Int):(zaa X++[D.v (Value.int .u8 c)]).take (X.length+1)=zaa X++[D.v (Value.int .u8 c)]:=List.take_of_length_le (by simp)
theorem tk2 (X:List Int) (c n:Int):(zaa X++[D.v (Value.int .u8 c)]++zaa (zaK n)).take (X.length+1+8)=zaa X++[D.v (Value.int .u8 c)]++zaa (zaK n):=List.take_of_length_le (by simp[zaz])
theorem tk3 (X:List Int) (c:Int) (n:ByteArray):(zaa X++[D.v (Value.int .u8 c)]++zi3 n).take (X.length+1+n.size)=zaa X++[D.v (Value.int .u8 c)]++zi3 n:=List.take_of_length_le (by rw[List.length_append,List.length_append,List.length_map,List.length_map,zdn];exact Nat.le_refl _)
theorem tk4 (X:List Int) (c d:Int) (n:ByteArray):(zaa X++[D.v (Value.int .u8 c)]++zi3 n++[D.v (Value.int .u8 d)]).take (X.length+1+n.size+1)=zaa X++[D.v (Value.int .u8 c)]++zi3 n++[D.v (Value.int .u8 d)]:=List.take_of_length_le (by rw[List.length_append,List.length_append,List.length_append,List.length_map,List.length_map,zdn];exact Nat.le_refl _)
theorem tk5 (X:List Int) (c d e:Int) (n:ByteArray):(zaa X++[D.v (Value.int .u8 c)]++zi3 n++[D.v (Value.int .u8 d)]++zaa (zaK e)).take (X.length+1+n.size+1+8)=zaa X++[D.v (Value.int .u8 c)]++zi3 n++[D.v (Value.int .u8 d)]++zaa (zaK e):=List.take_of_length_le (by rw[List.length_append,List.length_append,List.length_append,List.length_append,List.length_map,List.length_map,List.length_map,zdn,zaz];exact Nat.le_refl _)
set_option maxHeartbeats 4000000 in
theorem zvf (s:St) (h:RightS s):CallOK prog 72 [.f (.agg s.lent)] (fun r o=>r=[.one (.own 1 (zdJ s).length (zaa (zdJ s)) false),ri 0]∧o=[]):=by
 refine zdx zco mixed (T:=Ty) (n:=157) func72 (c:=f72.body.getD .skip) rfl results72 ntmps72 call72 ?_
 simp only[f72,Option.getD]
 have hri:=zl7 s (zcU h)
 rw[zdY.2 h]at hri
 have hH:zcT=2305843009213693952:=rfl
 have ht:=h.time
 have hn:=h.num
 have hk:=h.token
 have hsl:=h.sl
 have hll:=h.ll
 have n1:=zaF s.time (by omega)
 have n2:=zaF s.num (by omega)
 have n3:=zaF s.token (by omega)
 have w1:IntKind.u8.wrap (s.sess.length:Int)=s.sess.length:=zbf (by omega) (by omega)
 have t8:∀v:Int,(zaa (zaK v)).take 8=zaa (zaK v):=fun v=>List.take_of_length_le (by rw[zcj];decide)
 have t1:∀x:Int,toDs (sub 0 1 1 [C.d (uD x)])=some [uD x]:=fun _=>rfl
 have t16:∀v w:Int,(zaa (zaK v)++zaa (zaK w)).take 16=zaa (zaK v)++zaa (zaK w):=fun v w=>List.take_of_length_le (by simp[zaz])
 have t24:∀v w x:Int,(zaa (zaK v)++zaa (zaK w)++zaa (zaK x)).take 24=zaa (zaK v)++zaa (zaK w)++zaa (zaK x):=fun v w x=>List.take_of_length_le (by simp[zaz])
 repeat'(first|(with_reducible first|refine zae _ _ ?_|refine zaX ?_|refine zaY ?_)|rw[zaP]|simp only[t8,t16,t24,t1,w1,List.length_map,zaz,zY,Int.reduceEq,Int.reduceBEq,Int.reduceBNe,Nat.reduceSub,Nat.reduceEqDiff,Nat.reduceAdd,Nat.reduceMul,Nat.reduceLeDiff,Nat.reduceLT,Nat.reduceBEq,reduceCtorEq]|((first|((try refine zaB ?_);apply zaC)|(apply zaE;intro _));(solve|exact(hri)|exact(n1)|exact(n2)|exact(n3)|(refine CallOK.le (hri) ?_;exact zM)|(refine CallOK.le (n1) ?_;exact zM)|(refine CallOK.le (n2) ?_;exact zM)|(refine CallOK.le (n3) ?_;exact zM)|fail);try case hn=>rfl)|refine zaG ?_|refine zab (fun hb=> ?_) (fun hb=> ?_)|(refine And.intro ?_ ?_;exact zI)|refine And.intro (fun hg=> ?_) (fun hg=> ?_)|exact zC|fail)
 have hh:zaa (zkz s)=zaa (zaK s.time)++zaa (zaK s.num)++zaa (zaK s.token)++[D.v (Value.int .u8 (s.sess.length:Int))]:=by simp[zkz,zaa]
 refine zaf (τ:=Nat) (fun i=>⟨[dd, .one (.ptr ⟨1,0,1⟩ 0),dd,dd, .one (.own ⟨4,1,1⟩ 0 (sb1 s i).length),ai i,dd,dd,dd,dd,dd,dd,dd,dd,dd,dd,dd,dd,dd,dd,dd,dd,dd,dd,dd,dd,dd,dd,dd,dd,dd,dd,dd,dd,dd,dd,dd,dd,dd,dd,dd,dd,dd,dd,dd,dd,dd,dd,dd,dd,dd,dd,dd,dd,dd,dd,dd,dd,dd,dd,dd,dd,dd,dd,dd,dd,dd,dd,dd,dd,dd,dd,dd,dd,dd,dd,dd,dd,dd,dd,dd,dd,dd,dd,dd,dd,dd,dd,dd,dd,dd,dd,dd,dd,dd,dd,dd,dd,dd,dd,dd,dd,dd,dd,dd,dd,dd,dd,dd,dd,dd,dd,dd,dd,dd,dd,dd,dd,dd,dd,dd,dd,dd,dd,dd,dd,dd,dd,dd,dd,dd,dd,dd,dd,dd,dd,dd,dd,dd,dd,dd,dd,dd,dd,dd,dd,dd,dd,dd,dd,dd,dd,dd,dd,dd,dd,dd],[(1,{next:=2,l:=[some {e:=1,var:=true,fz:=false,sz:=0,cells:=[di s.time,di s.num,di s.token, .lent s.sess.length (zaV s.sess), .lent s.locks.length (zay s.locks), .lent s.memos.length (zaM s.memos)]},none,none,none,none,none,none]}),(19,⟨2,[]⟩),(22,⟨2,[]⟩),(26,⟨2,[]⟩),(4,{next:=2,l:=[none,some {e:=1,var:=false,fz:=false,sz:=1,cells:=(zaa (sb1 s i)).map C.d}]}),(33,⟨2,[]⟩),(6,⟨2,[]⟩),(51,⟨2,[]⟩),(52,⟨2,[]⟩),(55,⟨2,[]⟩),(56,⟨2,[]⟩),(59,⟨2,[]⟩),(60,⟨2,[]⟩)]⟩)
  (fun i=>i≤s.sess.length) (fun _=>()) (fun i=>s.sess.length - i) 0
  (Gh.canon [1,4] [6,51,52,55,56,59,60] [] (by simp only[zhD,zgo,ddE,zbX,zdu,zbY,zcw,zcx,zcy,List.set_cons_zero,List.set_cons_succ,and_true,true_and,Int.natCast_zero,Int.cast_ofNat_Int,D.v.injEq,Value.int.injEq];try(repeat'(first|rfl|omega|with_reducible apply And.intro))) rfl (by rw[zhD,hh];rfl)) (Nat.zero_le _) ?_
 intro i hi0 hF K hK
 repeat(first|with_reducible refine zae _ _ ?_|with_reducible refine And.imp_right (zae _ _) ?_|with_reducible refine And.imp_right (And.imp_right (zae _ _)) ?_|with_reducible refine And.imp_right (And.imp_right (And.imp_right (zae _ _))) ?_|rw[zaP]|simp only[zB,Nat.reduceSub,Nat.reduceEqDiff,Nat.reduceAdd,Nat.reduceMul,Nat.reduceLeDiff,Nat.reduceLT,Nat.reduceBEq,reduceCtorEq])
 refine zab (fun hlt=> ?_) (fun hge=> ?_)
 ·have hi:i<s.sess.length:=by simpa using hlt
  have hat:=zbH hi
  have hw:=zai hi (by omega)
  obtain⟨f1,f2,f3⟩:=zi5.1 (h.sok _ (List.getElem_mem hi)).1
  simp only[isClient,Bool.and_eq_true,decide_eq_true_eq]at f1
  have wc:IntKind.u8.wrap s.sess[i].client=s.sess[i].client:=zbf (by omega) (by omega)
  have m1:=zaF s.sess[i].num (by omega)
  have m2:=zaF s.sess[i].renewed (by omega)
  have hb:=zis s i
  have e1:((sb1 s i).length+1≤2^47)=True:=eq_true (by omega)
  have e2:((sb1 s i).length+1+8≤2^47)=True:=eq_true (by omega)
  have e3:((sb1 s i).length+1+8+8≤2^47)=True:=eq_true (by omega)
  have hsl:(sb1 s (i+1)).length=(sb1 s i).length+1+8+8:=by rw[zkA hi,List.length_append,zl4]
  repeat'(first|(with_reducible first|refine zae _ _ ?_|refine zaX ?_|refine zaY ?_)|rw[zaP]|simp only[hat,List.cons_append,List.nil_append,zat,t8,t1,wc,e1,e2,e3,tk1,tk2,zah,List.length_map,zaz,zY,Int.reduceEq,Int.reduceBEq,Int.reduceBNe,Nat.reduceSub,Nat.reduceEqDiff,Nat.reduceAdd,Nat.reduceMul,Nat.reduceLeDiff,Nat.reduceLT,Nat.reduceBEq,reduceCtorEq]|((first|((try refine zaB ?_);apply zaC)|(apply zaE;intro _));(solve|exact(m1)|exact(m2)|(refine CallOK.le (m1) ?_;exact zM)|(refine CallOK.le (m2) ?_;exact zM)|fail);try case hn=>rfl)|refine zaG ?_|refine zab (fun hb=> ?_) (fun hb=> ?_)|(refine And.intro ?_ ?_;exact zI)|refine And.intro (fun hg=> ?_) (fun hg=> ?_)|exact zC|fail)
  exact hK _ (i+1) (Gh.canon [1,4] [] [] (by simp only[hw,hsl,ddE,zbX,zdu,zbY,zcw,zcx,zcy,List.set_cons_zero,List.set_cons_succ,and_true,true_and,Int.natCast_zero,Int.cast_ofNat_Int,D.v.injEq,Value.int.injEq];try(repeat'(first|rfl|omega|with_reducible apply And.intro))) rfl (by rw[zkA hi];simp only[roq,zaa,List.map_append,zmY,List.map_cons,List.append_assoc,List.cons_append,List.nil_append];rfl)) hi rfl (by omega)
 ·have hi:i=s.sess.length:=by
   have:¬(i:Int)<s.sess.length:=by simpa using hge
   omega
  subst hi
  clear hK
  have w2:IntKind.u8.wrap (s.locks.length:Int)=s.locks.length:=zbf (by omega) (by omega)
  have hb:=zis s s.sess.length
  have hle:((sb1 s s.sess.length).length+1≤2^47)=True:=eq_true (by omega)
  repeat'(first|(with_reducible first|refine zae _ _ ?_|refine zaX ?_|refine zaY ?_)|rw[zaP]|simp only[hle,t1,w2,zah,List.length_map,zY,Int.reduceEq,Int.reduceBEq,Int.reduceBNe,Nat.reduceSub,Nat.reduceEqDiff,Nat.reduceAdd,Nat.reduceMul,Nat.reduceLeDiff,Nat.reduceLT,Nat.reduceBEq,reduceCtorEq]|refine zaG ?_|refine zab (fun hb=> ?_) (fun hb=> ?_)|(refine And.intro ?_ ?_;exact zI)|refine And.intro (fun hg=> ?_) (fun hg=> ?_)|exact zC|fail)
  refine zaf (τ:=Nat) (fun i=>⟨[dd, .one (.ptr ⟨1,0,1⟩ 0),dd,dd, .one (.own ⟨4,1,1⟩ 0 (sb2 s i).length),dd,dd,ai i,dd,dd,dd,dd,dd,dd,dd,dd,dd,dd,dd,dd,dd,dd,dd,dd,dd,dd,dd,dd,dd,dd,dd,dd,dd,dd,dd,dd,dd,dd,dd,dd,dd,dd,dd,dd,dd,dd,dd,dd,dd,dd,dd,dd,dd,dd,dd,dd,dd,dd,dd,dd,dd,dd,dd,dd,dd,dd,dd,dd,dd,dd,dd,dd,dd,dd,dd,dd,dd,dd,dd,dd,dd,dd,dd,dd,dd,dd,dd,dd,dd,dd,dd,dd,dd,dd,dd,dd,dd,dd,dd,dd,dd,dd,dd,dd,dd,dd,dd,dd,dd,dd,dd,dd,dd,dd,dd,dd,dd,dd,dd,dd,dd,dd,dd,dd,dd,dd,dd,dd,dd,dd,dd,dd,dd,dd,dd,dd,dd,dd,dd,dd,dd,dd,dd,dd,dd,dd,dd,dd,dd,dd,dd,dd,dd,dd,dd,dd,dd],[(1,{next:=2,l:=[some {e:=1,var:=true,fz:=false,sz:=0,cells:=[di s.time,di s.num,di s.token, .lent s.sess.length (zaV s.sess), .lent s.locks.length (zay s.locks), .lent s.memos.length (zaM s.memos)]},none,none,none,none,none,none]}),(19,⟨2,[]⟩),(22,⟨2,[]⟩),(26,⟨2,[]⟩),(4,{next:=2,l:=[none,some {e:=1,var:=false,fz:=false,sz:=1,cells:=(zaa (sb2 s i)).map C.d}]}),(33,⟨2,[]⟩),(6,⟨2,[]⟩),(51,⟨2,[]⟩),(52,⟨2,[]⟩),(55,⟨2,[]⟩),(56,⟨2,[]⟩),(59,⟨2,[]⟩),(60,⟨2,[]⟩),(66,⟨2,[]⟩),(8,⟨2,[]⟩),(85,⟨2,[]⟩),(86,⟨2,[]⟩),(89,⟨2,[]⟩),(94,⟨2,[]⟩),(95,⟨2,[]⟩),(98,⟨2,[]⟩),(99,⟨2,[]⟩),(105,⟨2,[]⟩),(106,⟨2,[]⟩),(121,⟨2,[]⟩),(122,⟨2,[]⟩)]⟩)
   (fun i=>i≤s.locks.length) (fun _=>()) (fun i=>s.locks.length - i) 0
   (Gh.canon [1,4] [8,85,86,89,94,95,98,99,105,106,121,122] [] (by simp only[zhE,List.length_append,List.length_singleton,ddE,zbX,zdu,zbY,zcw,zcx,zcy,List.set_cons_zero,List.set_cons_succ,and_true,true_and,Int.natCast_zero,Int.cast_ofNat_Int,D.v.injEq,Value.int.injEq];try(repeat'(first|rfl|omega|with_reducible apply And.intro))) rfl (by rw[zhE];simp only[roq,zaa,List.map_append];rfl)) (Nat.zero_le _) ?_
  intro i hi0 hF K hK
  repeat(first|with_reducible refine zae _ _ ?_|with_reducible refine And.imp_right (zae _ _) ?_|with_reducible refine And.imp_right (And.imp_right (zae _ _)) ?_|with_reducible refine And.imp_right (And.imp_right (And.imp_right (zae _ _))) ?_|rw[zaP]|simp only[zB,Nat.reduceSub,Nat.reduceEqDiff,Nat.reduceAdd,Nat.reduceMul,Nat.reduceLeDiff,Nat.reduceLT,Nat.reduceBEq,reduceCtorEq])
  refine zab (fun hlt=> ?_) (fun hge=> ?_)
  ·have hi:i<s.locks.length:=by simpa using hlt
   have hat:=zbo hi
   have hw:=zai hi (by omega)
   obtain⟨q0,q1,q2,q3,q4,q5⟩:=zgU h (List.getElem_mem hi)
   have wc:IntKind.u8.wrap s.locks[i].holder=s.locks[i].holder:=zbf (by omega) (by omega)
   have wn:IntKind.u8.wrap (s.locks[i].name.size:Int)=s.locks[i].name.size:=zbf (by omega) (by omega)
   have wl:IntKind.u8.wrap (s.locks[i].line.length:Int)=s.locks[i].line.length:=zbf (by omega) (by omega)
   have m2:=zaF s.locks[i].token (by omega)
   have hb:=ziu h i
   have e1:((sb2 s i).length+1≤2^47)=True:=eq_true (by omega)
   have e2:((sb2 s i).length+1+s.locks[i].name.size≤2^47)=True:=eq_true (by omega)
   have e3:((sb2 s i).length+1+s.locks[i].name.size+1≤2^47)=True:=eq_true (by omega)
   have e4:((sb2 s i).length+1+s.locks[i].name.size+1+8≤2^47)=True:=eq_true (by omega)
   have e5:((sb2 s i).length+1+s.locks[i].name.size+1+8+1≤2^47)=True:=eq_true (by omega)
   have hs0:(zhf s i s.locks[i] 0).length=(sb2 s i).length+1+s.locks[i].name.size+1+8+1:=by rw[zit,List.length_append,zkB];omega
   repeat'(first|(with_reducible first|refine zae _ _ ?_|refine zaX ?_|refine zaY ?_)|rw[zaP]|simp only[hat,List.cons_append,List.nil_append,zan,t8,t1,wc,wl,wn,e1,e2,e3,e4,e5,tk1,tk3,tk4,tk5,zah,zdn,List.length_map,zaz,zY,Int.reduceEq,Int.reduceBEq,Int.reduceBNe,Nat.reduceSub,Nat.reduceEqDiff,Nat.reduceAdd,Nat.reduceMul,Nat.reduceLeDiff,Nat.reduceLT,Nat.reduceBEq,reduceCtorEq]|((first|((try refine zaB ?_);apply zaC)|(apply zaE;intro _));(solve|exact(m2)|(refine CallOK.le (m2) ?_;exact zM)|fail);try case hn=>rfl)|refine zaG ?_|refine zab (fun hb=> ?_) (fun hb=> ?_)|(refine And.intro ?_ ?_;exact zI)|refine And.intro (fun hg=> ?_) (fun hg=> ?_)|exact zC|fail)
   refine zaf (τ:=Nat) (fun j=>⟨[dd, .one (.ptr ⟨1,0,1⟩ 0),dd,dd, .one (.own ⟨4,1,1⟩ 0 (zhf s i s.locks[i] j).length),dd,dd,ai i, .one (.ptr ⟨8,0,1⟩ 0),ai j,dd,dd,dd,dd,dd,dd,dd,dd,dd,dd,dd,dd,dd,dd,dd,dd,dd,dd,dd,dd,dd,dd,dd,dd,dd,dd,dd,dd,dd,dd,dd,dd,dd,dd,dd,dd,dd,dd,dd,dd,dd,dd,dd,dd,dd,dd,dd,dd,dd,dd,dd,dd,dd,dd,dd,dd,dd,dd,dd,dd,dd,dd,dd,dd,dd,dd,dd,dd,dd,dd,dd,dd,dd,dd,dd,dd,dd,dd,dd,dd,dd,dd,dd,dd,dd,dd,dd,dd,dd,dd,dd,dd,dd,dd,dd,dd,dd,dd,dd,dd,dd,dd,dd,dd,dd,dd,dd,dd,dd,dd,dd,dd,dd,dd,dd,dd,dd,dd,dd,dd,dd,dd,dd,dd,dd,dd,dd,dd,dd,dd,dd,dd,dd,dd,dd,dd,dd,dd,dd,dd,dd,dd,dd,dd,dd,dd,dd],[(1,{next:=2,l:=[some {e:=1,var:=true,fz:=false,sz:=0,cells:=[di s.time,di s.num,di s.token, .lent s.sess.length (zaV s.sess), .lent s.locks.length (zay s.locks), .lent s.memos.length (zaM s.memos)]},none,none,none,none,none,none]}),(19,⟨2,[]⟩),(22,⟨2,[]⟩),(26,⟨2,[]⟩),(4,{next:=2,l:=[none,some {e:=1,var:=false,fz:=false,sz:=1,cells:=(zaa (zhf s i s.locks[i] j)).map C.d}]}),(33,⟨2,[]⟩),(6,⟨2,[]⟩),(51,⟨2,[]⟩),(52,⟨2,[]⟩),(55,⟨2,[]⟩),(56,⟨2,[]⟩),(59,⟨2,[]⟩),(60,⟨2,[]⟩),(66,⟨2,[]⟩),(8,{next:=2,l:=[some {e:=1,var:=true,fz:=false,sz:=0,cells:=[dS s.locks[i].name,di s.locks[i].holder,di s.locks[i].token, .d (.sl s.locks[i].line.length (za5 s.locks[i].line))]},none,none,none,none]}),(85,⟨2,[]⟩),(86,⟨2,[]⟩),(89,⟨2,[]⟩),(94,⟨2,[]⟩),(95,⟨2,[]⟩),(98,⟨2,[]⟩),(99,⟨2,[]⟩),(105,⟨2,[]⟩),(106,⟨2,[]⟩),(121,⟨2,[]⟩),(122,⟨2,[]⟩)]⟩)
    (fun j=>j≤s.locks[i].line.length) (fun _=>()) (fun j=>s.locks[i].line.length - j) 0
    (Gh.canon [1,4,8] [] [] (by simp only[hs0,ddE,zbX,zdu,zbY,zcw,zcx,zcy,List.set_cons_zero,List.set_cons_succ,and_true,true_and,Int.natCast_zero,Int.cast_ofNat_Int,D.v.injEq,Value.int.injEq];try(repeat'(first|rfl|omega|with_reducible apply And.intro))) rfl (by rw[zit];simp only[lk0,zes,zaa,List.map_append,List.map_cons,List.map_nil,List.map_map,List.append_assoc,List.cons_append,List.nil_append];rfl)) (Nat.zero_le _) ?_
   intro j hj0 hF2 K2 hK2
   repeat(first|with_reducible refine zae _ _ ?_|with_reducible refine And.imp_right (zae _ _) ?_|with_reducible refine And.imp_right (And.imp_right (zae _ _)) ?_|with_reducible refine And.imp_right (And.imp_right (And.imp_right (zae _ _))) ?_|rw[zaP]|simp only[zB,Nat.reduceSub,Nat.reduceEqDiff,Nat.reduceAdd,Nat.reduceMul,Nat.reduceLeDiff,Nat.reduceLT,Nat.reduceBEq,reduceCtorEq])
   refine zab (fun hlt2=> ?_) (fun hge2=> ?_)
   ·have hj:j<s.locks[i].line.length:=by simpa using hlt2
    have hat2:=zce hj
    have hw2:=zai hj (by omega)
    have q6:=q5 _ (List.getElem_mem hj)
    have wd:IntKind.u8.wrap s.locks[i].line[j]=s.locks[i].line[j]:=zbf (by omega) (by omega)
    have hlj:(zhf s i s.locks[i] j).length≤300:=by
     rw[zhf,List.length_append,List.length_append,zkB,List.length_take];omega
    have hle3:((zhf s i s.locks[i] j).length+1≤2^47)=True:=eq_true (by omega)
    have hsl3:(zhf s i s.locks[i] (j+1)).length=(zhf s i s.locks[i] j).length+1:=by rw[zgp hj,List.length_append,List.length_singleton]
    repeat'(first|(with_reducible first|refine zae _ _ ?_|refine zaX ?_|refine zaY ?_)|rw[zaP]|simp only[hat2,List.cons_append,List.nil_append,zaW,t1,wd,hle3,zah,List.length_map,zY,Int.reduceEq,Int.reduceBEq,Int.reduceBNe,Nat.reduceSub,Nat.reduceEqDiff,Nat.reduceAdd,Nat.reduceMul,Nat.reduceLeDiff,Nat.reduceLT,Nat.reduceBEq,reduceCtorEq]|refine zaG ?_|refine zab (fun hb=> ?_) (fun hb=> ?_)|(refine And.intro ?_ ?_;exact zI)|refine And.intro (fun hg=> ?_) (fun hg=> ?_)|exact zC|fail)
    exact hK2 _ (j+1) (Gh.canon [1,4,8] [] [] (by simp only[hw2,hsl3,ddE,zbX,zdu,zbY,zcw,zcx,zcy,List.set_cons_zero,List.set_cons_succ,and_true,true_and,Int.natCast_zero,Int.cast_ofNat_Int,D.v.injEq,Value.int.injEq];try(repeat'(first|rfl|omega|with_reducible apply And.intro))) rfl (by rw[zgp hj];simp only[roq,zaa,List.map_append];rfl)) hj rfl (by omega)
   ·have hj:j=s.locks[i].line.length:=by
     have:¬(j:Int)<s.locks[i].line.length:=by simpa using hge2
     omega
    subst hj
    repeat'(first|(with_reducible first|refine zae _ _ ?_|refine zaX ?_|refine zaY ?_)|rw[zaP]|simp only[zY,Int.reduceEq,Int.reduceBEq,Int.reduceBNe,Nat.reduceSub,Nat.reduceEqDiff,Nat.reduceAdd,Nat.reduceMul,Nat.reduceLeDiff,Nat.reduceLT,Nat.reduceBEq,reduceCtorEq]|refine zaG ?_|refine zab (fun hb=> ?_) (fun hb=> ?_)|(refine And.intro ?_ ?_;exact zI)|refine And.intro (fun hg=> ?_) (fun hg=> ?_)|exact zC|fail)
    exact hK _ (i+1) (Gh.canon [1,4] [] [] (by simp only[hw,zhG hi,ddE,zbX,zdu,zbY,zcw,zcx,zcy,List.set_cons_zero,List.set_cons_succ,and_true,true_and,Int.natCast_zero,Int.cast_ofNat_Int,D.v.injEq,Value.int.injEq];try(repeat'(first|rfl|omega|with_reducible apply And.intro))) rfl (by rw[zhG hi];rfl)) hi rfl (by omega)
  ·have hi:i=s.locks.length:=by
    have:¬(i:Int)<s.locks.length:=by simpa using hge
    omega
   subst hi
   clear hK
   have hml:=zgq h
   have w3:IntKind.u8.wrap (s.memos.length:Int)=s.memos.length:=zbf (by omega) (by omega)
   have hb2:=ziu h s.locks.length
   have hle2:((sb2 s s.locks.length).length+1≤2^47)=True:=eq_true (by omega)
   repeat'(first|(with_reducible first|refine zae _ _ ?_|refine zaX ?_|refine zaY ?_)|rw[zaP]|simp only[hle2,t1,w3,zah,List.length_map,zY,Int.reduceEq,Int.reduceBEq,Int.reduceBNe,Nat.reduceSub,Nat.reduceEqDiff,Nat.reduceAdd,Nat.reduceMul,Nat.reduceLeDiff,Nat.reduceLT,Nat.reduceBEq,reduceCtorEq]|refine zaG ?_|refine zab (fun hb=> ?_) (fun hb=> ?_)|(refine And.intro ?_ ?_;exact zI)|refine And.intro (fun hg=> ?_) (fun hg=> ?_)|exact zC|fail)
   refine zaf (τ:=Nat) (fun i=>⟨[dd, .one (.ptr ⟨1,0,1⟩ 0),dd,dd, .one (.own ⟨4,1,1⟩ 0 (sb3 s i).length),dd,dd,dd,dd,dd,ai i,dd,dd,dd,dd,dd,dd,dd,dd,dd,dd,dd,dd,dd,dd,dd,dd,dd,dd,dd,dd,dd,dd,dd,dd,dd,dd,dd,dd,dd,dd,dd,dd,dd,dd,dd,dd,dd,dd,dd,dd,dd,dd,dd,dd,dd,dd,dd,dd,dd,dd,dd,dd,dd,dd,dd,dd,dd,dd,dd,dd,dd,dd,dd,dd,dd,dd,dd,dd,dd,dd,dd,dd,dd,dd,dd,dd,dd,dd,dd,dd,dd,dd,dd,dd,dd,dd,dd,dd,dd,dd,dd,dd,dd,dd,dd,dd,dd,dd,dd,dd,dd,dd,dd,dd,dd,dd,dd,dd,dd,dd,dd,dd,dd,dd,dd,dd,dd,dd,dd,dd,dd,dd,dd,dd,dd,dd,dd,dd,dd,dd,dd,dd,dd,dd,dd,dd,dd,dd,dd,dd,dd,dd,dd,dd,dd,dd],[(1,{next:=2,l:=[some {e:=1,var:=true,fz:=false,sz:=0,cells:=[di s.time,di s.num,di s.token, .lent s.sess.length (zaV s.sess), .lent s.locks.length (zay s.locks), .lent s.memos.length (zaM s.memos)]},none,none,none,none,none,none]}),(19,⟨2,[]⟩),(22,⟨2,[]⟩),(26,⟨2,[]⟩),(4,{next:=2,l:=[none,some {e:=1,var:=false,fz:=false,sz:=1,cells:=(zaa (sb3 s i)).map C.d}]}),(33,⟨2,[]⟩),(6,⟨2,[]⟩),(51,⟨2,[]⟩),(52,⟨2,[]⟩),(55,⟨2,[]⟩),(56,⟨2,[]⟩),(59,⟨2,[]⟩),(60,⟨2,[]⟩),(66,⟨2,[]⟩),(8,⟨2,[]⟩),(85,⟨2,[]⟩),(86,⟨2,[]⟩),(89,⟨2,[]⟩),(94,⟨2,[]⟩),(95,⟨2,[]⟩),(98,⟨2,[]⟩),(99,⟨2,[]⟩),(105,⟨2,[]⟩),(106,⟨2,[]⟩),(121,⟨2,[]⟩),(122,⟨2,[]⟩),(128,⟨2,[]⟩),(11,⟨2,[]⟩),(12,⟨2,[]⟩),(150,⟨2,[]⟩),(155,⟨2,[]⟩)]⟩)
    (fun i=>i≤s.memos.length) (fun _=>()) (fun i=>s.memos.length - i) 0
    (Gh.canon [1,4] [11,12,150,155] [] (by simp only[zhF,List.length_append,List.length_singleton,ddE,zbX,zdu,zbY,zcw,zcx,zcy,List.set_cons_zero,List.set_cons_succ,and_true,true_and,Int.natCast_zero,Int.cast_ofNat_Int,D.v.injEq,Value.int.injEq];try(repeat'(first|rfl|omega|with_reducible apply And.intro))) rfl (by rw[zhF];simp only[roq,zaa,List.map_append];rfl)) (Nat.zero_le _) ?_
   intro i hi0 hF K hK
   repeat(first|with_reducible refine zae _ _ ?_|with_reducible refine And.imp_right (zae _ _) ?_|with_reducible refine And.imp_right (And.imp_right (zae _ _)) ?_|with_reducible refine And.imp_right (And.imp_right (And.imp_right (zae _ _))) ?_|rw[zaP]|simp only[zB,Nat.reduceSub,Nat.reduceEqDiff,Nat.reduceAdd,Nat.reduceMul,Nat.reduceLeDiff,Nat.reduceLT,Nat.reduceBEq,reduceCtorEq])
   refine zab (fun hlt=> ?_) (fun hge=> ?_)
   ·have hi:i<s.memos.length:=by simpa using hlt
    have hat:=zcf hi
    have hw:=zai hi (by omega)
    have hma:=h.mok _ (List.getElem_mem hi)
    have hpa:=zgx s.memos[i] hma
    have hb3:=ziv h i
    have hal:=zer hma
    have hle3:((sb3 s i).length+(za9 s.memos[i]).length≤2^47)=True:=eq_true (by omega)
    have hsl3:(sb3 s (i+1)).length=(sb3 s i).length+(za9 s.memos[i]).length:=by rw[zhC hi,List.length_append]
    repeat'(first|(with_reducible first|refine zae _ _ ?_|refine zaX ?_|refine zaY ?_)|rw[zaP]|simp only[hat,List.cons_append,List.nil_append,zaw,zah,hle3,zba,List.length_map,zY,Int.reduceEq,Int.reduceBEq,Int.reduceBNe,Nat.reduceSub,Nat.reduceEqDiff,Nat.reduceAdd,Nat.reduceMul,Nat.reduceLeDiff,Nat.reduceLT,Nat.reduceBEq,reduceCtorEq]|((first|((try refine zaB ?_);apply zaC)|(apply zaE;intro _));(solve|exact(hpa)|(refine CallOK.le (hpa) ?_;exact zM)|fail);try case hn=>rfl)|refine zaG ?_|refine zab (fun hb=> ?_) (fun hb=> ?_)|(refine And.intro ?_ ?_;exact zI)|refine And.intro (fun hg=> ?_) (fun hg=> ?_)|exact zC|fail)
    exact hK _ (i+1) (Gh.canon [1,4] [] [] (by simp only[hw,hsl3,ddE,zbX,zdu,zbY,zcw,zcx,zcy,List.set_cons_zero,List.set_cons_succ,and_true,true_and,Int.natCast_zero,Int.cast_ofNat_Int,D.v.injEq,Value.int.injEq];try(repeat'(first|rfl|omega|with_reducible apply And.intro))) rfl (by rw[zhC hi];simp only[roq,zaa,List.map_append];rfl)) hi rfl (by omega)
   ·have hi:i=s.memos.length:=by
     have:¬(i:Int)<s.memos.length:=by simpa using hge
     omega
    subst hi
    repeat'(first|(with_reducible first|refine zae _ _ ?_|refine zaX ?_|refine zaY ?_)|rw[zaP]|simp only[zY,Int.reduceEq,Int.reduceBEq,Int.reduceBNe,Nat.reduceSub,Nat.reduceEqDiff,Nat.reduceAdd,Nat.reduceMul,Nat.reduceLeDiff,Nat.reduceLT,Nat.reduceBEq,reduceCtorEq]|refine zaG ?_|refine zab (fun hb=> ?_) (fun hb=> ?_)|(refine And.intro ?_ ?_;exact zI)|refine And.intro (fun hg=> ?_) (fun hg=> ?_)|exact zC|fail)
    rfl
theorem zm3 (s:Sn) (h:zaZ s=true):CallOK prog 33 [.f (.agg s.lent)] (fun r o=>r=[.one (.own 1 (snI s).length (zaa (snI s)) false),ri 0]∧o=[]):=by
 obtain⟨f1,f2,f3,f4⟩:=zeo h
 refine zdx zco mixed (T:=Ty) (n:=32) func33 (c:=f33.body.getD .skip) rfl results33 ntmps33 call33 ?_
 simp only[f33,Option.getD]
 have hm:=ziD s (zcU f4)
 rw[h]at hm
 have hp:=zvf s.st f4
 have m1:=zaF s.done f1
 have m2:=zaF s.view f2
 have m3:=zaF s.slot f3
 have hl:=ziv f4 s.st.memos.length
 have hml:=zgq f4
 have hle:(24+(zdJ s.st).length≤2^47)=True:=eq_true (by unfold zdJ;omega)
 have t8:∀v:Int,(zaa (zaK v)).take 8=zaa (zaK v):=fun v=>List.take_of_length_le (by rw[zcj];decide)
 have t16:∀v w:Int,(zaa (zaK v)++zaa (zaK w)).take 16=zaa (zaK v)++zaa (zaK w):=fun v w=>List.take_of_length_le (by simp[zaz])
 have t24:∀v w x:Int,(zaa (zaK v)++zaa (zaK w)++zaa (zaK x)).take 24=zaa (zaK v)++zaa (zaK w)++zaa (zaK x):=fun v w x=>List.take_of_length_le (by simp[zaz])
 have hsl:(snI s).length=24+(zdJ s.st).length:=by simp[snI,zaz];omega
 rw[hsl,show zaa (snI s)=zaa (zaK s.done)++zaa (zaK s.view)++zaa (zaK s.slot)++zaa (zdJ s.st) from by simp[snI,zaa]]
 repeat'(first|(with_reducible first|refine zae _ _ ?_|refine zaX ?_|refine zaY ?_)|rw[zaP]|simp only[t8,t16,t24,hle,zah,List.length_map,zaz,zY,Int.reduceEq,Int.reduceBEq,Int.reduceBNe,Nat.reduceSub,Nat.reduceEqDiff,Nat.reduceAdd,Nat.reduceMul,Nat.reduceLeDiff,Nat.reduceLT,Nat.reduceBEq,reduceCtorEq]|((first|((try refine zaB ?_);apply zaC)|(apply zaE;intro _));(solve|exact(hm)|exact(m1)|exact(m2)|exact(m3)|exact(hp)|(refine CallOK.le (hm) ?_;exact zM)|(refine CallOK.le (m1) ?_;exact zM)|(refine CallOK.le (m2) ?_;exact zM)|(refine CallOK.le (m3) ?_;exact zM)|(refine CallOK.le (hp) ?_;exact zM)|fail);try case hn=>rfl)|refine zaG ?_|refine zab (fun hb=> ?_) (fun hb=> ?_)|(refine And.intro ?_ ?_;exact zI)|refine And.intro (fun hg=> ?_) (fun hg=> ?_)|exact zC|fail)
theorem qs2:∀a b:D,toDs (sub 0 2 1 [C.d a,C.d b])=some [a,b]:=fun _ _=>rfl
theorem qs9:∀(a:D) (n:Int),toDs (sub 0 9 1 (C.d a::List.map C.d (zaa (zaK n))))=some (a::zaa (zaK n)):=fun _ _=>rfl
theorem qs0:∀(a b:D) (n:Int),toDs (sub 0 10 1 (C.d a::List.map C.d (zaa (zaK n)++[b])))=some (a::(zaa (zaK n)++[b])):=fun _ _ _=>rfl
theorem zrm:∀(a:D) (n m:Int),toDs (sub 0 17 1 (C.d a::List.map C.d (zaa (zaK n)++zaa (zaK m))))=some (a::(zaa (zaK n)++zaa (zaK m))):=fun _ _ _=>rfl
theorem zAN:∀(a:D) (n m k:Int),toDs (sub 0 25 1 (C.d a::List.map C.d (zaa (zaK n)++zaa (zaK m)++zaa (zaK k))))=some (a::(zaa (zaK n)++zaa (zaK m)++zaa (zaK k))):=fun _ _ _ _=>rfl
theorem zAO:∀(a:D) (n m k l:Int),toDs (sub 0 33 1 (C.d a::List.map C.d (zaa (zaK n)++zaa (zaK m)++zaa (zaK k)++zaa (zaK l))))=some (a::(zaa (zaK n)++zaa (zaK m)++zaa (zaK k)++zaa (zaK l))):=fun _ _ _ _ _=>rfl
theorem zBc (s:ByteArray):s.data.toList.length=s.size:=Array.length_toList
theorem zo9 (k n:Int) (s:ByteArray) (h:zlY k n s=true):CallOK prog 70 [.f (.agg [di k,di n,dS s])] (fun r o=>r=[.one (.own 1 (zmc k n s).length (zaa (zmc k n s)) false),ri 0]∧o=[]):=by
 refine zh func70 results70 ntmps70 call70 ?_
 simp only[f70,Option.getD]
 obtain⟨f1,f2,f3,f4,f5⟩:=zcZ h
 have hmy:=zmV k n s (by omega)
 rw[h]at hmy
 have h8:=zaF n (by omega)
 have w1:IntKind.u8.wrap k=k:=zbf (by omega) (by omega)
 have w2:IntKind.u8.wrap (s.size:Int)=s.size:=zbf (by omega) (by omega)
 have hle:(10+s.size≤2^47)=True:=eq_true (by omega)
 refine zL (I qs2 (I qs9 (I qs0 (I zBc (I w1 (I w2 (I t8 (I hle (I @List.length_map.{0,0} @zaz))))))))) (I (hmy) (h8)) ?_
 rw[zhN]
 simp[zmc,zes,zaa]
theorem zjT (r:Req) (h:Req.may r=true):CallOK prog 28 [.f (.agg (r.enc.map C.d))] (fun x o=>x=[.one (.own 1 (zhM r).length (zaa (zhM r)) false),ri 0]∧o=[]):=by
 refine zh func28 results28 ntmps28 call28 ?_
 simp only[f28,Option.getD]
 obtain⟨e1,e2,e3,e4⟩:=zee h
 have hmy:=zfv r e4
 rw[h]at hmy
 have h8:=zaF r.seq (by omega)
 have hp:=zo9 r.kind r.session r.name e3
 have f:=zcZ e3
 have w1:IntKind.u8.wrap r.client=r.client:=zbf (by omega) (by omega)
 have hle:(9+(zmc r.kind r.session r.name).length≤2^47)=True:=eq_true (by rw[zhN];omega)
 refine zL (I qs2 (I qs9 (I w1 (I t8 (I hle (I @zah (I @List.length_map.{0,0} @zaz))))))) (I (hmy) (I (h8) (hp))) ?_
 simp[zhM,zaa,zaz]
 omega
set_option maxHeartbeats 2000000 in
theorem zg4 (b:Batch) (h:Batch.may b=true):CallOK prog 32 [.f (.agg b.lent)] (fun x o=>x=[.one (.own 1 (zey b).length (zaa (zey b)) false),ri 0]∧o=[]):=by
 refine zh func32 results32 ntmps32 call32 ?_
 simp only[f32,Option.getD]
 have hmy:=zc9 b (zkP h)
 rw[h]at hmy
 obtain⟨h1,h2⟩:=zfa h
 have hn:=ziL h
 have n1:=zaF b.view (zxm (hn _ (by simp)))
 have n2:=zaF b.tip.view (zxm (hn _ (by simp)))
 have n3:=zaF b.tip.slot (zxm (hn _ (by simp)))
 have n4:=zaF b.time (zxm (hn _ (by simp)))
 have w3:IntKind.u8.wrap (b.reqs.length:Int)=b.reqs.length:=zbf (by omega) (by omega)
 cases hf:b.fill
 ·rw[zey,if_neg (by rw[hf];simp)]
  rw[show b.lent=[db false,di b.view,di b.tip.view,di b.tip.slot,di b.time, .lent b.reqs.length (zbu b.reqs)] from by rw[←hf]]at hmy
  refine zL (I hf (I qs2 (I qs9 (I zrm (I zAN (I zAO (I w3 (I t8 (I @List.length_map.{0,0} @zaz))))))))) (I (hmy) (I (n1) (I (n2) (I (n3) (n4))))) ?_
  have hh:zaa (bp0 b 4)=D.v (Value.int .u8 0)::(zaa (zaK b.view)++zaa (zaK b.tip.view)++zaa (zaK b.tip.slot)++zaa (zaK b.time)):=by simp[bp0,zaJ,zaa]
  refine zaf (τ:=Nat) (fun i=>⟨(dd::ptq 1::dq2 (.one (.own ⟨4,1,1⟩ 0 (bp1 b i).length)::ai i::zvD (zdO []))),[(1,⟨2,[obq 1 [db false,di b.view,di b.tip.view,di b.tip.slot,di b.time, .lent b.reqs.length (zbu b.reqs)],none,none,none,none,none,none]⟩),(14,⟨2,[]⟩),(17,⟨2,[]⟩),(4,⟨2,[none,roq 1 1 (zaa (bp1 b i))]⟩),(23,⟨2,[]⟩),(28,⟨2,[]⟩),(32,⟨2,[]⟩),(39,⟨2,[]⟩),(6,⟨2,[]⟩),(54,⟨2,[]⟩),(59,⟨2,[]⟩)]⟩)
   (fun i=>i≤b.reqs.length) (fun _=>()) (fun i=>b.reqs.length - i) 0
   (Gh.canon [1,4] [6,54,59] [] (by simp only[zhL,List.length_append,List.length_singleton,zkO b (Nat.le_refl 4),ddE,zbX,zdu,zbY,zcw,zcx,zcy,List.set_cons_zero,List.set_cons_succ,and_true,true_and,Int.natCast_zero,Int.cast_ofNat_Int,D.v.injEq,Value.int.injEq];try(repeat'(first|rfl|omega|with_reducible apply And.intro))) rfl (by rw[zhL];simp only[roq,zaa,List.map_append]at hh⊢;rw[hh];rfl)) (Nat.zero_le _) ?_
  intro i hi0 hF K hK
  refine zw ?_
  refine zab (fun hlt=> ?_) (fun hge=> ?_)
  ·have hi:i<b.reqs.length:=by simpa using hlt
   have hat:=zdv hi
   have hw:=zai hi (by omega)
   have hm:=h2 _ (List.getElem_mem hi)
   have hpt:=zjT b.reqs[i] hm
   have hl0:=zm6 h2 i
   have hl1:=zhO hm
   have hle:((bp1 b i).length+(zhM b.reqs[i]).length≤2^47)=True:=eq_true (by omega)
   have hsl:(bp1 b (i+1)).length=(bp1 b i).length+(zhM b.reqs[i]).length:=by rw[zhK hi,List.length_append]
   refine zL (I hat (I @zaD (I hle (I @zah (I @List.length_map.{0,0} zca))))) (hpt) ?_
   exact hK _ (i+1) (Gh.canon [1,4] [] [] (zk (I hw hsl)) rfl (by rw[zhK hi];simp only[roq,zaa,List.map_append];rfl)) hi rfl (by omega)
  ·have hi:i=b.reqs.length:=by
    have:¬(i:Int)<b.reqs.length:=by simpa using hge
    omega
   subst hi
   exact zW0 trivial
 ·rw[zey,if_pos hf]
  rw[show b.lent=[db true,di b.view,di b.tip.view,di b.tip.slot,di b.time, .lent b.reqs.length (zbu b.reqs)] from by rw[←hf]]at hmy
  exact zW hf (hmy)
theorem tq1 (X:List Int) (v:Int):(zaa X++zaa (zaK v)).take (X.length+8)=zaa X++zaa (zaK v):=List.take_of_length_le (by simp[zaz])
theorem tq2 (X:List Int) (v w:Int):(zaa X++zaa (zaK v)++zaa (zaK w)).take (X.length+8+8)=zaa X++zaa (zaK v)++zaa (zaK w):=List.take_of_length_le (by simp[zaz])
set_option maxHeartbeats 4000000 in
theorem zte (p:Prom) (m:MayP p):CallOK prog 31 [.f (.agg p.lent)] (fun x o=>x=[.one (.own 1 (zfc p).length (zaa (zfc p)) false)]∧o=[]):=by
 refine zh func31 results31 ntmps31 call31 ?_
 simp only[f31,Option.getD]
 have hsrc:=m.src
 have hvl:=m.len
 have hmay:∀v∈p.votes,Batch.may v.batch=true:=fun v hv=>(m.votes v hv).2.2.2.2
 have hn:=zmk m
 have n1:=zaF p.done (hn _ (by simp))
 have n2:=zaF p.tip.view (hn _ (by simp))
 have n3:=zaF p.tip.slot (hn _ (by simp))
 have n4:=zaF p.time (hn _ (by simp))
 have w1:IntKind.u8.wrap p.src=p.src:=zbf (by omega) (by omega)
 have w2:IntKind.u8.wrap (p.votes.length:Int)=p.votes.length:=zbf (by omega) (by omega)
 refine zL (I qs2 (I qs9 (I zrm (I zAN (I zAO (I w1 (I w2 (I t8 (I @List.length_map.{0,0} @zaz))))))))) (I (n1) (I (n2) (I (n3) (n4)))) ?_
 have hh:zaa (pr0 p)=D.v (Value.int .u8 p.src)::(zaa (zaK p.done)++zaa (zaK p.tip.view)++zaa (zaK p.tip.slot)++zaa (zaK p.time)++[D.v (Value.int .u8 (p.votes.length:Int))]):=by simp[pr0,zaJ,zaa]
 refine zaf (τ:=Nat) (fun i=>⟨(dd::ptq 1::dd:: .one (.own ⟨3,1,1⟩ 0 (pr1 p i).length)::ai i::zv9 (zdO [])),[(1,⟨2,[obq 1 [di p.src,di p.done,di p.tip.view,di p.tip.slot,di p.time, .lent p.votes.length (zbe p.votes)],none,none,none,none,none,none]⟩),(11,⟨2,[]⟩),(14,⟨2,[]⟩),(3,⟨2,[none,roq 1 1 (zaa (pr1 p i))]⟩),(20,⟨2,[]⟩),(25,⟨2,[]⟩),(29,⟨2,[]⟩),(36,⟨2,[]⟩),(5,⟨2,[]⟩),(6,⟨2,[]⟩),(53,⟨2,[]⟩),(59,⟨2,[]⟩),(60,⟨2,[]⟩),(63,⟨2,[]⟩),(64,⟨2,[]⟩),(66,⟨2,[]⟩)]⟩)
  (fun i=>i≤p.votes.length) (fun _=>()) (fun i=>p.votes.length - i) 0
  (Gh.canon [1,3] [5,6,53,59,60,63,64,66] [] (zk (I @zhP @zrd)) rfl (by rw[zhP,hh];rfl)) (Nat.zero_le _) ?_
 intro i hi0 hF K hK
 refine zw ?_
 refine zab (fun hlt=> ?_) (fun hge=> ?_)
 ·have hi:i<p.votes.length:=by simpa using hlt
  have hat:=zdP hi
  have hw:=zai hi (by omega)
  obtain⟨vn,vm⟩:=zml m (List.getElem_mem hi)
  have hb:=zg4 p.votes[i].batch vm
  have m1:=zaF p.votes[i].slot (vn _ (by simp))
  have m2:=zaF p.votes[i].ballot (vn _ (by simp))
  have hl0:=zna hmay i
  have hl1:=zgC vm
  have hsu:=zn8 hi
  have hsl:(pr1 p (i+1)).length=(pr1 p i).length+8+8+(zey p.votes[i].batch).length:=by rw[hsu];simp[zmi,zbU];omega
  have e1:((pr1 p i).length+8≤2^47)=True:=eq_true (by omega)
  have e2:((pr1 p i).length+8+8≤2^47)=True:=eq_true (by omega)
  have e3:((pr1 p i).length+8+8+(zey p.votes[i].batch).length≤2^47)=True:=eq_true (by omega)
  refine zL (I hat (I @zaA (I t8 (I tq1 (I tq2 (I e1 (I e2 (I e3 (I @zah (I @List.length_map.{0,0} (I @zaz zca))))))))))) (I (hb) (I (m1) (m2))) ?_
  exact hK _ (i+1) (Gh.canon [1,3] [] [] (zk (I hw hsl)) rfl (by rw[hsu];simp only[roq,zaa,List.map_append,zmi,zaJ,List.flatMap_cons,List.flatMap_nil,List.append_nil,List.append_assoc];rfl)) hi rfl (by omega)
 ·have hi:i=p.votes.length:=by
   have:¬(i:Int)<p.votes.length:=by simpa using hge
   omega
  subst hi
  refine zL0 trivial ?_
  rfl
theorem zbr (a:Req):zfz a a=true:=by simp[zfz]
theorem zbs (a:Batch):eqBa a a=true:=by simp[eqBa,zds zbr]
def zwU (r:Req):Bool:=decide ((r.name.size:Int)>300)
def zt7 (b:Batch):Bool:=if decide ((b.reqs.length:Int)>20)=true then true else b.reqs.any zwU
def zxk (p:Prom):Bool:=if decide ((p.votes.length:Int)>30)=true then true else p.votes.any fun v=>zt7 v.batch
theorem zjM (b:Batch):CallOK prog 20 [.f (.agg b.lent)] (fun r o=>r=[rb (zt7 b)]∧o=[]):=by
 refine zh func20 results20 ntmps20 call20 ?_
 simp only[f20,Option.getD]
 unfold zt7
 cases hA:decide ((b.reqs.length:Int)>20)
 ·rw[if_neg (by simp)]
  have hA':b.reqs.length≤20:=by simp at hA;omega
  repeat'(first|exact zC|refine zq hA ?_|(apply zab<;>intro hb)|(apply I;exact zI)|(apply I<;>intro hg))
  refine zaf (τ:=Nat) (fun i=>⟨(dd::ptq 1::dd::ai i::zrx []),[(1,⟨2,[obq 1 [db b.fill,di b.view,di b.tip.view,di b.tip.slot,di b.time, .lent b.reqs.length (zbu b.reqs)],none,none,none,none,none,none]⟩)]⟩)
   (fun i=>i≤b.reqs.length) (fun i=>(b.reqs.drop i).any zwU) (fun i=>b.reqs.length - i) 0
   (Gh.canon [1] [] [] zK rfl rfl) (Nat.zero_le _) ?_
  intro i hi0 hF K hK
  rw[List.drop_zero]at hF
  refine zw ?_
  refine zab (fun hlt=> ?_) (fun hge=> ?_)
  ·have hi:i<b.reqs.length:=by simpa using hlt
   have hat:=zdv hi
   have hw:=zai hi (by omega)
   rw[List.drop_eq_getElem_cons hi,List.any_cons]at hF
   repeat'(first|exact zC|refine zq (I hat (I @zaD zca)) ?_|(apply zab<;>intro hb)|(apply I;exact zI)|(apply I<;>intro hg))
   ·rw[show zwU b.reqs[i]=true from hb,Bool.true_or]at hF
    rw[←hF]
   ·exact hK _ (i+1) (Gh.canon [1] [] [] (zk hw) rfl rfl) hi (by rw[List.drop_eq_getElem_cons hi,List.any_cons,show zwU b.reqs[i]=false from hb,Bool.false_or]) (by omega)
  ·have hi:i=b.reqs.length:=by
    have:¬(i:Int)<b.reqs.length:=by simpa using hge
    omega
   rw[hi,List.drop_length,List.any_nil]at hF
   rw[←hF]
   exact zW0 trivial
 ·rw[if_pos rfl]
  exact zW0 hA
theorem zo2 (p:Prom):CallOK prog 21 [.f (.agg p.lent)] (fun r o=>r=[rb (zxk p)]∧o=[]):=by
 refine zh func21 results21 ntmps21 call21 ?_
 simp only[f21,Option.getD]
 unfold zxk
 cases hA:decide ((p.votes.length:Int)>30)
 ·rw[if_neg (by simp)]
  have hA':p.votes.length≤30:=by simp at hA;omega
  repeat'(first|exact zC|refine zq hA ?_|(apply zab<;>intro hb)|(apply I;exact zI)|(apply I<;>intro hg))
  refine zaf (τ:=Nat) (fun i=>⟨(dd::ptq 1::dd::ai i::zrw []),[(1,⟨2,[obq 1 [di p.src,di p.done,di p.tip.view,di p.tip.slot,di p.time, .lent p.votes.length (zbe p.votes)],none,none,none,none,none,none]⟩)]⟩)
   (fun i=>i≤p.votes.length) (fun i=>(p.votes.drop i).any fun v=>zt7 v.batch) (fun i=>p.votes.length - i) 0
   (Gh.canon [1] [] [] zK rfl rfl) (Nat.zero_le _) ?_
  intro i hi0 hF K hK
  rw[List.drop_zero]at hF
  refine zw ?_
  refine zab (fun hlt=> ?_) (fun hge=> ?_)
  ·have hi:i<p.votes.length:=by simpa using hlt
   have hat:=zdP hi
   have hw:=zai hi (by omega)
   have hg:=zjM p.votes[i].batch
   rw[List.drop_eq_getElem_cons hi,List.any_cons]at hF
   cases hb:zt7 p.votes[i].batch
   ·rw[hb]at hg
    repeat'(first|exact zC|refine zq (I hat (I @zaA zca)) ?_|refine zx (hg) ?_|(apply zab<;>intro hb)|(apply I;exact zI)|(apply I<;>intro hg))
    exact hK _ (i+1) (Gh.canon [1] [] [] (zk hw) rfl rfl) hi (by rw[List.drop_eq_getElem_cons hi,List.any_cons,hb,Bool.false_or]) (by omega)
   ·rw[hb]at hg
    rw[hb,Bool.true_or]at hF
    rw[←hF]
    exact zW (I hat (I @zaA zca)) (hg)
  ·have hi:i=p.votes.length:=by
    have:¬(i:Int)<p.votes.length:=by simpa using hge
    omega
   rw[hi,List.drop_length,List.any_nil]at hF
   rw[←hF]
   exact zW0 trivial
 ·rw[if_pos rfl]
  exact zW0 hA
def zxl (p:Pkt):Bool:=zhk p.snap.st||zt7 p.bat||zxk p.prom||decide ((p.ans.reply.held.length:Int)>20)||zwU p.req
theorem zo3 (p:Pkt):CallOK prog 9 [.f (.agg p.lent)] (fun r o=>r=[rb (zxl p)]∧o=[]):=by
 refine zh func9 results9 ntmps9 call9 ?_
 simp only[f9,Option.getD]
 have h1:=zsS p.snap.st
 have h2:=zjM p.bat
 have h3:=zo2 p.prom
 repeat'(first|exact zC|refine zq0 ?_|refine zx (h1) ?_|refine zx (h2) ?_|refine zx (h3) ?_|(apply zab<;>intro hb)|(apply I;exact zI)|(apply I<;>intro hg))
 rfl
def zex (p:Pkt):Pkt:=if p.kind=1 then {pk0 p.kind with req:=p.req}else if p.kind=2 then {pk0 p.kind with ans:=p.ans}else if p.kind=3 then {pk0 p.kind with ballot:=p.ballot}else if p.kind=4 then {pk0 p.kind with ballot:=p.ballot,prom:=p.prom}else if p.kind=5 then {pk0 p.kind with ballot:=p.ballot,slot:=p.slot,bat:=p.bat}else if p.kind=6 then {pk0 p.kind with ballot:=p.ballot,slot:=p.slot,bat:=p.bat}else if p.kind=7 then {pk0 p.kind with ballot:=p.ballot,done:=p.done}else if p.kind=8 then {pk0 p.kind with done:=p.done}else if p.kind=9 then {pk0 p.kind with snap:=p.snap}else pk0 p.kind
theorem zsY {p:Pkt} (h:p.ok):(zex p).ok:=by
 have h0:=zt8 h.k
 unfold zex
 by_cases h1:p.kind=1
 ·rw[if_pos h1];exact {h0 with req:=h.req}
 rw[if_neg h1]
 by_cases h2:p.kind=2
 ·rw[if_pos h2];exact {h0 with ans:=h.ans}
 rw[if_neg h2]
 by_cases h3:p.kind=3
 ·rw[if_pos h3];exact {h0 with b:=h.b}
 rw[if_neg h3]
 by_cases h4:p.kind=4
 ·rw[if_pos h4];exact {h0 with b:=h.b,prom:=h.prom,pl:=h.pl,vl:=h.vl}
 rw[if_neg h4]
 by_cases h5:p.kind=5
 ·rw[if_pos h5];exact {h0 with b:=h.b,s:=h.s,bat:=h.bat,bl:=h.bl}
 rw[if_neg h5]
 by_cases h6:p.kind=6
 ·rw[if_pos h6];exact {h0 with b:=h.b,s:=h.s,bat:=h.bat,bl:=h.bl}
 rw[if_neg h6]
 by_cases h7:p.kind=7
 ·rw[if_pos h7];exact {h0 with b:=h.b,d:=h.d}
 rw[if_neg h7]
 by_cases h8:p.kind=8
 ·rw[if_pos h8];exact {h0 with d:=h.d}
 rw[if_neg h8]
 by_cases h9:p.kind=9
 ·rw[if_pos h9];exact {h0 with snap:=h.snap}
 rw[if_neg h9]
 exact h0
set_option maxHeartbeats 8000000 in
theorem zvk (p:Pkt):CallOK prog 41 [.f (.agg (p.enc.map C.d))] (fun r o=>r=[.agg ((zex p).enc.map RO.d)]∧o=[]):=by
 refine CallOK.nil ?_
 refine zh func41 results41 ntmps41 call41 ?_
 simp only[f41,Option.getD]
 obtain⟨kind,ballot,slot,done,req,ans,bat,prom,snap⟩:=p
 rcases kinds kind with rfl|rfl|rfl|rfl|rfl|rfl|rfl|rfl|rfl|⟨k1,k2,k3,k4,k5,k6,k7,k8,k9⟩
 ·repeat'(first|exact zC|refine zq0 ?_|(apply zab<;>intro hb)|(apply I;exact zI)|(apply I<;>intro hg))
  simp[zbj,zdS,zbc,zaH,st0,zex, -List.length_flatMap,zam,zaD,zaA,zat,zan,zaw]
 ·repeat'(first|exact zC|refine zq0 ?_|(apply zab<;>intro hb)|(apply I;exact zI)|(apply I<;>intro hg))
  simp[zbj,zdS,zbc,zaH,st0,zex, -List.length_flatMap,zam,zaD,zaA,zat,zan,zaw]
 ·repeat'(first|exact zC|refine zq0 ?_|(apply zab<;>intro hb)|(apply I;exact zI)|(apply I<;>intro hg))
  simp[zbj,zdS,zbc,zaH,st0,zex, -List.length_flatMap,zam,zaD,zaA,zat,zan,zaw]
 ·repeat'(first|exact zC|refine zq0 ?_|(apply zab<;>intro hb)|(apply I;exact zI)|(apply I<;>intro hg))
  simp[zbj,zdS,zbc,zaH,st0,zex, -List.length_flatMap,zam,zaD,zaA,zat,zan,zaw]
 ·repeat'(first|exact zC|refine zq0 ?_|(apply zab<;>intro hb)|(apply I;exact zI)|(apply I<;>intro hg))
  simp[zbj,zdS,zbc,zaH,st0,zex, -List.length_flatMap,zam,zaD,zaA,zat,zan,zaw]
 ·repeat'(first|exact zC|refine zq0 ?_|(apply zab<;>intro hb)|(apply I;exact zI)|(apply I<;>intro hg))
  simp[zbj,zdS,zbc,zaH,st0,zex, -List.length_flatMap,zam,zaD,zaA,zat,zan,zaw]
 ·repeat'(first|exact zC|refine zq0 ?_|(apply zab<;>intro hb)|(apply I;exact zI)|(apply I<;>intro hg))
  simp[zbj,zdS,zbc,zaH,st0,zex, -List.length_flatMap,zam,zaD,zaA,zat,zan,zaw]
 ·repeat'(first|exact zC|refine zq0 ?_|(apply zab<;>intro hb)|(apply I;exact zI)|(apply I<;>intro hg))
  simp[zbj,zdS,zbc,zaH,st0,zex, -List.length_flatMap,zam,zaD,zaA,zat,zan,zaw]
 ·repeat'(first|exact zC|refine zq0 ?_|(apply zab<;>intro hb)|(apply I;exact zI)|(apply I<;>intro hg))
  simp[zbj,zdS,zbc,zaH,st0,zex, -List.length_flatMap,zam,zaD,zaA,zat,zan,zaw]
 ·have hz:zex ⟨kind,ballot,slot,done,req,ans,bat,prom,snap⟩=pk0 kind:=by
   simp only[beq_eq_false_iff_ne,ne_eq]at k1 k2 k3 k4 k5 k6 k7 k8 k9
   unfold zex
   simp only[k1,k2,k3,k4,k5,k6,k7,k8,k9,if_false]
  rw[hz]
  repeat'(first|exact zC|refine zq (I k1 (I k2 (I k3 (I k4 (I k5 (I k6 (I k7 (I k8 k9)))))))) ?_|(apply zab<;>intro hb)|(apply I;exact zI)|(apply I<;>intro hg))
  simp[zbj,zdS,zbc,zaH,st0,zex, -List.length_flatMap,zam,zaD,zaA,zat,zan,zaw]
theorem zqZ {α:Type} {eq:α→α→Bool} (l:List α):sameL eq l []=((l.length:Int)==0):=by
 cases l with
 |nil=>rfl
 |cons x l=>simp[sameL];omega
theorem zcQ (p:Pkt):zcd p=(p.ballot==0&&p.slot==0&&p.done==0&&zfz p.req ziK&&eqMe p.ans zdk&&eqBa p.bat ziJ&&ziT p.prom zdX&&ziS p.snap sn0):=by
 unfold zcd eqMe ziT ziS
 simp only[zqZ,Bool.and_assoc]
 rfl
def zsX (p:Pkt):Bool:=if(!eqPk p (zex p)|| !inW p.ballot 0|| !inW p.done 0)=true then false else
 if p.kind=1 then Req.may p.req else if p.kind=2 then answerB p.ans else if p.kind=4 then Prom.may p.prom else if p.kind=5 then inW p.slot 1&&Batch.may p.bat else if p.kind=6 then inW p.slot 1&&Batch.may p.bat else if p.kind=9 then zaZ p.snap else if p.kind=3 then true else if p.kind=7 then true else if p.kind=8 then true else false
theorem in0 {v:Int} (h:(v==0)=true):inW v 0=true:=by rw[beq_iff_eq.1 h];rfl
theorem zgy {A b d M O:Bool} (h:A=true→O=(M&&b&&d)):(if(!A|| !b|| !d)=true then false else M)=(O&&A):=by
 cases A
 ·simp
 ·rw[h rfl]
  cases b<;>cases d<;>cases M<;>rfl
theorem zbA (a:Memo):eqMe a a=true:=by simp[eqMe,zkY]
theorem zbB (a:Prom):ziT a a=true:=by simp[ziT,zds (fun v=>show zs8 v v=true by simp[zs8,zbs])]
theorem zkE (p:Pkt):zsX p=zmm p:=by
 obtain⟨kind,ballot,slot,done,req,ans,bat,prom,snap⟩:=p
 rcases kinds kind with rfl|rfl|rfl|rfl|rfl|rfl|rfl|rfl|rfl|⟨k1,k2,k3,k4,k5,k6,k7,k8,k9⟩
 ·have hA:eqPk ⟨1,ballot,slot,done,req,ans,bat,prom,snap⟩ {pk0 1 with req:=req}=((ballot==0)&&(slot==0)&&(done==0)&&(eqMe ans zdk)&&(eqBa bat ziJ)&&(ziT prom zdX)&&(ziS snap sn0)):=by simp[eqPk,zbr,zbA,zbs,zbB,zby,Bool.and_assoc]
  have hE:zcd ⟨1,ballot,slot,done,ziK,ans,bat,prom,snap⟩=((ballot==0)&&(slot==0)&&(done==0)&&(eqMe ans zdk)&&(eqBa bat ziJ)&&(ziT prom zdX)&&(ziS snap sn0)):=by rw[zcQ];simp[zbr,zbA,zbs,zbB,zby,Bool.and_assoc]
  show(if(!eqPk ⟨1,ballot,slot,done,req,ans,bat,prom,snap⟩ {pk0 1 with req:=req}|| !inW ballot 0|| !inW done 0)=true then false else Req.may req)=(Req.may req&&zcd ⟨1,ballot,slot,done,ziK,ans,bat,prom,snap⟩)
  rw[hA,hE]
  refine zgy fun h=> ?_
  simp only[Bool.and_eq_true]at h
  have i1:inW ballot 0=true:=in0 (by simp_all)
  have i2:inW done 0=true:=in0 (by simp_all)
  clear h hA hE
  rw[i1]
  rw[i2]
  simp[Bool.and_comm,Bool.and_left_comm,Bool.and_assoc]
 ·have hA:eqPk ⟨2,ballot,slot,done,req,ans,bat,prom,snap⟩ {pk0 2 with ans:=ans}=((ballot==0)&&(slot==0)&&(done==0)&&(zfz req ziK)&&(eqBa bat ziJ)&&(ziT prom zdX)&&(ziS snap sn0)):=by simp[eqPk,zbr,zbA,zbs,zbB,zby,Bool.and_assoc]
  have hE:zcd ⟨2,ballot,slot,done,req,zdk,bat,prom,snap⟩=((ballot==0)&&(slot==0)&&(done==0)&&(zfz req ziK)&&(eqBa bat ziJ)&&(ziT prom zdX)&&(ziS snap sn0)):=by rw[zcQ];simp[zbr,zbA,zbs,zbB,zby,Bool.and_assoc]
  show(if(!eqPk ⟨2,ballot,slot,done,req,ans,bat,prom,snap⟩ {pk0 2 with ans:=ans}|| !inW ballot 0|| !inW done 0)=true then false else answerB ans)=(answerB ans&&zcd ⟨2,ballot,slot,done,req,zdk,bat,prom,snap⟩)
  rw[hA,hE]
  refine zgy fun h=> ?_
  simp only[Bool.and_eq_true]at h
  have i1:inW ballot 0=true:=in0 (by simp_all)
  have i2:inW done 0=true:=in0 (by simp_all)
  clear h hA hE
  rw[i1]
  rw[i2]
  simp[Bool.and_comm,Bool.and_left_comm,Bool.and_assoc]
 ·have hA:eqPk ⟨3,ballot,slot,done,req,ans,bat,prom,snap⟩ {pk0 3 with ballot:=ballot}=((slot==0)&&(done==0)&&(zfz req ziK)&&(eqMe ans zdk)&&(eqBa bat ziJ)&&(ziT prom zdX)&&(ziS snap sn0)):=by simp[eqPk,zbr,zbA,zbs,zbB,zby,Bool.and_assoc]
  have hE:zcd ⟨3,0,slot,done,req,ans,bat,prom,snap⟩=((slot==0)&&(done==0)&&(zfz req ziK)&&(eqMe ans zdk)&&(eqBa bat ziJ)&&(ziT prom zdX)&&(ziS snap sn0)):=by rw[zcQ];simp[zbr,zbA,zbs,zbB,zby,Bool.and_assoc]
  show(if(!eqPk ⟨3,ballot,slot,done,req,ans,bat,prom,snap⟩ {pk0 3 with ballot:=ballot}|| !inW ballot 0|| !inW done 0)=true then false else true)=(inW ballot 0&&zcd ⟨3,0,slot,done,req,ans,bat,prom,snap⟩)
  rw[hA,hE]
  refine zgy fun h=> ?_
  simp only[Bool.and_eq_true]at h
  have i1:inW ballot 0=inW ballot 0:=rfl
  have i2:inW done 0=true:=in0 (by simp_all)
  clear h hA hE
  rw[i2]
  simp[Bool.and_comm,Bool.and_left_comm,Bool.and_assoc]
 ·have hA:eqPk ⟨4,ballot,slot,done,req,ans,bat,prom,snap⟩ {pk0 4 with ballot:=ballot,prom:=prom}=((slot==0)&&(done==0)&&(zfz req ziK)&&(eqMe ans zdk)&&(eqBa bat ziJ)&&(ziS snap sn0)):=by simp[eqPk,zbr,zbA,zbs,zbB,zby,Bool.and_assoc]
  have hE:zcd ⟨4,0,slot,done,req,ans,bat,zdX,snap⟩=((slot==0)&&(done==0)&&(zfz req ziK)&&(eqMe ans zdk)&&(eqBa bat ziJ)&&(ziS snap sn0)):=by rw[zcQ];simp[zbr,zbA,zbs,zbB,zby,Bool.and_assoc]
  show(if(!eqPk ⟨4,ballot,slot,done,req,ans,bat,prom,snap⟩ {pk0 4 with ballot:=ballot,prom:=prom}|| !inW ballot 0|| !inW done 0)=true then false else Prom.may prom)=((inW ballot 0&&Prom.may prom)&&zcd ⟨4,0,slot,done,req,ans,bat,zdX,snap⟩)
  rw[hA,hE]
  refine zgy fun h=> ?_
  simp only[Bool.and_eq_true]at h
  have i1:inW ballot 0=inW ballot 0:=rfl
  have i2:inW done 0=true:=in0 (by simp_all)
  clear h hA hE
  rw[i2]
  simp[Bool.and_comm,Bool.and_left_comm,Bool.and_assoc]
 ·have hA:eqPk ⟨5,ballot,slot,done,req,ans,bat,prom,snap⟩ {pk0 5 with ballot:=ballot,slot:=slot,bat:=bat}=((done==0)&&(zfz req ziK)&&(eqMe ans zdk)&&(ziT prom zdX)&&(ziS snap sn0)):=by simp[eqPk,zbr,zbA,zbs,zbB,zby,Bool.and_assoc]
  have hE:zcd ⟨5,0,0,done,req,ans,ziJ,prom,snap⟩=((done==0)&&(zfz req ziK)&&(eqMe ans zdk)&&(ziT prom zdX)&&(ziS snap sn0)):=by rw[zcQ];simp[zbr,zbA,zbs,zbB,zby,Bool.and_assoc]
  show(if(!eqPk ⟨5,ballot,slot,done,req,ans,bat,prom,snap⟩ {pk0 5 with ballot:=ballot,slot:=slot,bat:=bat}|| !inW ballot 0|| !inW done 0)=true then false else(inW slot 1&&Batch.may bat))=((inW ballot 0&&inW slot 1&&Batch.may bat)&&zcd ⟨5,0,0,done,req,ans,ziJ,prom,snap⟩)
  rw[hA,hE]
  refine zgy fun h=> ?_
  simp only[Bool.and_eq_true]at h
  have i1:inW ballot 0=inW ballot 0:=rfl
  have i2:inW done 0=true:=in0 (by simp_all)
  clear h hA hE
  rw[i2]
  simp[Bool.and_comm,Bool.and_left_comm,Bool.and_assoc]
 ·have hA:eqPk ⟨6,ballot,slot,done,req,ans,bat,prom,snap⟩ {pk0 6 with ballot:=ballot,slot:=slot,bat:=bat}=((done==0)&&(zfz req ziK)&&(eqMe ans zdk)&&(ziT prom zdX)&&(ziS snap sn0)):=by simp[eqPk,zbr,zbA,zbs,zbB,zby,Bool.and_assoc]
  have hE:zcd ⟨6,0,0,done,req,ans,ziJ,prom,snap⟩=((done==0)&&(zfz req ziK)&&(eqMe ans zdk)&&(ziT prom zdX)&&(ziS snap sn0)):=by rw[zcQ];simp[zbr,zbA,zbs,zbB,zby,Bool.and_assoc]
  show(if(!eqPk ⟨6,ballot,slot,done,req,ans,bat,prom,snap⟩ {pk0 6 with ballot:=ballot,slot:=slot,bat:=bat}|| !inW ballot 0|| !inW done 0)=true then false else(inW slot 1&&Batch.may bat))=((inW ballot 0&&inW slot 1&&Batch.may bat)&&zcd ⟨6,0,0,done,req,ans,ziJ,prom,snap⟩)
  rw[hA,hE]
  refine zgy fun h=> ?_
  simp only[Bool.and_eq_true]at h
  have i1:inW ballot 0=inW ballot 0:=rfl
  have i2:inW done 0=true:=in0 (by simp_all)
  clear h hA hE
  rw[i2]
  simp[Bool.and_comm,Bool.and_left_comm,Bool.and_assoc]
 ·have hA:eqPk ⟨7,ballot,slot,done,req,ans,bat,prom,snap⟩ {pk0 7 with ballot:=ballot,done:=done}=((slot==0)&&(zfz req ziK)&&(eqMe ans zdk)&&(eqBa bat ziJ)&&(ziT prom zdX)&&(ziS snap sn0)):=by simp[eqPk,zbr,zbA,zbs,zbB,zby,Bool.and_assoc]
  have hE:zcd ⟨7,0,slot,0,req,ans,bat,prom,snap⟩=((slot==0)&&(zfz req ziK)&&(eqMe ans zdk)&&(eqBa bat ziJ)&&(ziT prom zdX)&&(ziS snap sn0)):=by rw[zcQ];simp[zbr,zbA,zbs,zbB,zby,Bool.and_assoc]
  show(if(!eqPk ⟨7,ballot,slot,done,req,ans,bat,prom,snap⟩ {pk0 7 with ballot:=ballot,done:=done}|| !inW ballot 0|| !inW done 0)=true then false else true)=((inW ballot 0&&inW done 0)&&zcd ⟨7,0,slot,0,req,ans,bat,prom,snap⟩)
  rw[hA,hE]
  refine zgy fun h=> ?_
  simp only[Bool.and_eq_true]at h
  have i1:inW ballot 0=inW ballot 0:=rfl
  have i2:inW done 0=inW done 0:=rfl
  clear h hA hE
  simp[Bool.and_comm,Bool.and_left_comm,Bool.and_assoc]
 ·have hA:eqPk ⟨8,ballot,slot,done,req,ans,bat,prom,snap⟩ {pk0 8 with done:=done}=((ballot==0)&&(slot==0)&&(zfz req ziK)&&(eqMe ans zdk)&&(eqBa bat ziJ)&&(ziT prom zdX)&&(ziS snap sn0)):=by simp[eqPk,zbr,zbA,zbs,zbB,zby,Bool.and_assoc]
  have hE:zcd ⟨8,ballot,slot,0,req,ans,bat,prom,snap⟩=((ballot==0)&&(slot==0)&&(zfz req ziK)&&(eqMe ans zdk)&&(eqBa bat ziJ)&&(ziT prom zdX)&&(ziS snap sn0)):=by rw[zcQ];simp[zbr,zbA,zbs,zbB,zby,Bool.and_assoc]
  show(if(!eqPk ⟨8,ballot,slot,done,req,ans,bat,prom,snap⟩ {pk0 8 with done:=done}|| !inW ballot 0|| !inW done 0)=true then false else true)=(inW done 0&&zcd ⟨8,ballot,slot,0,req,ans,bat,prom,snap⟩)
  rw[hA,hE]
  refine zgy fun h=> ?_
  simp only[Bool.and_eq_true]at h
  have i1:inW ballot 0=true:=in0 (by simp_all)
  have i2:inW done 0=inW done 0:=rfl
  clear h hA hE
  rw[i1]
  simp[Bool.and_comm,Bool.and_left_comm,Bool.and_assoc]
 ·have hA:eqPk ⟨9,ballot,slot,done,req,ans,bat,prom,snap⟩ {pk0 9 with snap:=snap}=((ballot==0)&&(slot==0)&&(done==0)&&(zfz req ziK)&&(eqMe ans zdk)&&(eqBa bat ziJ)&&(ziT prom zdX)):=by simp[eqPk,zbr,zbA,zbs,zbB,zby,Bool.and_assoc]
  have hE:zcd ⟨9,ballot,slot,done,req,ans,bat,prom,sn0⟩=((ballot==0)&&(slot==0)&&(done==0)&&(zfz req ziK)&&(eqMe ans zdk)&&(eqBa bat ziJ)&&(ziT prom zdX)):=by rw[zcQ];simp[zbr,zbA,zbs,zbB,zby,Bool.and_assoc]
  show(if(!eqPk ⟨9,ballot,slot,done,req,ans,bat,prom,snap⟩ {pk0 9 with snap:=snap}|| !inW ballot 0|| !inW done 0)=true then false else zaZ snap)=(zaZ snap&&zcd ⟨9,ballot,slot,done,req,ans,bat,prom,sn0⟩)
  rw[hA,hE]
  refine zgy fun h=> ?_
  simp only[Bool.and_eq_true]at h
  have i1:inW ballot 0=true:=in0 (by simp_all)
  have i2:inW done 0=true:=in0 (by simp_all)
  clear h hA hE
  rw[i1]
  rw[i2]
  simp[Bool.and_comm,Bool.and_left_comm,Bool.and_assoc]
 ·have e1:zmm ⟨kind,ballot,slot,done,req,ans,bat,prom,snap⟩=false:=by
   simp only[beq_eq_false_iff_ne,ne_eq]at k1 k2 k3 k4 k5 k6 k7 k8 k9
   unfold zmm okP
   simp only[k1,k2,k3,k4,k5,k6,k7,k8,k9,if_false,Bool.false_and]
  rw[e1]
  simp only[beq_eq_false_iff_ne,ne_eq]at k1 k2 k3 k4 k5 k6 k7 k8 k9
  unfold zsX
  simp only[k1,k2,k3,k4,k5,k6,k7,k8,k9,if_false,ite_self]
theorem ziE (v a:Int):CallOK prog 42 [.f (ai v), .f (ai a)] (fun r o=>r=[rb (inW v a)]∧o=[]):=by
 refine zh func42 results42 ntmps42 call42 ?_
 simp only[f42,Option.getD]
 unfold inW
 exact zW0 trivial
set_option maxHeartbeats 8000000 in
theorem zkF (p:Pkt) (h:p.ok):CallOK prog 14 [.f (.agg (p.enc.map C.d))] (fun r o=>r=[rb (zsX p)]∧o=[]):=by
 refine zh func14 results14 ntmps14 call14 ?_
 simp only[f14,Option.getD]
 have h1:=zvk p
 have h2:=zri p (zex p) h (zsY h)
 have w1:=ziE p.ballot 0
 have w2:=ziE p.done 0
 have w3:=ziE p.slot 1
 unfold zsX
 cases hc:((!eqPk p (zex p)|| !inW p.ballot 0)|| !inW p.done 0)
 ·rw[if_neg (by simp)]
  simp only[Bool.or_eq_false_iff,Bool.not_eq_false']at hc
  obtain⟨⟨c1,c2⟩,c3⟩:=hc
  rw[c1]at h2
  rw[c2]at w1
  rw[c3]at w2
  clear c1 c2 c3
  generalize zex p=q at*
  obtain⟨kind,ballot,slot,done,req,ans,bat,prom,snap⟩:=p
  obtain⟨hk,hb,hs,hd,hreq,hans,hbat,hbl,hprom,hpl,hvl,hsn⟩:=h
  simp only at hk hb hs hd hreq hans hbat hbl hprom hpl hvl hsn w1 w2 w3
  rcases kinds kind with rfl|rfl|rfl|rfl|rfl|rfl|rfl|rfl|rfl|⟨k1,k2,k3,k4,k5,k6,k7,k8,k9⟩
  ·have hm:=zfv req hreq
   exact zW trivial (I (h1) (I (h2) (I (w1) (I (w2) (hm)))))
  ·have hm:=zen ans hans
   exact zW trivial (I (h1) (I (h2) (I (w1) (I (w2) (hm)))))
  ·exact zW trivial (I (h1) (I (h2) (I (w1) (w2))))
  ·have hm:=znb prom hprom
   exact zW trivial (I (h1) (I (h2) (I (w1) (I (w2) (hm)))))
  ·have hm:=zc9 bat hbat
   exact zW trivial (I (h1) (I (h2) (I (w1) (I (w2) (I (w3) (hm))))))
  ·have hm:=zc9 bat hbat
   exact zW trivial (I (h1) (I (h2) (I (w1) (I (w2) (I (w3) (hm))))))
  ·exact zW trivial (I (h1) (I (h2) (I (w1) (w2))))
  ·exact zW trivial (I (h1) (I (h2) (I (w1) (w2))))
  ·have hm:=ziD snap hsn
   exact zW trivial (I (h1) (I (h2) (I (w1) (I (w2) (hm)))))
  ·have hz:(if kind=1 then Req.may req else if kind=2 then answerB ans else if kind=4 then Prom.may prom else if kind=5 then inW slot 1&&Batch.may bat else if kind=6 then inW slot 1&&Batch.may bat else if kind=9 then zaZ snap else if kind=3 then true else if kind=7 then true else if kind=8 then true else false)=false:=by
    simp only[beq_eq_false_iff_ne,ne_eq]at k1 k2 k3 k4 k5 k6 k7 k8 k9
    simp only[k1,k2,k3,k4,k5,k6,k7,k8,k9,if_false]
   rw[hz]
   exact zW (I k1 (I k2 (I k3 (I k4 (I k5 (I k6 (I k7 (I k8 k9)))))))) (I (h1) (I (h2) (I (w1) (w2))))
 ·rw[if_pos rfl]
  exact zW hc (I (h1) (I (h2) (I (w1) (w2))))
end Go.Proofs.YtliimajkpggbhaaGreat
