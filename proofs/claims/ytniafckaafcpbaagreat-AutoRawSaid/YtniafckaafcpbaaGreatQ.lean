import Derived.Test.YtniafckaafcpbaaGreatO
import Derived.Test.YtniafckaafcpbaaGreatP
import Derived.Test.YtniafckaafcpbaaGreatL
namespace Go.Proofs.YtniafckaafcpbaaGreat
open Go.Pk
set_option maxRecDepth 100000
set_option linter.unusedSimpArgs false
set_option linter.unusedVariables false
abbrev stE (s:St):List D:=[iD s.time,iD s.num,iD s.token, .sl s.sess.length (sessE s.sess), .sl s.locks.length (locksE s.locks), .sl s.memos.length (memosE s.memos)]
abbrev stRF (s:St):RF:= .agg ((stE s).map RO.d)
abbrev replyRF (a:Reply):RF:= .agg [.d (iD a.code), .d (iD a.session), .d (iD a.ahead), .own 2 a.held.length (grantsE a.held) false]
structure Small (s:St):Prop where
 sess:s.sess.length<2^30
 locks:s.locks.length<2^30
 memos:s.memos.length<2^30
 line:∀k∈s.locks,k.line.length<2^30∧k.name.size<2^62
 held:∀m∈s.memos,replyOk m.reply
set_option maxHeartbeats 1000000 in
theorem zgK (s:St) (h:Small s):CallOK Tryz.prog 32 [.f (.agg s.lent)] (fun r o=>r=[s.rf]∧o=[]):=by
 refine zak zaA mixed (T:=Ty) (n:=58) Tryz.func32 (c:=Tryz.f32.body.getD .skip) rfl Tryz.results32 Tryz.ntmps32 Tryz.call32 ?_
 simp only[Tryz.f32,Option.getD]
 have hcs:=zd2 s.sess.length (sessE s.sess) zax (by have:=h.sess;omega)
 have hcl:=zfs s.locks.length (locksE s.locks) zam (by have:=h.locks;omega)
 have hcm:=zft s.memos.length (memosE s.memos) zaD (by have:=h.memos;omega)
 repeat'(first|(with_reducible first|refine zaa _ _ ?_|refine zae ?_|refine zaf ?_)|rw[zad]|simp only[zY,Int.reduceEq,Int.reduceBEq,Int.reduceBNe,Nat.reduceSub,Nat.reduceEqDiff,Nat.reduceAdd,Nat.reduceMul,Nat.reduceLeDiff,Nat.reduceLT,Nat.reduceBEq,reduceCtorEq]|((first|((try refine zai ?_);apply zaj)|(apply zah;intro _));(solve|exact(hcs)|exact(hcl)|exact(hcm)|(refine CallOK.le (hcs) ?_;exact zM)|(refine CallOK.le (hcl) ?_;exact zM)|(refine CallOK.le (hcm) ?_;exact zM)|fail);try case hn=>rfl)|refine zab ?_|refine zac (fun hb=> ?_) (fun hb=> ?_)|(refine And.intro ?_ ?_;exact zI)|refine And.intro (fun hg=> ?_) (fun hg=> ?_)|exact zC|fail)
 refine zau (τ:=Nat) (fun i=>⟨[dd, .one (.ptr ⟨1,0,1⟩ 0), .one (.ptr ⟨2,0,1⟩ 0),dd,dd,dd,dd,dd,dd,dd,dd,dd,dd,dd,dd,ai s.locks.length,ai i,dd,dd,dd,dd,dd,dd,dd,dd,dd,dd,dd,dd,dd,dd,dd,dd,dd,dd,dd,dd,dd,dd,dd,dd,dd,dd,dd,dd,dd,dd,dd,dd,dd,dd,dd,dd,dd,dd,dd,dd,dd],[(1,{next:=2,l:=[some {e:=1,var:=true,fz:=false,sz:=0,cells:=[di s.time,di s.num,di s.token, .own ⟨1,4,1⟩ 0 s.sess.length, .own ⟨1,5,1⟩ 0 s.locks.length, .lent s.memos.length (memosE s.memos)]},none,none,none,some {e:=1,var:=false,fz:=false,sz:=3,cells:=(sessE s.sess).map C.d},some {e:=1,var:=false,fz:=false,sz:=4,cells:=(locksE s.locks).map C.d},none]}),(2,{next:=2,l:=[some {e:=1,var:=true,fz:=false,sz:=0,cells:=[di 0,di 0,di 0, .d (.v (.slice none 0 0)), .d (.v (.slice none 0 0)), .d (.v (.slice none 0 0))]},none,none,none,none,none,none]}),(7,⟨2,[]⟩),(11,⟨2,[]⟩),(28,⟨2,[]⟩)]⟩)
  (fun i=>i≤s.locks.length) (fun _=>()) (fun i=>s.locks.length - i) 0
  (Gh.canon [1,2] [28] [] zK rfl rfl) (Nat.zero_le _) ?_
 intro i hi0 hF K hK
 repeat(first|with_reducible refine zaa _ _ ?_|with_reducible refine And.imp_right (zaa _ _) ?_|with_reducible refine And.imp_right (And.imp_right (zaa _ _)) ?_|with_reducible refine And.imp_right (And.imp_right (And.imp_right (zaa _ _))) ?_|rw[zad]|simp only[zB,Nat.reduceSub,Nat.reduceEqDiff,Nat.reduceAdd,Nat.reduceMul,Nat.reduceLeDiff,Nat.reduceLT,Nat.reduceBEq,reduceCtorEq])
 refine zac (fun hlt=> ?_) (fun hge=> ?_)
 ·have hi:i<s.locks.length:=by simpa using hlt
  have hat:=zaG hi
  have hat2:(locksE s.locks).drop (i*4+3)= .sl s.locks[i].line.length (intsE s.locks[i].line)::locksE (s.locks.drop (i+1)):=by rw[←List.drop_drop,hat];rfl
  have hw:=zat hi (by have:=h.locks;omega)
  have hci:=zcf s.locks[i].line.length (intsE s.locks[i].line) zaw (by have:=(h.line _ (List.getElem_mem hi)).1;omega)
  have hset:=zbr Lk.enc 4 (fun _=>rfl) hi (k:=3) (by decide) (.sl s.locks[i].line.length (intsE s.locks[i].line)) s.locks[i] rfl
  rw[List.set_getElem_self]at hset
  repeat'(first|(with_reducible first|refine zaa _ _ ?_|refine zae ?_|refine zaf ?_)|rw[zad]|simp only[hat2,hset,←List.map_drop,List.map_cons,zam,zY,Int.reduceEq,Int.reduceBEq,Int.reduceBNe,Nat.reduceSub,Nat.reduceEqDiff,Nat.reduceAdd,Nat.reduceMul,Nat.reduceLeDiff,Nat.reduceLT,Nat.reduceBEq,reduceCtorEq]|((first|((try refine zai ?_);apply zaj)|(apply zah;intro _));(solve|exact(hci)|(refine CallOK.le (hci) ?_;exact zM)|fail);try case hn=>rfl)|refine zab ?_|refine zac (fun hb=> ?_) (fun hb=> ?_)|(refine And.intro ?_ ?_;exact zI)|refine And.intro (fun hg=> ?_) (fun hg=> ?_)|exact zC|fail)
  exact hK _ (i+1) (Gh.canon [1,2] [] [] (by simp only[hw,zan,zaz,zao,zaq,zar,zas,List.set_cons_zero,List.set_cons_succ,and_true,true_and,Int.natCast_zero,Int.cast_ofNat_Int,D.v.injEq,Value.int.injEq];try(repeat'(first|rfl|omega|with_reducible apply And.intro))) rfl rfl) hi rfl (by omega)
 ·have hi:i=s.locks.length:=by
   have:¬(i:Int)<s.locks.length:=by simpa using hge
   omega
  repeat'(first|(with_reducible first|refine zaa _ _ ?_|refine zae ?_|refine zaf ?_)|rw[zad]|simp only[zY,Int.reduceEq,Int.reduceBEq,Int.reduceBNe,Nat.reduceSub,Nat.reduceEqDiff,Nat.reduceAdd,Nat.reduceMul,Nat.reduceLeDiff,Nat.reduceLT,Nat.reduceBEq,reduceCtorEq]|((first|((try refine zai ?_);apply zaj)|(apply zah;intro _));(solve|exact(hcm)|(refine CallOK.le (hcm) ?_;exact zM)|fail);try case hn=>rfl)|refine zab ?_|refine zac (fun hb=> ?_) (fun hb=> ?_)|(refine And.intro ?_ ?_;exact zI)|refine And.intro (fun hg=> ?_) (fun hg=> ?_)|exact zC|fail)
  refine zau (τ:=Nat) (fun i=>⟨[dd, .one (.ptr ⟨1,0,1⟩ 0), .one (.ptr ⟨2,0,1⟩ 0),dd,dd,dd,dd,dd,dd,dd,dd,dd,dd,dd,dd,dd,dd,dd,dd,dd,dd,dd,dd,dd,dd,dd,dd,dd,dd,dd,dd,dd,dd,dd,dd,dd,dd,dd,ai s.memos.length,ai i,dd,dd,dd,dd,dd,dd,dd,dd,dd,dd,dd,dd,dd,dd,dd,dd,dd,dd],[(1,{next:=2,l:=[some {e:=1,var:=true,fz:=false,sz:=0,cells:=[di s.time,di s.num,di s.token, .own ⟨1,4,1⟩ 0 s.sess.length, .own ⟨1,5,1⟩ 0 s.locks.length, .own ⟨1,6,1⟩ 0 s.memos.length]},none,none,none,some {e:=1,var:=false,fz:=false,sz:=3,cells:=(sessE s.sess).map C.d},some {e:=1,var:=false,fz:=false,sz:=4,cells:=(locksE s.locks).map C.d},some {e:=1,var:=false,fz:=false,sz:=6,cells:=(memosE s.memos).map C.d}]}),(2,{next:=2,l:=[some {e:=1,var:=true,fz:=false,sz:=0,cells:=[di 0,di 0,di 0, .d (.v (.slice none 0 0)), .d (.v (.slice none 0 0)), .d (.v (.slice none 0 0))]},none,none,none,none,none,none]}),(7,⟨2,[]⟩),(11,⟨2,[]⟩),(28,⟨2,[]⟩),(34,⟨2,[]⟩),(52,⟨2,[]⟩)]⟩)
   (fun i=>i≤s.memos.length) (fun _=>()) (fun i=>s.memos.length - i) 0
   (Gh.canon [1,2] [52] [] zK rfl rfl) (Nat.zero_le _) ?_
  intro i hi0 hF K hK
  repeat(first|with_reducible refine zaa _ _ ?_|with_reducible refine And.imp_right (zaa _ _) ?_|with_reducible refine And.imp_right (And.imp_right (zaa _ _)) ?_|with_reducible refine And.imp_right (And.imp_right (And.imp_right (zaa _ _))) ?_|rw[zad]|simp only[zB,Nat.reduceSub,Nat.reduceEqDiff,Nat.reduceAdd,Nat.reduceMul,Nat.reduceLeDiff,Nat.reduceLT,Nat.reduceBEq,reduceCtorEq])
  refine zac (fun hlt=> ?_) (fun hge=> ?_)
  ·have hi:i<s.memos.length:=by simpa using hlt
   have hat:=za2 hi
   have hat2:(memosE s.memos).drop (i*6+2+3)= .sl s.memos[i].reply.held.length (grantsE s.memos[i].reply.held)::memosE (s.memos.drop (i+1)):=by rw[Nat.add_assoc,←List.drop_drop,hat];rfl
   have hw:=zat hi (by have:=h.memos;omega)
   have hci:=zcx s.memos[i].reply.held.length (grantsE s.memos[i].reply.held) zbl (by have:=(h.held _ (List.getElem_mem hi)).1;omega)
   have hset:=zbr Memo.enc 6 (fun _=>rfl) hi (k:=5) (by decide) (.sl s.memos[i].reply.held.length (grantsE s.memos[i].reply.held)) s.memos[i] rfl
   rw[List.set_getElem_self,show i*6+5=i*6+2+3 from rfl]at hset
   repeat'(first|(with_reducible first|refine zaa _ _ ?_|refine zae ?_|refine zaf ?_)|rw[zad]|simp only[hat2,hset,←List.map_drop,List.map_cons,zaD,zY,Int.reduceEq,Int.reduceBEq,Int.reduceBNe,Nat.reduceSub,Nat.reduceEqDiff,Nat.reduceAdd,Nat.reduceMul,Nat.reduceLeDiff,Nat.reduceLT,Nat.reduceBEq,reduceCtorEq]|((first|((try refine zai ?_);apply zaj)|(apply zah;intro _));(solve|exact(hci)|(refine CallOK.le (hci) ?_;exact zM)|fail);try case hn=>rfl)|refine zab ?_|refine zac (fun hb=> ?_) (fun hb=> ?_)|(refine And.intro ?_ ?_;exact zI)|refine And.intro (fun hg=> ?_) (fun hg=> ?_)|exact zC|fail)
   exact hK _ (i+1) (Gh.canon [1,2] [] [] (by simp only[hw,zan,zaz,zao,zaq,zar,zas,List.set_cons_zero,List.set_cons_succ,and_true,true_and,Int.natCast_zero,Int.cast_ofNat_Int,D.v.injEq,Value.int.injEq];try(repeat'(first|rfl|omega|with_reducible apply And.intro))) rfl rfl) hi rfl (by omega)
  ·have hi:i=s.memos.length:=by
    have:¬(i:Int)<s.memos.length:=by simpa using hge
    omega
   repeat'(first|(with_reducible first|refine zaa _ _ ?_|refine zae ?_|refine zaf ?_)|rw[zad]|simp only[zY,Int.reduceEq,Int.reduceBEq,Int.reduceBNe,Nat.reduceSub,Nat.reduceEqDiff,Nat.reduceAdd,Nat.reduceMul,Nat.reduceLeDiff,Nat.reduceLT,Nat.reduceBEq,reduceCtorEq]|refine zab ?_|refine zac (fun hb=> ?_) (fun hb=> ?_)|(refine And.intro ?_ ?_;exact zI)|refine And.intro (fun hg=> ?_) (fun hg=> ?_)|exact zC|fail)
   rfl
theorem zgL (gone:List Int) (hg:gone.length<2^62) (x:Sess):CallOK Tryz.prog 67 [.f (sessAV x), .f (.one (.eltR [.lent gone.length (intsE gone)]))] (fun r o=>r=[rb (hasI gone x.client)]∧o=[]):=by
 refine zak zaA mixed (T:=Ty) (n:=8) Tryz.func67 (c:=Tryz.f67.body.getD .skip) rfl Tryz.results67 Tryz.ntmps67 Tryz.call67 ?_
 simp only[Tryz.f67,Option.getD]
 repeat'(first|(with_reducible first|refine zaa _ _ ?_|refine zae ?_|refine zaf ?_)|rw[zad]|simp only[zY,Int.reduceEq,Int.reduceBEq,Int.reduceBNe,Nat.reduceSub,Nat.reduceEqDiff,Nat.reduceAdd,Nat.reduceMul,Nat.reduceLeDiff,Nat.reduceLT,Nat.reduceBEq,reduceCtorEq]|((first|((try refine zai ?_);apply zaj)|(apply zah;intro _));(solve|exact(zaU gone hg x.client)|(refine CallOK.le (zaU gone hg x.client) ?_;exact zM)|fail);try case hn=>rfl)|refine zab ?_|refine zac (fun hb=> ?_) (fun hb=> ?_)|(refine And.intro ?_ ?_;exact zI)|refine And.intro (fun hg=> ?_) (fun hg=> ?_)|exact zC|fail)
 rfl
abbrev keepS (l:List Sess) (gone:List Int):List Sess:=l.filter fun x=> !hasI gone x.client
theorem zfn (s:St) (h:Small s) (ht:0≤s.token∧s.token≤High) (gone:List Int) (hg:gone.length<2^30):
  CallOK Tryz.prog 33 [.agr [di s.time,di s.num,di s.token] [.d (.sl s.locks.length (locksE s.locks)), .d (.sl s.memos.length (memosE s.memos))] 3 s.sess.length (sessE s.sess), .f (al gone.length (intsE gone))]
  (fun r o=>r=[.agg [.d (iD s.time), .d (iD s.num), .d (iD (s.token+(dropP s.locks gone s.token).2)), .own 3 (keepS s.sess gone).length (sessE (keepS s.sess gone)) true,
   .own 4 (dropP s.locks gone s.token).1.length (locksE (dropP s.locks gone s.token).1) false, .d (.sl s.memos.length (memosE s.memos))]]∧o=[[]]):=by
 refine zak zaA mixed (T:=Ty) (n:=27) Tryz.func33 (c:=Tryz.f33.body.getD .skip) rfl Tryz.results33 Tryz.ntmps33 Tryz.call33 ?_
 simp only[Tryz.f33,Option.getD]
 have hH:High=2^61:=by decide
 have hdp:=zn0 s.locks h.locks (fun k hk=>(h.line k hk).1) gone hg s.token (by omega)
 have hdf:=zkf s.sess (by have:=h.sess;omega) (fun x=>hasI gone x.client) 67 [.eltR [.lent gone.length (intsE gone)]] (fun _=>rfl) (fun _=>rfl) (fun _ _=>rfl) (fun _=>rfl) (fun x _=>zgL gone (by omega) x)
 obtain⟨⟨g1,g2⟩,_⟩:=zbP gone s.token (s.locks.map (lockWithout gone)) 0 (Int.le_refl _)
 have g1:0≤(dropP s.locks gone s.token).2:=g1
 have g2:(dropP s.locks gone s.token).2≤0+(s.locks.map (lockWithout gone)).length:=g2
 rw[List.length_map]at g2
 have hw:IntKind.i64.wrap (s.token+(dropP s.locks gone s.token).2)=s.token+(dropP s.locks gone s.token).2:=wrap64 (by omega) (by have:=h.locks;omega)
 repeat'(first|(with_reducible first|refine zaa _ _ ?_|refine zae ?_|refine zaf ?_)|rw[zad]|simp only[hw,zY,Int.reduceEq,Int.reduceBEq,Int.reduceBNe,Nat.reduceSub,Nat.reduceEqDiff,Nat.reduceAdd,Nat.reduceMul,Nat.reduceLeDiff,Nat.reduceLT,Nat.reduceBEq,reduceCtorEq]|((first|((try refine zai ?_);apply zaj)|(apply zah;intro _));(solve|exact(hdp)|(refine CallOK.le (hdp) ?_;exact zM)|fail);try case hn=>rfl)|refine zab ?_|refine zac (fun hb=> ?_) (fun hb=> ?_)|(refine And.intro ?_ ?_;exact zI)|refine And.intro (fun hg=> ?_) (fun hg=> ?_)|exact zC|fail)
 refine zbi (mv:= ?mv1) (lent:= ?le1) 0 ?ha1 (hdf) ?hb1 ?hc1
 case ha1=>(try simp only[zB,zaF,Nat.reduceSub,Nat.reduceEqDiff,Nat.reduceAdd,Nat.reduceMul,Nat.reduceLeDiff,Nat.reduceLT,Nat.reduceBEq,reduceCtorEq]);exact rfl
 case hb1=>(try simp only[zB,scM,Nat.reduceSub,Nat.reduceEqDiff,Nat.reduceAdd,Nat.reduceMul,Nat.reduceLeDiff,Nat.reduceLT,Nat.reduceBEq,reduceCtorEq]);repeat'(first|rfl|trivial|omega|with_reducible refine And.intro ?_ ?_)
 show aops _ _ _ _ _ _ _ _
 repeat'(first|(with_reducible first|refine zaa _ _ ?_|refine zae ?_|refine zaf ?_)|rw[zad]|simp only[zY,Int.reduceEq,Int.reduceBEq,Int.reduceBNe,Nat.reduceSub,Nat.reduceEqDiff,Nat.reduceAdd,Nat.reduceMul,Nat.reduceLeDiff,Nat.reduceLT,Nat.reduceBEq,reduceCtorEq]|refine zab ?_|refine zac (fun hb=> ?_) (fun hb=> ?_)|(refine And.intro ?_ ?_;exact zI)|refine And.intro (fun hg=> ?_) (fun hg=> ?_)|exact zC|fail)
 rfl
theorem zgM {s:St} (h:Small s) (now lease:Int):(dueP s.sess now lease).length<2^30:=by
 unfold dueP
 split
 ·simp
 ·rw[List.length_map]
  exact Nat.lt_of_le_of_lt (List.length_filter_le ..) h.sess
set_option maxHeartbeats 1000000 in
theorem zfo (s:St) (h:Small s) (hr:RightS s) (time lease:Int):CallOK Tryz.prog 9 [.f (.agg s.lent), .f (ai time), .f (ai lease)]
  (fun r o=>r=[stRF (advanceP s time lease)]∧o=[]):=by
 refine CallOK.nil ?_
 refine zak zaA mixed (T:=Ty) (n:=28) Tryz.func9 (c:=Tryz.f9.body.getD .skip) rfl Tryz.results9 Tryz.ntmps9 Tryz.call9 ?_
 simp only[Tryz.f9,Option.getD]
 have hcp:=zgK s h
 have h':Small {s with time:=timeP s time}:=⟨h.sess,h.locks,h.memos,h.line,h.held⟩
 have hdu:=zoB s.sess h.sess (timeP s time) (max lease 1) (fun x hx=>(zbD.1 (hr.sok x hx).1).2.2)
 have hwo:=zfn {s with time:=timeP s time} h' hr.token (dueP s.sess (timeP s time) (max lease 1)) (zgM h _ _)
 cases ha:decide (time>s.time)&&decide (time≤2305843009213693952)
 ·have htp:timeP s time=s.time:=by unfold timeP;rw[show(decide (time>s.time)&&decide (time≤High))=false from ha];rfl
  rw[htp]at hdu hwo
  repeat'(first|(with_reducible first|refine zaQ 4 ?_|refine zaI 4 ?_|refine zaJ 4 ?_)|(with_reducible first|refine zaa _ _ ?_|refine zae ?_|refine zaf ?_)|rw[zad]|simp only[ha,zY,Int.reduceEq,Int.reduceBEq,Int.reduceBNe,Nat.reduceSub,Nat.reduceEqDiff,Nat.reduceAdd,Nat.reduceMul,Nat.reduceLeDiff,Nat.reduceLT,Nat.reduceBEq,reduceCtorEq]|((first|((try refine zai ?_);apply zaj)|(apply zah;intro _));(solve|exact(hcp)|(refine CallOK.le (hcp) ?_;exact zM)|fail);try case hn=>rfl)|refine zab ?_|refine zac (fun hb=> ?_) (fun hb=> ?_)|(refine And.intro ?_ ?_;exact zI)|refine And.intro (fun hg=> ?_) (fun hg=> ?_)|exact zC|fail)
  refine zaO (zaM (Gh.sealF 3 4 (.own ⟨3,5,11⟩ 0 s.locks.length) ?_) ?_)
  ·simp only[sealFOK,zY,Nat.reduceSub,Nat.reduceEqDiff,Nat.reduceAdd,Nat.reduceMul,Nat.reduceLeDiff,Nat.reduceLT,Nat.reduceBEq,reduceCtorEq]
  simp only[sealFR,zY,Nat.reduceSub,Nat.reduceEqDiff,Nat.reduceAdd,Nat.reduceMul,Nat.reduceLeDiff,Nat.reduceLT,Nat.reduceBEq,reduceCtorEq]
  refine zaM (Gh.sealF 3 5 (.own ⟨3,6,12⟩ 0 s.memos.length) ?_) ?_
  ·simp only[sealFOK,zY,Nat.reduceSub,Nat.reduceEqDiff,Nat.reduceAdd,Nat.reduceMul,Nat.reduceLeDiff,Nat.reduceLT,Nat.reduceBEq,reduceCtorEq]
  simp only[sealFR,zY,Nat.reduceSub,Nat.reduceEqDiff,Nat.reduceAdd,Nat.reduceMul,Nat.reduceLeDiff,Nat.reduceLT,Nat.reduceBEq,reduceCtorEq]
  repeat'(first|(with_reducible first|refine zaa _ _ ?_|refine zae ?_|refine zaf ?_)|rw[zad]|simp only[rowI,zY,Int.reduceEq,Int.reduceBEq,Int.reduceBNe,Nat.reduceSub,Nat.reduceEqDiff,Nat.reduceAdd,Nat.reduceMul,Nat.reduceLeDiff,Nat.reduceLT,Nat.reduceBEq,reduceCtorEq]|((first|((try refine zai ?_);apply zaj)|(apply zah;intro _));(solve|exact(hdu)|(refine CallOK.le (hdu) ?_;exact zM)|fail);try case hn=>rfl)|refine zab ?_|refine zac (fun hb=> ?_) (fun hb=> ?_)|(refine And.intro ?_ ?_;exact zI)|refine And.intro (fun hg=> ?_) (fun hg=> ?_)|exact zC|fail)
  refine zbi (mv:= ?mv2) (lent:= ?le2) 0 ?ha2 (hwo) ?hb2 ?hc2
  case ha2=>(try simp only[zaF,zY,List.contains_nil,Nat.reduceSub,Nat.reduceEqDiff,Nat.reduceAdd,Nat.reduceMul,Nat.reduceLeDiff,Nat.reduceLT,Nat.reduceBEq,reduceCtorEq]);exact rfl
  case hb2=>(try simp only[scM,zY,List.contains_nil,Nat.reduceSub,Nat.reduceEqDiff,Nat.reduceAdd,Nat.reduceMul,Nat.reduceLeDiff,Nat.reduceLT,Nat.reduceBEq,reduceCtorEq]);repeat'(first|rfl|trivial|omega|with_reducible refine And.intro ?_ ?_)
  show aops _ _ _ _ _ _ _ _
  repeat'(first|(with_reducible first|refine zaa _ _ ?_|refine zae ?_|refine zaf ?_)|rw[zad]|simp only[zY,Int.reduceEq,Int.reduceBEq,Int.reduceBNe,Nat.reduceSub,Nat.reduceEqDiff,Nat.reduceAdd,Nat.reduceMul,Nat.reduceLeDiff,Nat.reduceLT,Nat.reduceBEq,reduceCtorEq]|refine zab ?_|refine zac (fun hb=> ?_) (fun hb=> ?_)|(refine And.intro ?_ ?_;exact zI)|refine And.intro (fun hg=> ?_) (fun hg=> ?_)|exact zC|fail)
  refine⟨rfl, ?_⟩
  have hav:advanceP s time lease=withoutSt {s with time:=s.time} (dueP s.sess s.time (max lease 1)):=by unfold advanceP;rw[htp]
  rw[hav]
  exact⟨⟨.inl rfl, .inl rfl, .inl rfl, .inr ⟨rfl,rfl,zax⟩, .inr ⟨rfl,rfl,zam⟩, .inl rfl,trivial⟩,trivial⟩
 ·have htp:timeP s time=time:=by unfold timeP;rw[show(decide (time>s.time)&&decide (time≤High))=true from ha];rfl
  rw[htp]at hdu hwo
  repeat'(first|(with_reducible first|refine zaQ 4 ?_|refine zaI 4 ?_|refine zaJ 4 ?_)|(with_reducible first|refine zaa _ _ ?_|refine zae ?_|refine zaf ?_)|rw[zad]|simp only[ha,zY,Int.reduceEq,Int.reduceBEq,Int.reduceBNe,Nat.reduceSub,Nat.reduceEqDiff,Nat.reduceAdd,Nat.reduceMul,Nat.reduceLeDiff,Nat.reduceLT,Nat.reduceBEq,reduceCtorEq]|((first|((try refine zai ?_);apply zaj)|(apply zah;intro _));(solve|exact(hcp)|(refine CallOK.le (hcp) ?_;exact zM)|fail);try case hn=>rfl)|refine zab ?_|refine zac (fun hb=> ?_) (fun hb=> ?_)|(refine And.intro ?_ ?_;exact zI)|refine And.intro (fun hg=> ?_) (fun hg=> ?_)|exact zC|fail)
  refine zaO (zaM (Gh.sealF 3 4 (.own ⟨3,5,11⟩ 0 s.locks.length) ?_) ?_)
  ·simp only[sealFOK,zY,Nat.reduceSub,Nat.reduceEqDiff,Nat.reduceAdd,Nat.reduceMul,Nat.reduceLeDiff,Nat.reduceLT,Nat.reduceBEq,reduceCtorEq]
  simp only[sealFR,zY,Nat.reduceSub,Nat.reduceEqDiff,Nat.reduceAdd,Nat.reduceMul,Nat.reduceLeDiff,Nat.reduceLT,Nat.reduceBEq,reduceCtorEq]
  refine zaM (Gh.sealF 3 5 (.own ⟨3,6,12⟩ 0 s.memos.length) ?_) ?_
  ·simp only[sealFOK,zY,Nat.reduceSub,Nat.reduceEqDiff,Nat.reduceAdd,Nat.reduceMul,Nat.reduceLeDiff,Nat.reduceLT,Nat.reduceBEq,reduceCtorEq]
  simp only[sealFR,zY,Nat.reduceSub,Nat.reduceEqDiff,Nat.reduceAdd,Nat.reduceMul,Nat.reduceLeDiff,Nat.reduceLT,Nat.reduceBEq,reduceCtorEq]
  repeat'(first|(with_reducible first|refine zaa _ _ ?_|refine zae ?_|refine zaf ?_)|rw[zad]|simp only[rowI,zY,Int.reduceEq,Int.reduceBEq,Int.reduceBNe,Nat.reduceSub,Nat.reduceEqDiff,Nat.reduceAdd,Nat.reduceMul,Nat.reduceLeDiff,Nat.reduceLT,Nat.reduceBEq,reduceCtorEq]|((first|((try refine zai ?_);apply zaj)|(apply zah;intro _));(solve|exact(hdu)|(refine CallOK.le (hdu) ?_;exact zM)|fail);try case hn=>rfl)|refine zab ?_|refine zac (fun hb=> ?_) (fun hb=> ?_)|(refine And.intro ?_ ?_;exact zI)|refine And.intro (fun hg=> ?_) (fun hg=> ?_)|exact zC|fail)
  refine zbi (mv:= ?mv3) (lent:= ?le3) 0 ?ha3 (hwo) ?hb3 ?hc3
  case ha3=>(try simp only[zaF,zY,List.contains_nil,Nat.reduceSub,Nat.reduceEqDiff,Nat.reduceAdd,Nat.reduceMul,Nat.reduceLeDiff,Nat.reduceLT,Nat.reduceBEq,reduceCtorEq]);exact rfl
  case hb3=>(try simp only[scM,zY,List.contains_nil,Nat.reduceSub,Nat.reduceEqDiff,Nat.reduceAdd,Nat.reduceMul,Nat.reduceLeDiff,Nat.reduceLT,Nat.reduceBEq,reduceCtorEq]);repeat'(first|rfl|trivial|omega|with_reducible refine And.intro ?_ ?_)
  show aops _ _ _ _ _ _ _ _
  repeat'(first|(with_reducible first|refine zaa _ _ ?_|refine zae ?_|refine zaf ?_)|rw[zad]|simp only[zY,Int.reduceEq,Int.reduceBEq,Int.reduceBNe,Nat.reduceSub,Nat.reduceEqDiff,Nat.reduceAdd,Nat.reduceMul,Nat.reduceLeDiff,Nat.reduceLT,Nat.reduceBEq,reduceCtorEq]|refine zab ?_|refine zac (fun hb=> ?_) (fun hb=> ?_)|(refine And.intro ?_ ?_;exact zI)|refine And.intro (fun hg=> ?_) (fun hg=> ?_)|exact zC|fail)
  refine⟨rfl, ?_⟩
  have hav:advanceP s time lease=withoutSt {s with time:=time} (dueP s.sess time (max lease 1)):=by unfold advanceP;rw[htp]
  rw[hav]
  exact⟨⟨.inl rfl, .inl rfl, .inl rfl, .inr ⟨rfl,rfl,zax⟩, .inr ⟨rfl,rfl,zam⟩, .inl rfl,trivial⟩,trivial⟩
abbrev lostP (b:St) (x:Sess):Bool:= !((findS b.sess x.client).any fun y=>y.num==x.num)
theorem znh (a b:St) (ha:Small a) (hb:Small b) (hs:SS b.sess):CallOK Tryz.prog 13 [.f (.agg a.lent), .f (.agg b.lent)] (fun r o=>r=[rowI (goneP a b)]∧o=[]):=by
 refine CallOK.nil ?_
 refine zak zaA mixed (T:=Ty) (n:=41) Tryz.func13 (c:=Tryz.f13.body.getD .skip) rfl Tryz.results13 Tryz.ntmps13 Tryz.call13 ?_
 simp only[Tryz.f13,Option.getD]
 repeat'(first|(with_reducible first|refine zaa _ _ ?_|refine zae ?_|refine zaf ?_)|rw[zad]|simp only[zY,Int.reduceEq,Int.reduceBEq,Int.reduceBNe,Nat.reduceSub,Nat.reduceEqDiff,Nat.reduceAdd,Nat.reduceMul,Nat.reduceLeDiff,Nat.reduceLT,Nat.reduceBEq,reduceCtorEq]|refine zab ?_|refine zac (fun hb=> ?_) (fun hb=> ?_)|(refine And.intro ?_ ?_;exact zI)|refine And.intro (fun hg=> ?_) (fun hg=> ?_)|exact zC|fail)
 have hal:=ha.sess
 refine zau (τ:=Nat×List Int) (fun t=>⟨[dd,dd,dd, .one (.ptr ⟨3,0,1⟩ 0),dd, .one (.own ⟨5,1,1⟩ 0 t.2.length),dd,dd,dd,dd,dd,al a.sess.length (sessE a.sess),ai a.sess.length,ai t.1,dd,dd,dd,dd,dd,dd,dd,dd,dd,dd,dd,dd,dd,dd,dd,dd,dd,dd,dd,dd,dd,dd,dd,dd,dd,dd,dd],[(2,⟨2,[]⟩),(3,{next:=2,l:=[some {e:=1,var:=true,fz:=false,sz:=0,cells:=[di b.time,di b.num,di b.token, .lent b.sess.length (sessE b.sess), .lent b.locks.length (locksE b.locks), .lent b.memos.length (memosE b.memos)]},none,none,none,none,none,none]}),(5,{next:=2,l:=[none,some {e:=1,var:=false,fz:=false,sz:=1,cells:=(intsE t.2).map C.d}]}),(7,⟨2,[]⟩),(8,⟨2,[]⟩),(37,⟨2,[]⟩),(38,⟨2,[]⟩)]⟩)
  (fun t=>t.1≤a.sess.length∧t.2.length≤t.1) (fun t=>t.2++((a.sess.drop t.1).filter (lostP b)).map Sess.client) (fun t=>a.sess.length - t.1) (0,[])
  ((Gh.nil (i:=5) (s:=5) (sz:=1) rfl).trans (Gh.canon [3,5] [7,8,37,38] [] zK rfl rfl)) ⟨Nat.zero_le _,Nat.zero_le _⟩ ?_
 intro⟨i,acc⟩ ⟨hi0,hac⟩ hF K hK
 simp only[List.drop_zero,List.nil_append]at hi0 hac hF hK⊢
 repeat(first|with_reducible refine zaa _ _ ?_|with_reducible refine And.imp_right (zaa _ _) ?_|with_reducible refine And.imp_right (And.imp_right (zaa _ _)) ?_|with_reducible refine And.imp_right (And.imp_right (And.imp_right (zaa _ _))) ?_|rw[zad]|simp only[zB,Nat.reduceSub,Nat.reduceEqDiff,Nat.reduceAdd,Nat.reduceMul,Nat.reduceLeDiff,Nat.reduceLT,Nat.reduceBEq,reduceCtorEq])
 refine zac (fun hlt=> ?_) (fun hge=> ?_)
 ·have hi:i<a.sess.length:=by simpa using hlt
  have hat:=zaV hi
  have hw:=zat hi (by omega)
  have hfi:=zey b.sess hs (by have:=hb.sess;omega) a.sess[i].client
  have hFs:((a.sess.drop i).filter (lostP b)).map Sess.client=if lostP b a.sess[i]=true then a.sess[i].client::((a.sess.drop (i+1)).filter (lostP b)).map Sess.client else((a.sess.drop (i+1)).filter (lostP b)).map Sess.client:=by
   rw[List.drop_eq_getElem_cons hi,List.filter_cons]
   split<;>simp
  have hlo:lostP b a.sess[i]=(!(findS b.sess a.sess[i].client).isSome||(((findS b.sess a.sess[i].client).getD noSess).num !=a.sess[i].num)):=by
   unfold lostP
   cases findS b.sess a.sess[i].client<;>rfl
  cases hl:lostP b a.sess[i]
  ·rw[hl]at hlo
   rw[hl,if_neg (by simp)]at hFs
   repeat'(first|(with_reducible first|refine zaa _ _ ?_|refine zae ?_|refine zaf ?_)|rw[zad]|simp only[hat,←hlo,List.cons_append,List.nil_append,zax,zY,Int.reduceEq,Int.reduceBEq,Int.reduceBNe,Nat.reduceSub,Nat.reduceEqDiff,Nat.reduceAdd,Nat.reduceMul,Nat.reduceLeDiff,Nat.reduceLT,Nat.reduceBEq,reduceCtorEq]|((first|((try refine zai ?_);apply zaj)|(apply zah;intro _));(solve|exact(hfi)|(refine CallOK.le (hfi) ?_;exact zM)|fail);try case hn=>rfl)|refine zab ?_|refine zac (fun hb=> ?_) (fun hb=> ?_)|(refine And.intro ?_ ?_;exact zI)|refine And.intro (fun hg=> ?_) (fun hg=> ?_)|exact zC|fail)
   exact hK _ (i+1,acc) (Gh.canon [3,5] [] [] (by simp only[hw,zan,zaz,zao,zaq,zar,zas,List.set_cons_zero,List.set_cons_succ,and_true,true_and,Int.natCast_zero,Int.cast_ofNat_Int,D.v.injEq,Value.int.injEq];try(repeat'(first|rfl|omega|with_reducible apply And.intro))) rfl rfl) ⟨hi,by simp only;omega⟩ (by simp only;rw[hFs]) (by simp only;omega)
  ·rw[hl]at hlo
   rw[hl,if_pos rfl]at hFs
   repeat'(first|(with_reducible first|refine zaa _ _ ?_|refine zae ?_|refine zaf ?_)|rw[zad]|simp only[hat,←hlo,List.cons_append,List.nil_append,zax,zY,Int.reduceEq,Int.reduceBEq,Int.reduceBNe,Nat.reduceSub,Nat.reduceEqDiff,Nat.reduceAdd,Nat.reduceMul,Nat.reduceLeDiff,Nat.reduceLT,Nat.reduceBEq,reduceCtorEq]|((first|((try refine zai ?_);apply zaj)|(apply zah;intro _));(solve|exact(hfi)|(refine CallOK.le (hfi) ?_;exact zM)|fail);try case hn=>rfl)|refine zab ?_|refine zac (fun hb=> ?_) (fun hb=> ?_)|(refine And.intro ?_ ?_;exact zI)|refine And.intro (fun hg=> ?_) (fun hg=> ?_)|exact zC|fail)
   exact hK _ (i+1,acc++[a.sess[i].client]) (Gh.canon [3,5] [] [] (by simp only[hw,List.length_append,List.length_singleton,zan,zaz,zao,zaq,zar,zas,List.set_cons_zero,List.set_cons_succ,and_true,true_and,Int.natCast_zero,Int.cast_ofNat_Int,D.v.injEq,Value.int.injEq];try(repeat'(first|rfl|omega|with_reducible apply And.intro))) rfl (by simp only[List.length_append,List.length_singleton];rw[zc2];rfl)) ⟨hi,by simp only[List.length_append,List.length_singleton];omega⟩ (by simp only[List.append_assoc,List.singleton_append];rw[hFs]) (by simp only;omega)
 ·have hi:i=a.sess.length:=by
   have:¬(i:Int)<a.sess.length:=by simpa using hge
   omega
  rw[hi,List.drop_length,List.filter_nil,List.map_nil,List.append_nil]at hF
  have hgo:goneP a b=acc:=hF.symm
  rw[hgo]
  repeat'(first|(with_reducible first|refine zaa _ _ ?_|refine zae ?_|refine zaf ?_)|rw[zad]|simp only[zY,Int.reduceEq,Int.reduceBEq,Int.reduceBNe,Nat.reduceSub,Nat.reduceEqDiff,Nat.reduceAdd,Nat.reduceMul,Nat.reduceLeDiff,Nat.reduceLT,Nat.reduceBEq,reduceCtorEq]|refine zab ?_|refine zac (fun hb=> ?_) (fun hb=> ?_)|(refine And.intro ?_ ?_;exact zI)|refine And.intro (fun hg=> ?_) (fun hg=> ?_)|exact zC|fail)
  simp[rfs1,roLe,rowI]
theorem zeC (n:Int):CallOK Tryz.prog 50 [.f (ai n)] (fun r o=>r=[rb (within n)]∧o=[]):=by
 refine zak zaA mixed (T:=Ty) (n:=9) Tryz.func50 (c:=Tryz.f50.body.getD .skip) rfl Tryz.results50 Tryz.ntmps50 Tryz.call50 ?_
 simp only[Tryz.f50,Option.getD]
 repeat'(first|(with_reducible first|refine zaa _ _ ?_|refine zae ?_|refine zaf ?_)|rw[zad]|simp only[zY,Int.reduceEq,Int.reduceBEq,Int.reduceBNe,Nat.reduceSub,Nat.reduceEqDiff,Nat.reduceAdd,Nat.reduceMul,Nat.reduceLeDiff,Nat.reduceLT,Nat.reduceBEq,reduceCtorEq]|refine zab ?_|refine zac (fun hb=> ?_) (fun hb=> ?_)|(refine And.intro ?_ ?_;exact zI)|refine And.intro (fun hg=> ?_) (fun hg=> ?_)|exact zC|fail)
 rfl
theorem zj8 (s:St) (h:Small s) (hs:SS s.sess):CallOK Tryz.prog 54 [.f (.agg s.lent)] (fun r o=>r=[rb (seatedB s)]∧o=[]):=by
 refine zak zaA mixed (T:=Ty) (n:=40) Tryz.func54 (c:=Tryz.f54.body.getD .skip) rfl Tryz.results54 Tryz.ntmps54 Tryz.call54 ?_
 simp only[Tryz.f54,Option.getD]
 have hL:=h.locks
 repeat'(first|(with_reducible first|refine zaa _ _ ?_|refine zae ?_|refine zaf ?_)|rw[zad]|simp only[zY,Int.reduceEq,Int.reduceBEq,Int.reduceBNe,Nat.reduceSub,Nat.reduceEqDiff,Nat.reduceAdd,Nat.reduceMul,Nat.reduceLeDiff,Nat.reduceLT,Nat.reduceBEq,reduceCtorEq]|refine zab ?_|refine zac (fun hb=> ?_) (fun hb=> ?_)|(refine And.intro ?_ ?_;exact zI)|refine And.intro (fun hg=> ?_) (fun hg=> ?_)|exact zC|fail)
 refine zau (τ:=Nat) (fun i=>⟨[dd, .one (.ptr ⟨1,0,1⟩ 0),dd,ab true,dd,dd,dd,dd,dd,dd,dd,al s.locks.length (locksE s.locks),ai s.locks.length,ai i,dd,dd,dd,dd,dd,dd,dd,dd,dd,dd,dd,dd,dd,dd,dd,dd,dd,dd,dd,dd,dd,dd,dd,dd,dd,dd],[(1,{next:=2,l:=[some {e:=1,var:=true,fz:=false,sz:=0,cells:=[di s.time,di s.num,di s.token, .lent s.sess.length (sessE s.sess), .lent s.locks.length (locksE s.locks), .lent s.memos.length (memosE s.memos)]},none,none,none,none,none,none]}),(5,⟨2,[]⟩),(8,⟨2,[]⟩),(19,⟨2,[]⟩),(22,⟨2,[]⟩)]⟩)
  (fun i=>i≤s.locks.length) (fun i=>(s.locks.drop i).all fun k=>(k.holder::k.line).all fun c=>(findS s.sess c).isSome) (fun i=>s.locks.length - i) 0
  (Gh.canon [1] [5,8,19,22] [] zK rfl rfl) (Nat.zero_le _) ?_
 intro i hi0 hF K hK
 rw[List.drop_zero]at hF
 repeat(first|with_reducible refine zaa _ _ ?_|with_reducible refine And.imp_right (zaa _ _) ?_|with_reducible refine And.imp_right (And.imp_right (zaa _ _)) ?_|with_reducible refine And.imp_right (And.imp_right (And.imp_right (zaa _ _))) ?_|rw[zad]|simp only[zB,Nat.reduceSub,Nat.reduceEqDiff,Nat.reduceAdd,Nat.reduceMul,Nat.reduceLeDiff,Nat.reduceLT,Nat.reduceBEq,reduceCtorEq])
 refine zac (fun hlt=> ?_) (fun hge=> ?_)
 ·have hi:i<s.locks.length:=by simpa using hlt
  have hat:=zaG hi
  have hw:=zat hi (by omega)
  have hli:=(h.line _ (List.getElem_mem hi)).1
  rw[List.drop_eq_getElem_cons hi,List.all_cons]at hF
  obtain⟨c,hc⟩:∃c,c=s.locks[i].holder::s.locks[i].line:=⟨_,rfl⟩
  have hcl:c.length=1+s.locks[i].line.length:=by rw[hc,List.length_cons];omega
  rw[←hc]at hF
  repeat'(first|(with_reducible first|refine zaa _ _ ?_|refine zae ?_|refine zaf ?_)|rw[zad]|simp only[hat,List.cons_append,List.nil_append,zam,zaw,zY,Int.reduceEq,Int.reduceBEq,Int.reduceBNe,Nat.reduceSub,Nat.reduceEqDiff,Nat.reduceAdd,Nat.reduceMul,Nat.reduceLeDiff,Nat.reduceLT,Nat.reduceBEq,reduceCtorEq]|refine zab ?_|refine zac (fun hb=> ?_) (fun hb=> ?_)|(refine And.intro ?_ ?_;exact zI)|refine And.intro (fun hg=> ?_) (fun hg=> ?_)|exact zC|fail)
  refine zau (τ:=Nat) (fun j=>⟨[dd, .one (.ptr ⟨1,0,1⟩ 0),dd,ab true,dd,dd,dd,dd,dd,dd,dd,al s.locks.length (locksE s.locks),ai s.locks.length,ai i,dd,dd,dd,dd,dd,dd,dd,dd, .one (.own ⟨19,1,1⟩ 0 c.length),ai c.length,ai j,dd,dd,dd,dd,dd,dd,dd,dd,dd,dd,dd,dd,dd,dd,dd],[(1,{next:=2,l:=[some {e:=1,var:=true,fz:=false,sz:=0,cells:=[di s.time,di s.num,di s.token, .lent s.sess.length (sessE s.sess), .lent s.locks.length (locksE s.locks), .lent s.memos.length (memosE s.memos)]},none,none,none,none,none,none]}),(5,⟨2,[]⟩),(8,⟨2,[]⟩),(19,{next:=2,l:=[none,some {e:=1,var:=false,fz:=false,sz:=1,cells:=(intsE c).map C.d}]}),(22,⟨2,[]⟩)]⟩)
   (fun j=>j≤c.length) (fun j=>(c.drop j).all fun c=>(findS s.sess c).isSome) (fun j=>c.length - j) 0
   (Gh.canon [1,19] [] [] (by simp only[hcl,zan,zaz,zao,zaq,zar,zas,List.set_cons_zero,List.set_cons_succ,and_true,true_and,Int.natCast_zero,Int.cast_ofNat_Int,D.v.injEq,Value.int.injEq];try(repeat'(first|rfl|omega|with_reducible apply And.intro))) rfl (by rw[hc];rfl)) (Nat.zero_le _) ?_
  intro j hj0 hF2 K2 hK2
  rw[List.drop_zero]at hF2
  repeat(first|with_reducible refine zaa _ _ ?_|with_reducible refine And.imp_right (zaa _ _) ?_|with_reducible refine And.imp_right (And.imp_right (zaa _ _)) ?_|with_reducible refine And.imp_right (And.imp_right (And.imp_right (zaa _ _))) ?_|rw[zad]|simp only[zB,Nat.reduceSub,Nat.reduceEqDiff,Nat.reduceAdd,Nat.reduceMul,Nat.reduceLeDiff,Nat.reduceLT,Nat.reduceBEq,reduceCtorEq])
  refine zac (fun hlt2=> ?_) (fun hge2=> ?_)
  ·have hj:j<c.length:=by simpa using hlt2
   have haj:=zbo hj
   have hwj:=zat hj (by omega)
   have hfi:=zey s.sess hs (by have:=h.sess;omega) c[j]
   rw[List.drop_eq_getElem_cons hj,List.all_cons]at hF2
   cases hb:(findS s.sess c[j]).isSome
   ·rw[hb]at hfi hF2
    rw[←hF2]at hF
    repeat'(first|(with_reducible first|refine zaa _ _ ?_|refine zae ?_|refine zaf ?_)|rw[zad]|simp only[haj,←List.map_drop,List.map_cons,List.cons_append,List.nil_append,zaw,zY,Int.reduceEq,Int.reduceBEq,Int.reduceBNe,Nat.reduceSub,Nat.reduceEqDiff,Nat.reduceAdd,Nat.reduceMul,Nat.reduceLeDiff,Nat.reduceLT,Nat.reduceBEq,reduceCtorEq]|((first|((try refine zai ?_);apply zaj)|(apply zah;intro _));(solve|exact(hfi)|(refine CallOK.le (hfi) ?_;exact zM)|fail);try case hn=>rfl)|refine zab ?_|refine zac (fun hb=> ?_) (fun hb=> ?_)|(refine And.intro ?_ ?_;exact zI)|refine And.intro (fun hg=> ?_) (fun hg=> ?_)|exact zC|fail)
    unfold seatedB
    rw[←hF]
    rfl
   ·rw[hb]at hfi hF2
    repeat'(first|(with_reducible first|refine zaa _ _ ?_|refine zae ?_|refine zaf ?_)|rw[zad]|simp only[haj,←List.map_drop,List.map_cons,List.cons_append,List.nil_append,zaw,zY,Int.reduceEq,Int.reduceBEq,Int.reduceBNe,Nat.reduceSub,Nat.reduceEqDiff,Nat.reduceAdd,Nat.reduceMul,Nat.reduceLeDiff,Nat.reduceLT,Nat.reduceBEq,reduceCtorEq]|((first|((try refine zai ?_);apply zaj)|(apply zah;intro _));(solve|exact(hfi)|(refine CallOK.le (hfi) ?_;exact zM)|fail);try case hn=>rfl)|refine zab ?_|refine zac (fun hb=> ?_) (fun hb=> ?_)|(refine And.intro ?_ ?_;exact zI)|refine And.intro (fun hg=> ?_) (fun hg=> ?_)|exact zC|fail)
    exact hK2 _ (j+1) (Gh.canon [1,19] [] [] (by simp only[hwj,zan,zaz,zao,zaq,zar,zas,List.set_cons_zero,List.set_cons_succ,and_true,true_and,Int.natCast_zero,Int.cast_ofNat_Int,D.v.injEq,Value.int.injEq];try(repeat'(first|rfl|omega|with_reducible apply And.intro))) rfl rfl) hj (by rw[List.drop_eq_getElem_cons hj,List.all_cons,hb,Bool.true_and]) (by omega)
  ·have hj:j=c.length:=by
    have:¬(j:Int)<c.length:=by simpa using hge2
    omega
   rw[hj,List.drop_length,List.all_nil]at hF2
   rw[←hF2,Bool.true_and]at hF
   repeat'(first|(with_reducible first|refine zaa _ _ ?_|refine zae ?_|refine zaf ?_)|rw[zad]|simp only[zY,Int.reduceEq,Int.reduceBEq,Int.reduceBNe,Nat.reduceSub,Nat.reduceEqDiff,Nat.reduceAdd,Nat.reduceMul,Nat.reduceLeDiff,Nat.reduceLT,Nat.reduceBEq,reduceCtorEq]|refine zab ?_|refine zac (fun hb=> ?_) (fun hb=> ?_)|(refine And.intro ?_ ?_;exact zI)|refine And.intro (fun hg=> ?_) (fun hg=> ?_)|exact zC|fail)
   exact hK _ (i+1) (Gh.canon [1] [] [] (by simp only[hw,zan,zaz,zao,zaq,zar,zas,List.set_cons_zero,List.set_cons_succ,and_true,true_and,Int.natCast_zero,Int.cast_ofNat_Int,D.v.injEq,Value.int.injEq];try(repeat'(first|rfl|omega|with_reducible apply And.intro))) rfl rfl) hi (by rw[List.drop_eq_getElem_cons hi,List.all_cons,←hc,←hF2,Bool.true_and]) (by omega)
 ·have hi:i=s.locks.length:=by
   have:¬(i:Int)<s.locks.length:=by simpa using hge
   omega
  rw[hi,List.drop_length,List.all_nil]at hF
  repeat'(first|(with_reducible first|refine zaa _ _ ?_|refine zae ?_|refine zaf ?_)|rw[zad]|simp only[zY,Int.reduceEq,Int.reduceBEq,Int.reduceBNe,Nat.reduceSub,Nat.reduceEqDiff,Nat.reduceAdd,Nat.reduceMul,Nat.reduceLeDiff,Nat.reduceLT,Nat.reduceBEq,reduceCtorEq]|refine zab ?_|refine zac (fun hb=> ?_) (fun hb=> ?_)|(refine And.intro ?_ ?_;exact zI)|refine And.intro (fun hg=> ?_) (fun hg=> ?_)|exact zC|fail)
  unfold seatedB
  rw[←hF]
set_option maxHeartbeats 1000000 in
theorem zir (s:St) (h:Small s):CallOK Tryz.prog 19 [.f (.agg s.lent)] (fun r o=>r=[rb (rightB s)]∧o=[]):=by
 refine zak zaA mixed (T:=Ty) (n:=69) Tryz.func19 (c:=Tryz.f19.body.getD .skip) rfl Tryz.results19 Tryz.ntmps19 Tryz.call19 ?_
 simp only[Tryz.f19,Option.getD]
 have w1:=zeC s.time
 have w2:=zeC s.num
 have w3:=zeC s.token
 have hsr:=zhJ s.sess h.sess
 have hlr:=zhH s.locks h.locks h.line
 have hmr:=zhD s.memos h.memos h.held
 have hns:=h.sess
 have hnl:=h.locks
 cases hA:(!within s.time|| !within s.num|| !within s.token|| !sessB s.sess|| !lockB s.locks|| !memoB s.memos)
 ·have hss:SS s.sess:=(zgO.1 (by simp at hA;exact hA.1.1.2)).2.2.1
  have hrb:rightB s=((s.sess.all fun x=>decide (x.num≤s.num))&&(s.locks.all fun k=>decide (k.token≤s.token))&&seatedB s):=by
   unfold rightB
   simp at hA
   rw[hA.1.1.1.1.1,hA.1.1.1.1.2,hA.1.1.1.2,hA.1.1.2,hA.1.2,hA.2]
   rfl
  have hse:=zj8 s h hss
  repeat'(first|(with_reducible first|refine zaa _ _ ?_|refine zae ?_|refine zaf ?_)|rw[zad]|simp only[hA,zY,Int.reduceEq,Int.reduceBEq,Int.reduceBNe,Nat.reduceSub,Nat.reduceEqDiff,Nat.reduceAdd,Nat.reduceMul,Nat.reduceLeDiff,Nat.reduceLT,Nat.reduceBEq,reduceCtorEq]|((first|((try refine zai ?_);apply zaj)|(apply zah;intro _));(solve|exact(w1)|exact(w2)|exact(w3)|exact(hsr)|exact(hlr)|exact(hmr)|(refine CallOK.le (w1) ?_;exact zM)|(refine CallOK.le (w2) ?_;exact zM)|(refine CallOK.le (w3) ?_;exact zM)|(refine CallOK.le (hsr) ?_;exact zM)|(refine CallOK.le (hlr) ?_;exact zM)|(refine CallOK.le (hmr) ?_;exact zM)|fail);try case hn=>rfl)|refine zab ?_|refine zac (fun hb=> ?_) (fun hb=> ?_)|(refine And.intro ?_ ?_;exact zI)|refine And.intro (fun hg=> ?_) (fun hg=> ?_)|exact zC|fail)
  refine zau (τ:=Nat) (fun i=>⟨[dd, .one (.ptr ⟨1,0,1⟩ 0),dd,dd,dd,dd,dd,dd,dd,dd,dd,dd,dd,dd,dd,dd,dd,dd,dd,dd,dd,dd,dd,dd,dd,dd,dd,dd,dd,dd,dd,dd,dd,dd,dd,dd,dd,dd,dd,dd,dd,dd,al s.sess.length (sessE s.sess),ai s.sess.length,ai i,dd,dd,dd,dd,dd,dd,dd,dd,dd,dd,dd,dd,dd,dd,dd,dd,dd,dd,dd,dd,dd,dd,dd,dd],[(1,{next:=2,l:=[some {e:=1,var:=true,fz:=false,sz:=0,cells:=[di s.time,di s.num,di s.token, .lent s.sess.length (sessE s.sess), .lent s.locks.length (locksE s.locks), .lent s.memos.length (memosE s.memos)]},none,none,none,none,none,none]}),(4,⟨2,[]⟩)]⟩)
   (fun i=>i≤s.sess.length) (fun i=>(s.sess.drop i).all fun x=>decide (x.num≤s.num)) (fun i=>s.sess.length - i) 0
   (Gh.canon [1] [4] [] zK rfl rfl) (Nat.zero_le _) ?_
  intro i hi0 hF K hK
  rw[List.drop_zero]at hF
  repeat(first|with_reducible refine zaa _ _ ?_|with_reducible refine And.imp_right (zaa _ _) ?_|with_reducible refine And.imp_right (And.imp_right (zaa _ _)) ?_|with_reducible refine And.imp_right (And.imp_right (And.imp_right (zaa _ _))) ?_|rw[zad]|simp only[zB,Nat.reduceSub,Nat.reduceEqDiff,Nat.reduceAdd,Nat.reduceMul,Nat.reduceLeDiff,Nat.reduceLT,Nat.reduceBEq,reduceCtorEq])
  refine zac (fun hlt=> ?_) (fun hge=> ?_)
  ·have hi:i<s.sess.length:=by simpa using hlt
   have hat:=zaV hi
   have hw:=zat hi (by omega)
   rw[List.drop_eq_getElem_cons hi,List.all_cons]at hF
   repeat'(first|(with_reducible first|refine zaa _ _ ?_|refine zae ?_|refine zaf ?_)|rw[zad]|simp only[hat,List.cons_append,List.nil_append,zax,zY,Int.reduceEq,Int.reduceBEq,Int.reduceBNe,Nat.reduceSub,Nat.reduceEqDiff,Nat.reduceAdd,Nat.reduceMul,Nat.reduceLeDiff,Nat.reduceLT,Nat.reduceBEq,reduceCtorEq]|refine zab ?_|refine zac (fun hb=> ?_) (fun hb=> ?_)|(refine And.intro ?_ ?_;exact zI)|refine And.intro (fun hg=> ?_) (fun hg=> ?_)|exact zC|fail)
   ·rw[show decide (s.sess[i].num≤s.num)=false by simp at hb⊢;omega]at hF
    rw[hrb,←hF]
    rfl
   ·exact hK _ (i+1) (Gh.canon [1] [] [] (by simp only[hw,zan,zaz,zao,zaq,zar,zas,List.set_cons_zero,List.set_cons_succ,and_true,true_and,Int.natCast_zero,Int.cast_ofNat_Int,D.v.injEq,Value.int.injEq];try(repeat'(first|rfl|omega|with_reducible apply And.intro))) rfl rfl) hi (by rw[List.drop_eq_getElem_cons hi,List.all_cons,show decide (s.sess[i].num≤s.num)=true by simp at hb⊢;omega,Bool.true_and]) (by omega)
  ·have hi:i=s.sess.length:=by
    have:¬(i:Int)<s.sess.length:=by simpa using hge
    omega
   rw[hi,List.drop_length,List.all_nil]at hF
   rw[←hF,Bool.true_and]at hrb
   repeat'(first|(with_reducible first|refine zaa _ _ ?_|refine zae ?_|refine zaf ?_)|rw[zad]|simp only[zY,Int.reduceEq,Int.reduceBEq,Int.reduceBNe,Nat.reduceSub,Nat.reduceEqDiff,Nat.reduceAdd,Nat.reduceMul,Nat.reduceLeDiff,Nat.reduceLT,Nat.reduceBEq,reduceCtorEq]|refine zab ?_|refine zac (fun hb=> ?_) (fun hb=> ?_)|(refine And.intro ?_ ?_;exact zI)|refine And.intro (fun hg=> ?_) (fun hg=> ?_)|exact zC|fail)
   refine zau (τ:=Nat) (fun i=>⟨[dd, .one (.ptr ⟨1,0,1⟩ 0),dd,dd,dd,dd,dd,dd,dd,dd,dd,dd,dd,dd,dd,dd,dd,dd,dd,dd,dd,dd,dd,dd,dd,dd,dd,dd,dd,dd,dd,dd,dd,dd,dd,dd,dd,dd,dd,dd,dd,dd,dd,dd,dd,dd,dd,dd,dd,dd,dd,dd,dd,dd,dd,al s.locks.length (locksE s.locks),ai s.locks.length,ai i,dd,dd,dd,dd,dd,dd,dd,dd,dd,dd,dd],[(1,{next:=2,l:=[some {e:=1,var:=true,fz:=false,sz:=0,cells:=[di s.time,di s.num,di s.token, .lent s.sess.length (sessE s.sess), .lent s.locks.length (locksE s.locks), .lent s.memos.length (memosE s.memos)]},none,none,none,none,none,none]}),(4,⟨2,[]⟩),(6,⟨2,[]⟩)]⟩)
    (fun i=>i≤s.locks.length) (fun i=>(s.locks.drop i).all fun k=>decide (k.token≤s.token)) (fun i=>s.locks.length - i) 0
    (Gh.canon [1] [6] [] zK rfl rfl) (Nat.zero_le _) ?_
   intro i hi0 hF K hK
   rw[List.drop_zero]at hF
   repeat(first|with_reducible refine zaa _ _ ?_|with_reducible refine And.imp_right (zaa _ _) ?_|with_reducible refine And.imp_right (And.imp_right (zaa _ _)) ?_|with_reducible refine And.imp_right (And.imp_right (And.imp_right (zaa _ _))) ?_|rw[zad]|simp only[zB,Nat.reduceSub,Nat.reduceEqDiff,Nat.reduceAdd,Nat.reduceMul,Nat.reduceLeDiff,Nat.reduceLT,Nat.reduceBEq,reduceCtorEq])
   refine zac (fun hlt=> ?_) (fun hge=> ?_)
   ·have hi:i<s.locks.length:=by simpa using hlt
    have hat:=zaG hi
    have hw:=zat hi (by omega)
    rw[List.drop_eq_getElem_cons hi,List.all_cons]at hF
    repeat'(first|(with_reducible first|refine zaa _ _ ?_|refine zae ?_|refine zaf ?_)|rw[zad]|simp only[hat,List.cons_append,List.nil_append,zam,zY,Int.reduceEq,Int.reduceBEq,Int.reduceBNe,Nat.reduceSub,Nat.reduceEqDiff,Nat.reduceAdd,Nat.reduceMul,Nat.reduceLeDiff,Nat.reduceLT,Nat.reduceBEq,reduceCtorEq]|refine zab ?_|refine zac (fun hb=> ?_) (fun hb=> ?_)|(refine And.intro ?_ ?_;exact zI)|refine And.intro (fun hg=> ?_) (fun hg=> ?_)|exact zC|fail)
    ·rw[show decide (s.locks[i].token≤s.token)=false by simp at hb⊢;omega]at hF
     rw[hrb,←hF]
     rfl
    ·exact hK _ (i+1) (Gh.canon [1] [] [] (by simp only[hw,zan,zaz,zao,zaq,zar,zas,List.set_cons_zero,List.set_cons_succ,and_true,true_and,Int.natCast_zero,Int.cast_ofNat_Int,D.v.injEq,Value.int.injEq];try(repeat'(first|rfl|omega|with_reducible apply And.intro))) rfl rfl) hi (by rw[List.drop_eq_getElem_cons hi,List.all_cons,show decide (s.locks[i].token≤s.token)=true by simp at hb⊢;omega,Bool.true_and]) (by omega)
   ·have hi:i=s.locks.length:=by
     have:¬(i:Int)<s.locks.length:=by simpa using hge
     omega
    rw[hi,List.drop_length,List.all_nil]at hF
    rw[←hF,Bool.true_and]at hrb
    rw[hrb]
    repeat'(first|(with_reducible first|refine zaa _ _ ?_|refine zae ?_|refine zaf ?_)|rw[zad]|simp only[zY,Int.reduceEq,Int.reduceBEq,Int.reduceBNe,Nat.reduceSub,Nat.reduceEqDiff,Nat.reduceAdd,Nat.reduceMul,Nat.reduceLeDiff,Nat.reduceLT,Nat.reduceBEq,reduceCtorEq]|((first|((try refine zai ?_);apply zaj)|(apply zah;intro _));(solve|exact(hse)|(refine CallOK.le (hse) ?_;exact zM)|fail);try case hn=>rfl)|refine zab ?_|refine zac (fun hb=> ?_) (fun hb=> ?_)|(refine And.intro ?_ ?_;exact zI)|refine And.intro (fun hg=> ?_) (fun hg=> ?_)|exact zC|fail)
 ·have hrb:rightB s=false:=by
   unfold rightB
   simp at hA
   simp
   intros
   simp_all
  rw[hrb]
  repeat'(first|(with_reducible first|refine zaa _ _ ?_|refine zae ?_|refine zaf ?_)|rw[zad]|simp only[hA,zY,Int.reduceEq,Int.reduceBEq,Int.reduceBNe,Nat.reduceSub,Nat.reduceEqDiff,Nat.reduceAdd,Nat.reduceMul,Nat.reduceLeDiff,Nat.reduceLT,Nat.reduceBEq,reduceCtorEq]|((first|((try refine zai ?_);apply zaj)|(apply zah;intro _));(solve|exact(w1)|exact(w2)|exact(w3)|exact(hsr)|exact(hlr)|exact(hmr)|(refine CallOK.le (w1) ?_;exact zM)|(refine CallOK.le (w2) ?_;exact zM)|(refine CallOK.le (w3) ?_;exact zM)|(refine CallOK.le (hsr) ?_;exact zM)|(refine CallOK.le (hlr) ?_;exact zM)|(refine CallOK.le (hmr) ?_;exact zM)|fail);try case hn=>rfl)|refine zab ?_|refine zac (fun hb=> ?_) (fun hb=> ?_)|(refine And.intro ?_ ?_;exact zI)|refine And.intro (fun hg=> ?_) (fun hg=> ?_)|exact zC|fail)
end Go.Proofs.YtniafckaafcpbaaGreat
