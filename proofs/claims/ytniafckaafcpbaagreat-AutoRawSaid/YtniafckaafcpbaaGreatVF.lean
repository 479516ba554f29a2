import Derived.Test.YtniafckaafcpbaaGreatVE
namespace Go.Proofs.YtniafckaafcpbaaGreat
open Go.Pk
set_option maxRecDepth 100000
set_option linter.unusedSimpArgs false
set_option linter.unusedVariables false
theorem zjS {l:List Lk} {name:ByteArray} {c t:Int} {w:Bool} (h:((takeP l name c t w).2.2==10)=false):(takeP l name c t w).2.1=0:=by
 revert h
 unfold takeP
 cases findL l name with
 |none=>simp only;split<;>intros<;>rfl
 |some k=>
  simp only
  repeat' split
  all_goals first|(intros;rfl)|(intro h;cases h)
set_option maxHeartbeats 8000000 in
theorem zmw (s:St) (h:Small s) (hr:RightS s) (r:Req) (hro:r.ok) (hm:Req.may r=true):CallOK Tryz.prog 48 [.f (stAV s), .f (.agg (r.enc.map C.d))]
  (fun x o=>x=[stRF (doneP s r).1,replyRF (doneP s r).2]∧o=[]):=by
 refine CallOK.nil ?_
 refine zak zaA mixed (T:=Ty) (n:=147) Tryz.func48 (c:=Tryz.f48.body.getD .skip) rfl Tryz.results48 Tryz.ntmps48 Tryz.call48 ?_
 simp only[Tryz.f48,Option.getD]
 obtain⟨hc,_,hnm⟩:=zeD hm
 have hfi:=zca s.sess (by have:=h.sess;omega) r.client
 have hT:=hr.token
 have hH:High=2^61:=by decide
 have hll:∀k∈s.locks,k.line.length<2^30:=fun k hk=>(h.line k hk).1
 have hl3:∀k∈s.locks,k.line.length≤3:=fun k hk=>(za7.1 (hr.lok k hk).2.2.1).1
 have hlf:∀k∈s.locks,k.line.length<2^30∧k.line.Nodup:=fun k hk=>⟨hll k hk,zdv hr k hk⟩
 cases h1:r.kind==1
 ·cases hf:findS s.sess r.client with
  |none=>
   rw[hf]at hfi
   simp only[Option.isSome_none,Option.getD_none]at hfi
   have hd:doneP s r=(s,⟨9,0,0,[]⟩):=by unfold doneP;rw[if_neg (by rw[h1];simp),hf]
   rw[hd]
   repeat'(first|(with_reducible first|refine zaa _ _ ?_|refine zae ?_|refine zaf ?_)|rw[zad]|simp only[h1,zY,Int.reduceEq,Int.reduceBEq,Int.reduceBNe,Nat.reduceSub,Nat.reduceEqDiff,Nat.reduceAdd,Nat.reduceMul,Nat.reduceLeDiff,Nat.reduceLT,Nat.reduceBEq,reduceCtorEq]|((first|((try refine zai ?_);apply zaj)|(apply zah;intro _));(solve|exact(hfi)|(refine CallOK.le (hfi) ?_;exact zM)|fail);try case hn=>rfl)|refine zab ?_|refine zac (fun hb=> ?_) (fun hb=> ?_)|(refine And.intro ?_ ?_;exact zI)|refine And.intro (fun hg=> ?_) (fun hg=> ?_)|exact zC|fail)
   all_goals simp[rfsLe,rfLe,rosLe,roLe]
  |some x=>
   rw[hf]at hfi
   simp only[Option.isSome_some,Option.getD_some]at hfi
   cases hx:x.num !=r.session
   ·have hrn:=zlr s.sess hr.ss h.sess r.client s.time hr.time (by rw[hf];rfl)
    have hwt:IntKind.i64.wrap (s.token+1)=s.token+1:=wrap64 (by omega) (by omega)
    obtain⟨hrf,hrl⟩:=zjT hr hf
    obtain⟨S1,hS1⟩:∃S1,S1=(renewP s.sess r.client s.time).1:=⟨_,rfl⟩
    rw[←hS1]at hrf hrl
    have hsm:∀(t:Int) (L:List Lk),L.length<2^30→(∀k∈L,k.line.length<2^30∧k.name.size<2^62)→Small ⟨s.time,s.num,t,S1,L,s.memos⟩:=fun t L h1 h2=>⟨by simp only;have:=h.sess;omega,h1,h.memos,h2,h.held⟩
    have hto:∀(t:Int) (L:List Lk) (code ahead:Int),L.length<2^30→(∀k∈L,k.line.length<2^30∧k.name.size<2^62)→CallOK Tryz.prog 87 [.f (stAV ⟨s.time,s.num,t,S1,L,s.memos⟩), .f (ai r.client), .f (ai code), .f (ai ahead)]
      (fun y o=>y=[replyRF ⟨code,x.num,ahead,heldP L r.client⟩]∧o=[]):=fun t L code ahead h1 h2=>by
     have:=zgA ⟨s.time,s.num,t,S1,L,s.memos⟩ (hsm t L h1 h2) r.client code ahead
     simp only[hrf]at this
     exact this
    have hd0:doneP s r=if(r.kind==3||r.kind==4)=true then
      (if((takeP s.locks r.name r.client s.token (r.kind==3)).2.2==0)=true then(⟨s.time,s.num,s.token+1,S1,(takeP s.locks r.name r.client s.token (r.kind==3)).1,s.memos⟩,⟨(takeP s.locks r.name r.client s.token (r.kind==3)).2.2,x.num,0,heldP (takeP s.locks r.name r.client s.token (r.kind==3)).1 r.client⟩)
      else if((takeP s.locks r.name r.client s.token (r.kind==3)).2.2==10)=true then(⟨s.time,s.num,s.token,S1,(takeP s.locks r.name r.client s.token (r.kind==3)).1,s.memos⟩,⟨(takeP s.locks r.name r.client s.token (r.kind==3)).2.2,x.num,(takeP s.locks r.name r.client s.token (r.kind==3)).2.1,heldP (takeP s.locks r.name r.client s.token (r.kind==3)).1 r.client⟩)
      else(⟨s.time,s.num,s.token,S1,s.locks,s.memos⟩,⟨(takeP s.locks r.name r.client s.token (r.kind==3)).2.2,x.num,0,heldP s.locks r.client⟩))
     else if(r.kind==5)=true then
      (if((freeP s.locks r.name r.client s.token).2.2==0)=true then(⟨s.time,s.num,s.token+(freeP s.locks r.name r.client s.token).2.1,S1,(freeP s.locks r.name r.client s.token).1,s.memos⟩,⟨(freeP s.locks r.name r.client s.token).2.2,x.num,0,heldP (freeP s.locks r.name r.client s.token).1 r.client⟩)
      else(⟨s.time,s.num,s.token,S1,s.locks,s.memos⟩,⟨(freeP s.locks r.name r.client s.token).2.2,x.num,0,heldP s.locks r.client⟩))
     else if(r.kind==6)=true then(withoutSt ⟨s.time,s.num,s.token,S1,s.locks,s.memos⟩ [r.client],⟨0,0,0,[]⟩)
     else(⟨s.time,s.num,s.token,S1,s.locks,s.memos⟩,⟨0,x.num,0,heldP s.locks r.client⟩):=by
     rw[hS1]
     unfold doneP
     rw[if_neg (by rw[h1];simp),hf]
     simp only
     rw[if_neg (by rw[hx];simp)]
     split
     ·by_cases e0:(takeP s.locks r.name r.client s.token (r.kind==3)).2.2=0
      ·rw[if_pos e0,if_neg (by rw[e0];decide),if_pos (by simpa using e0)]
      ·by_cases e10:(takeP s.locks r.name r.client s.token (r.kind==3)).2.2=10
       ·rw[if_neg e0,if_pos e10,if_pos e10,if_neg (by simpa using e0),if_pos (by simpa using e10)]
       ·rw[if_neg e0,if_neg e10,if_neg e10,if_neg (by simpa using e0),if_neg (by simpa using e10)]
     ·split
      ·by_cases e0:(freeP s.locks r.name r.client s.token).2.2=0
       ·rw[if_pos e0,if_pos (by simpa using e0)]
       ·rw[if_neg e0,if_neg (by simpa using e0)]
      ·rfl
    rw[←hS1]at hrn
    have htl:=zgH s.locks r.name r.client s.token (r.kind==3)
    have hfl:=zgI s.locks r.name r.client s.token
    have hnl:=hr.ll
    have htn:=zjU (name:=r.name) (c:=r.client) (t:=s.token) (w:=r.kind==3) h.line hr.ls hl3 hro.2.2.2.2
    have hfn:=zjV (name:=r.name) (c:=r.client) (t:=s.token) h.line hr.ls
    have hta:=zmC s.locks hr.ls h.locks hll r.name r.client s.token (by omega) hc (r.kind==3)
    have hfr:=zi9 s.locks hr.ls h.locks hlf r.name r.client s.token (by omega)
    have htz:=zjS (l:=s.locks) (name:=r.name) (c:=r.client) (t:=s.token) (w:=r.kind==3)
    cases h3:r.kind==3
    ·rw[h3]at hta htl htn htz
     rw[h3,Bool.false_or]at hd0
     cases h4:r.kind==4
     ·rw[h4,if_neg (by simp)]at hd0
      cases h5:r.kind==5
      ·rw[h5,if_neg (by simp)]at hd0
       cases h6:r.kind==6
       ·rw[h6,if_neg (by simp)]at hd0
        rw[hd0]
        have ht1:=hto s.token s.locks 0 0 h.locks h.line
        repeat'(first|(with_reducible first|refine zaQ 8 ?_|refine zaI 8 ?_|refine zaJ 8 ?_)|(with_reducible first|refine zaa _ _ ?_|refine zae ?_|refine zaf ?_)|rw[zad]|simp only[h1,hx,h3,h4,h5,h6,zY,Int.reduceEq,Int.reduceBEq,Int.reduceBNe,Nat.reduceSub,Nat.reduceEqDiff,Nat.reduceAdd,Nat.reduceMul,Nat.reduceLeDiff,Nat.reduceLT,Nat.reduceBEq,reduceCtorEq]|((first|((try refine zai ?_);apply zaj)|(apply zah;intro _));(solve|exact(hfi)|exact(hrn)|(refine CallOK.le (hfi) ?_;exact zM)|(refine CallOK.le (hrn) ?_;exact zM)|fail);try case hn=>rfl)|refine zab ?_|refine zac (fun hb=> ?_) (fun hb=> ?_)|(refine And.intro ?_ ?_;exact zI)|refine And.intro (fun hg=> ?_) (fun hg=> ?_)|exact zC|fail)
        refine zaO (zaM (Gh.sealF 2 3 (.own ⟨2,4,7⟩ 0 S1.length) ?_) ?_)
        ·simp only[sealFOK,zY,Nat.reduceSub,Nat.reduceEqDiff,Nat.reduceAdd,Nat.reduceMul,Nat.reduceLeDiff,Nat.reduceLT,Nat.reduceBEq,reduceCtorEq]
        simp only[sealFR,zY,Nat.reduceSub,Nat.reduceEqDiff,Nat.reduceAdd,Nat.reduceMul,Nat.reduceLeDiff,Nat.reduceLT,Nat.reduceBEq,reduceCtorEq]
        repeat'(first|(with_reducible first|refine zaa _ _ ?_|refine zae ?_|refine zaf ?_)|rw[zad]|simp only[h1,hx,h3,h4,h5,h6,zY,Int.reduceEq,Int.reduceBEq,Int.reduceBNe,Nat.reduceSub,Nat.reduceEqDiff,Nat.reduceAdd,Nat.reduceMul,Nat.reduceLeDiff,Nat.reduceLT,Nat.reduceBEq,reduceCtorEq]|((first|((try refine zai ?_);apply zaj)|(apply zah;intro _));(solve|exact(ht1)|(refine CallOK.le (ht1) ?_;exact zM)|fail);try case hn=>rfl)|refine zab ?_|refine zac (fun hb=> ?_) (fun hb=> ?_)|(refine And.intro ?_ ?_;exact zI)|refine And.intro (fun hg=> ?_) (fun hg=> ?_)|exact zC|fail)
        simp[rfsLe,rfLe,rosLe,roLe]
       ·rw[h6,if_pos rfl]at hd0
        rw[hd0]
        have hwo:=zhO ⟨s.time,s.num,s.token,S1,s.locks,s.memos⟩ (hsm s.token s.locks h.locks h.line) hr.ls (fun k hk=>zdv hr k hk) hr.token [r.client] (by simp)
        repeat'(first|(with_reducible first|refine zaQ 8 ?_|refine zaI 8 ?_|refine zaJ 8 ?_)|(with_reducible first|refine zaa _ _ ?_|refine zae ?_|refine zaf ?_)|rw[zad]|simp only[h1,hx,h3,h4,h5,h6,zY,Int.reduceEq,Int.reduceBEq,Int.reduceBNe,Nat.reduceSub,Nat.reduceEqDiff,Nat.reduceAdd,Nat.reduceMul,Nat.reduceLeDiff,Nat.reduceLT,Nat.reduceBEq,reduceCtorEq]|((first|((try refine zai ?_);apply zaj)|(apply zah;intro _));(solve|exact(hfi)|exact(hrn)|(refine CallOK.le (hfi) ?_;exact zM)|(refine CallOK.le (hrn) ?_;exact zM)|fail);try case hn=>rfl)|refine zab ?_|refine zac (fun hb=> ?_) (fun hb=> ?_)|(refine And.intro ?_ ?_;exact zI)|refine And.intro (fun hg=> ?_) (fun hg=> ?_)|exact zC|fail)
        refine zaO (zaM (Gh.sealF 2 3 (.own ⟨2,4,7⟩ 0 S1.length) ?_) ?_)
        ·simp only[sealFOK,zY,Nat.reduceSub,Nat.reduceEqDiff,Nat.reduceAdd,Nat.reduceMul,Nat.reduceLeDiff,Nat.reduceLT,Nat.reduceBEq,reduceCtorEq]
        simp only[sealFR,zY,Nat.reduceSub,Nat.reduceEqDiff,Nat.reduceAdd,Nat.reduceMul,Nat.reduceLeDiff,Nat.reduceLT,Nat.reduceBEq,reduceCtorEq]
        repeat'(first|(with_reducible first|refine zaa _ _ ?_|refine zae ?_|refine zaf ?_)|rw[zad]|simp only[h1,hx,h3,h4,h5,h6,zY,Int.reduceEq,Int.reduceBEq,Int.reduceBNe,Nat.reduceSub,Nat.reduceEqDiff,Nat.reduceAdd,Nat.reduceMul,Nat.reduceLeDiff,Nat.reduceLT,Nat.reduceBEq,reduceCtorEq]|((first|((try refine zai ?_);apply zaj)|(apply zah;intro _));(solve|exact(hwo)|(refine CallOK.le (hwo) ?_;exact zM)|fail);try case hn=>rfl)|refine zab ?_|refine zac (fun hb=> ?_) (fun hb=> ?_)|(refine And.intro ?_ ?_;exact zI)|refine And.intro (fun hg=> ?_) (fun hg=> ?_)|exact zC|fail)
        simp[rfsLe,rfLe,rosLe,roLe]
      ·rw[h5,if_pos rfl]at hd0
       have hgi:=zgJ s.locks r.name r.client s.token
       generalize hT0:freeP s.locks r.name r.client s.token=T at*
       cases e0:T.2.2==0
       ·rw[e0,if_neg (by simp)]at hd0
        rw[hd0]
        have ht1:=hto s.token s.locks T.2.2 0 h.locks h.line
        repeat'(first|(with_reducible first|refine zaQ 8 ?_|refine zaI 8 ?_|refine zaJ 8 ?_)|(with_reducible first|refine zaa _ _ ?_|refine zae ?_|refine zaf ?_)|rw[zad]|simp only[h1,hx,h3,h4,h5,e0,zY,Int.reduceEq,Int.reduceBEq,Int.reduceBNe,Nat.reduceSub,Nat.reduceEqDiff,Nat.reduceAdd,Nat.reduceMul,Nat.reduceLeDiff,Nat.reduceLT,Nat.reduceBEq,reduceCtorEq]|((first|((try refine zai ?_);apply zaj)|(apply zah;intro _));(solve|exact(hfi)|exact(hrn)|(refine CallOK.le (hfi) ?_;exact zM)|(refine CallOK.le (hrn) ?_;exact zM)|fail);try case hn=>rfl)|refine zab ?_|refine zac (fun hb=> ?_) (fun hb=> ?_)|(refine And.intro ?_ ?_;exact zI)|refine And.intro (fun hg=> ?_) (fun hg=> ?_)|exact zC|fail)
        refine zaO (zaM (Gh.sealF 2 3 (.own ⟨2,4,7⟩ 0 S1.length) ?_) ?_)
        ·simp only[sealFOK,zY,Nat.reduceSub,Nat.reduceEqDiff,Nat.reduceAdd,Nat.reduceMul,Nat.reduceLeDiff,Nat.reduceLT,Nat.reduceBEq,reduceCtorEq]
        simp only[sealFR,zY,Nat.reduceSub,Nat.reduceEqDiff,Nat.reduceAdd,Nat.reduceMul,Nat.reduceLeDiff,Nat.reduceLT,Nat.reduceBEq,reduceCtorEq]
        repeat'(first|(with_reducible first|refine zaa _ _ ?_|refine zae ?_|refine zaf ?_)|rw[zad]|simp only[h1,hx,h3,h4,h5,e0,zY,Int.reduceEq,Int.reduceBEq,Int.reduceBNe,Nat.reduceSub,Nat.reduceEqDiff,Nat.reduceAdd,Nat.reduceMul,Nat.reduceLeDiff,Nat.reduceLT,Nat.reduceBEq,reduceCtorEq]|((first|((try refine zai ?_);apply zaj)|(apply zah;intro _));(solve|exact(hfr)|exact(ht1)|(refine CallOK.le (hfr) ?_;exact zM)|(refine CallOK.le (ht1) ?_;exact zM)|fail);try case hn=>rfl)|refine zab ?_|refine zac (fun hb=> ?_) (fun hb=> ?_)|(refine And.intro ?_ ?_;exact zI)|refine And.intro (fun hg=> ?_) (fun hg=> ?_)|exact zC|fail)
        simp[rfsLe,rfLe,rosLe,roLe]
       ·rw[e0,if_pos rfl]at hd0
        have hwf:IntKind.i64.wrap (s.token+T.2.1)=s.token+T.2.1:=wrap64 (by omega) (by omega)
        rw[hd0]
        have ht1:=hto (s.token+T.2.1) T.1 T.2.2 0 (by omega) hfn
        repeat'(first|(with_reducible first|refine zaQ 8 ?_|refine zaI 8 ?_|refine zaJ 8 ?_)|(with_reducible first|refine zaa _ _ ?_|refine zae ?_|refine zaf ?_)|rw[zad]|simp only[h1,hx,h3,h4,h5,e0,zY,Int.reduceEq,Int.reduceBEq,Int.reduceBNe,Nat.reduceSub,Nat.reduceEqDiff,Nat.reduceAdd,Nat.reduceMul,Nat.reduceLeDiff,Nat.reduceLT,Nat.reduceBEq,reduceCtorEq]|((first|((try refine zai ?_);apply zaj)|(apply zah;intro _));(solve|exact(hfi)|exact(hrn)|(refine CallOK.le (hfi) ?_;exact zM)|(refine CallOK.le (hrn) ?_;exact zM)|fail);try case hn=>rfl)|refine zab ?_|refine zac (fun hb=> ?_) (fun hb=> ?_)|(refine And.intro ?_ ?_;exact zI)|refine And.intro (fun hg=> ?_) (fun hg=> ?_)|exact zC|fail)
        refine zaO (zaM (Gh.sealF 2 3 (.own ⟨2,4,7⟩ 0 S1.length) ?_) ?_)
        ·simp only[sealFOK,zY,Nat.reduceSub,Nat.reduceEqDiff,Nat.reduceAdd,Nat.reduceMul,Nat.reduceLeDiff,Nat.reduceLT,Nat.reduceBEq,reduceCtorEq]
        simp only[sealFR,zY,Nat.reduceSub,Nat.reduceEqDiff,Nat.reduceAdd,Nat.reduceMul,Nat.reduceLeDiff,Nat.reduceLT,Nat.reduceBEq,reduceCtorEq]
        repeat'(first|(with_reducible first|refine zaQ 22 ?_|refine zaI 22 ?_|refine zaJ 22 ?_)|(with_reducible first|refine zaa _ _ ?_|refine zae ?_|refine zaf ?_)|rw[zad]|simp only[h1,hx,h3,h4,h5,e0,hwf,zY,Int.reduceEq,Int.reduceBEq,Int.reduceBNe,Nat.reduceSub,Nat.reduceEqDiff,Nat.reduceAdd,Nat.reduceMul,Nat.reduceLeDiff,Nat.reduceLT,Nat.reduceBEq,reduceCtorEq]|((first|((try refine zai ?_);apply zaj)|(apply zah;intro _));(solve|exact(hfr)|(refine CallOK.le (hfr) ?_;exact zM)|fail);try case hn=>rfl)|refine zab ?_|refine zac (fun hb=> ?_) (fun hb=> ?_)|(refine And.intro ?_ ?_;exact zI)|refine And.intro (fun hg=> ?_) (fun hg=> ?_)|exact zC|fail)
        refine zaO (zaM (Gh.sealF 2 4 (.own ⟨2,5,8⟩ 0 T.1.length) ?_) ?_)
        ·simp only[sealFOK,zY,Nat.reduceSub,Nat.reduceEqDiff,Nat.reduceAdd,Nat.reduceMul,Nat.reduceLeDiff,Nat.reduceLT,Nat.reduceBEq,reduceCtorEq]
        simp only[sealFR,zY,Nat.reduceSub,Nat.reduceEqDiff,Nat.reduceAdd,Nat.reduceMul,Nat.reduceLeDiff,Nat.reduceLT,Nat.reduceBEq,reduceCtorEq]
        repeat'(first|(with_reducible first|refine zaa _ _ ?_|refine zae ?_|refine zaf ?_)|rw[zad]|simp only[h1,hx,h3,h4,h5,e0,hwf,zY,Int.reduceEq,Int.reduceBEq,Int.reduceBNe,Nat.reduceSub,Nat.reduceEqDiff,Nat.reduceAdd,Nat.reduceMul,Nat.reduceLeDiff,Nat.reduceLT,Nat.reduceBEq,reduceCtorEq]|((first|((try refine zai ?_);apply zaj)|(apply zah;intro _));(solve|exact(ht1)|(refine CallOK.le (ht1) ?_;exact zM)|fail);try case hn=>rfl)|refine zab ?_|refine zac (fun hb=> ?_) (fun hb=> ?_)|(refine And.intro ?_ ?_;exact zI)|refine And.intro (fun hg=> ?_) (fun hg=> ?_)|exact zC|fail)
        simp[rfsLe,rfLe,rosLe,roLe]
     ·rw[h4,if_pos rfl]at hd0
      generalize hT0:takeP s.locks r.name r.client s.token false=T at*
      cases e0:T.2.2==0
      ·cases e10:T.2.2==10
       ·rw[e0,if_neg (by simp),e10,if_neg (by simp)]at hd0
        rw[hd0]
        have ht1:=hto s.token s.locks T.2.2 0 h.locks h.line
        have hz:=htz e10
        rw[hz]at hta
        repeat'(first|(with_reducible first|refine zaQ 8 ?_|refine zaI 8 ?_|refine zaJ 8 ?_)|(with_reducible first|refine zaa _ _ ?_|refine zae ?_|refine zaf ?_)|rw[zad]|simp only[h1,hx,h3,h4,e0,e10,zY,Int.reduceEq,Int.reduceBEq,Int.reduceBNe,Nat.reduceSub,Nat.reduceEqDiff,Nat.reduceAdd,Nat.reduceMul,Nat.reduceLeDiff,Nat.reduceLT,Nat.reduceBEq,reduceCtorEq]|((first|((try refine zai ?_);apply zaj)|(apply zah;intro _));(solve|exact(hfi)|exact(hrn)|(refine CallOK.le (hfi) ?_;exact zM)|(refine CallOK.le (hrn) ?_;exact zM)|fail);try case hn=>rfl)|refine zab ?_|refine zac (fun hb=> ?_) (fun hb=> ?_)|(refine And.intro ?_ ?_;exact zI)|refine And.intro (fun hg=> ?_) (fun hg=> ?_)|exact zC|fail)
        refine zaO (zaM (Gh.sealF 2 3 (.own ⟨2,4,7⟩ 0 S1.length) ?_) ?_)
        ·simp only[sealFOK,zY,Nat.reduceSub,Nat.reduceEqDiff,Nat.reduceAdd,Nat.reduceMul,Nat.reduceLeDiff,Nat.reduceLT,Nat.reduceBEq,reduceCtorEq]
        simp only[sealFR,zY,Nat.reduceSub,Nat.reduceEqDiff,Nat.reduceAdd,Nat.reduceMul,Nat.reduceLeDiff,Nat.reduceLT,Nat.reduceBEq,reduceCtorEq]
        repeat'(first|(with_reducible first|refine zaa _ _ ?_|refine zae ?_|refine zaf ?_)|rw[zad]|simp only[h1,hx,h3,h4,e0,e10,hwt,zY,Int.reduceEq,Int.reduceBEq,Int.reduceBNe,Nat.reduceSub,Nat.reduceEqDiff,Nat.reduceAdd,Nat.reduceMul,Nat.reduceLeDiff,Nat.reduceLT,Nat.reduceBEq,reduceCtorEq]|((first|((try refine zai ?_);apply zaj)|(apply zah;intro _));(solve|exact(hta)|exact(ht1)|(refine CallOK.le (hta) ?_;exact zM)|(refine CallOK.le (ht1) ?_;exact zM)|fail);try case hn=>rfl)|refine zab ?_|refine zac (fun hb=> ?_) (fun hb=> ?_)|(refine And.intro ?_ ?_;exact zI)|refine And.intro (fun hg=> ?_) (fun hg=> ?_)|exact zC|fail)
        simp[rfsLe,rfLe,rosLe,roLe]
       ·rw[e0,if_neg (by simp),e10,if_pos rfl]at hd0
        rw[hd0]
        have ht1:=hto s.token T.1 T.2.2 T.2.1 (by omega) htn
        repeat'(first|(with_reducible first|refine zaQ 8 ?_|refine zaI 8 ?_|refine zaJ 8 ?_)|(with_reducible first|refine zaa _ _ ?_|refine zae ?_|refine zaf ?_)|rw[zad]|simp only[h1,hx,h3,h4,e0,e10,zY,Int.reduceEq,Int.reduceBEq,Int.reduceBNe,Nat.reduceSub,Nat.reduceEqDiff,Nat.reduceAdd,Nat.reduceMul,Nat.reduceLeDiff,Nat.reduceLT,Nat.reduceBEq,reduceCtorEq]|((first|((try refine zai ?_);apply zaj)|(apply zah;intro _));(solve|exact(hfi)|exact(hrn)|(refine CallOK.le (hfi) ?_;exact zM)|(refine CallOK.le (hrn) ?_;exact zM)|fail);try case hn=>rfl)|refine zab ?_|refine zac (fun hb=> ?_) (fun hb=> ?_)|(refine And.intro ?_ ?_;exact zI)|refine And.intro (fun hg=> ?_) (fun hg=> ?_)|exact zC|fail)
        refine zaO (zaM (Gh.sealF 2 3 (.own ⟨2,4,7⟩ 0 S1.length) ?_) ?_)
        ·simp only[sealFOK,zY,Nat.reduceSub,Nat.reduceEqDiff,Nat.reduceAdd,Nat.reduceMul,Nat.reduceLeDiff,Nat.reduceLT,Nat.reduceBEq,reduceCtorEq]
        simp only[sealFR,zY,Nat.reduceSub,Nat.reduceEqDiff,Nat.reduceAdd,Nat.reduceMul,Nat.reduceLeDiff,Nat.reduceLT,Nat.reduceBEq,reduceCtorEq]
        repeat'(first|(with_reducible first|refine zaQ 16 ?_|refine zaI 16 ?_|refine zaJ 16 ?_)|(with_reducible first|refine zaa _ _ ?_|refine zae ?_|refine zaf ?_)|rw[zad]|simp only[h1,hx,h3,h4,e0,e10,hwt,zY,Int.reduceEq,Int.reduceBEq,Int.reduceBNe,Nat.reduceSub,Nat.reduceEqDiff,Nat.reduceAdd,Nat.reduceMul,Nat.reduceLeDiff,Nat.reduceLT,Nat.reduceBEq,reduceCtorEq]|((first|((try refine zai ?_);apply zaj)|(apply zah;intro _));(solve|exact(hta)|(refine CallOK.le (hta) ?_;exact zM)|fail);try case hn=>rfl)|refine zab ?_|refine zac (fun hb=> ?_) (fun hb=> ?_)|(refine And.intro ?_ ?_;exact zI)|refine And.intro (fun hg=> ?_) (fun hg=> ?_)|exact zC|fail)
        refine zaO (zaM (Gh.sealF 2 4 (.own ⟨2,5,8⟩ 0 T.1.length) ?_) ?_)
        ·simp only[sealFOK,zY,Nat.reduceSub,Nat.reduceEqDiff,Nat.reduceAdd,Nat.reduceMul,Nat.reduceLeDiff,Nat.reduceLT,Nat.reduceBEq,reduceCtorEq]
        simp only[sealFR,zY,Nat.reduceSub,Nat.reduceEqDiff,Nat.reduceAdd,Nat.reduceMul,Nat.reduceLeDiff,Nat.reduceLT,Nat.reduceBEq,reduceCtorEq]
        repeat'(first|(with_reducible first|refine zaa _ _ ?_|refine zae ?_|refine zaf ?_)|rw[zad]|simp only[h1,hx,h3,h4,e0,e10,hwt,zY,Int.reduceEq,Int.reduceBEq,Int.reduceBNe,Nat.reduceSub,Nat.reduceEqDiff,Nat.reduceAdd,Nat.reduceMul,Nat.reduceLeDiff,Nat.reduceLT,Nat.reduceBEq,reduceCtorEq]|((first|((try refine zai ?_);apply zaj)|(apply zah;intro _));(solve|exact(ht1)|(refine CallOK.le (ht1) ?_;exact zM)|fail);try case hn=>rfl)|refine zab ?_|refine zac (fun hb=> ?_) (fun hb=> ?_)|(refine And.intro ?_ ?_;exact zI)|refine And.intro (fun hg=> ?_) (fun hg=> ?_)|exact zC|fail)
        simp[rfsLe,rfLe,rosLe,roLe]
      ·rw[e0,if_pos rfl]at hd0
       rw[hd0]
       have ht1:=hto (s.token+1) T.1 T.2.2 0 (by omega) htn
       have hz:=htz (by have:T.2.2=0:=(by simpa using e0);rw[this];rfl)
       rw[hz]at hta
       repeat'(first|(with_reducible first|refine zaQ 8 ?_|refine zaI 8 ?_|refine zaJ 8 ?_)|(with_reducible first|refine zaa _ _ ?_|refine zae ?_|refine zaf ?_)|rw[zad]|simp only[h1,hx,h3,h4,e0,zY,Int.reduceEq,Int.reduceBEq,Int.reduceBNe,Nat.reduceSub,Nat.reduceEqDiff,Nat.reduceAdd,Nat.reduceMul,Nat.reduceLeDiff,Nat.reduceLT,Nat.reduceBEq,reduceCtorEq]|((first|((try refine zai ?_);apply zaj)|(apply zah;intro _));(solve|exact(hfi)|exact(hrn)|(refine CallOK.le (hfi) ?_;exact zM)|(refine CallOK.le (hrn) ?_;exact zM)|fail);try case hn=>rfl)|refine zab ?_|refine zac (fun hb=> ?_) (fun hb=> ?_)|(refine And.intro ?_ ?_;exact zI)|refine And.intro (fun hg=> ?_) (fun hg=> ?_)|exact zC|fail)
       refine zaO (zaM (Gh.sealF 2 3 (.own ⟨2,4,7⟩ 0 S1.length) ?_) ?_)
       ·simp only[sealFOK,zY,Nat.reduceSub,Nat.reduceEqDiff,Nat.reduceAdd,Nat.reduceMul,Nat.reduceLeDiff,Nat.reduceLT,Nat.reduceBEq,reduceCtorEq]
       simp only[sealFR,zY,Nat.reduceSub,Nat.reduceEqDiff,Nat.reduceAdd,Nat.reduceMul,Nat.reduceLeDiff,Nat.reduceLT,Nat.reduceBEq,reduceCtorEq]
       repeat'(first|(with_reducible first|refine zaQ 16 ?_|refine zaI 16 ?_|refine zaJ 16 ?_)|(with_reducible first|refine zaa _ _ ?_|refine zae ?_|refine zaf ?_)|rw[zad]|simp only[h1,hx,h3,h4,e0,hwt,zY,Int.reduceEq,Int.reduceBEq,Int.reduceBNe,Nat.reduceSub,Nat.reduceEqDiff,Nat.reduceAdd,Nat.reduceMul,Nat.reduceLeDiff,Nat.reduceLT,Nat.reduceBEq,reduceCtorEq]|((first|((try refine zai ?_);apply zaj)|(apply zah;intro _));(solve|exact(hta)|(refine CallOK.le (hta) ?_;exact zM)|fail);try case hn=>rfl)|refine zab ?_|refine zac (fun hb=> ?_) (fun hb=> ?_)|(refine And.intro ?_ ?_;exact zI)|refine And.intro (fun hg=> ?_) (fun hg=> ?_)|exact zC|fail)
       refine zaO (zaM (Gh.sealF 2 4 (.own ⟨2,5,8⟩ 0 T.1.length) ?_) ?_)
       ·simp only[sealFOK,zY,Nat.reduceSub,Nat.reduceEqDiff,Nat.reduceAdd,Nat.reduceMul,Nat.reduceLeDiff,Nat.reduceLT,Nat.reduceBEq,reduceCtorEq]
       simp only[sealFR,zY,Nat.reduceSub,Nat.reduceEqDiff,Nat.reduceAdd,Nat.reduceMul,Nat.reduceLeDiff,Nat.reduceLT,Nat.reduceBEq,reduceCtorEq]
       repeat'(first|(with_reducible first|refine zaa _ _ ?_|refine zae ?_|refine zaf ?_)|rw[zad]|simp only[h1,hx,h3,h4,e0,hwt,zY,Int.reduceEq,Int.reduceBEq,Int.reduceBNe,Nat.reduceSub,Nat.reduceEqDiff,Nat.reduceAdd,Nat.reduceMul,Nat.reduceLeDiff,Nat.reduceLT,Nat.reduceBEq,reduceCtorEq]|((first|((try refine zai ?_);apply zaj)|(apply zah;intro _));(solve|exact(ht1)|(refine CallOK.le (ht1) ?_;exact zM)|fail);try case hn=>rfl)|refine zab ?_|refine zac (fun hb=> ?_) (fun hb=> ?_)|(refine And.intro ?_ ?_;exact zI)|refine And.intro (fun hg=> ?_) (fun hg=> ?_)|exact zC|fail)
       simp[rfsLe,rfLe,rosLe,roLe]
    ·rw[h3]at hta htl htn htz
     rw[h3,Bool.true_or,if_pos rfl]at hd0
     generalize hT0:takeP s.locks r.name r.client s.token true=T at*
     cases e0:T.2.2==0
     ·cases e10:T.2.2==10
      ·rw[e0,if_neg (by simp),e10,if_neg (by simp)]at hd0
       rw[hd0]
       have ht1:=hto s.token s.locks T.2.2 0 h.locks h.line
       have hz:=htz e10
       rw[hz]at hta
       repeat'(first|(with_reducible first|refine zaQ 8 ?_|refine zaI 8 ?_|refine zaJ 8 ?_)|(with_reducible first|refine zaa _ _ ?_|refine zae ?_|refine zaf ?_)|rw[zad]|simp only[h1,hx,h3,e0,e10,zY,Int.reduceEq,Int.reduceBEq,Int.reduceBNe,Nat.reduceSub,Nat.reduceEqDiff,Nat.reduceAdd,Nat.reduceMul,Nat.reduceLeDiff,Nat.reduceLT,Nat.reduceBEq,reduceCtorEq]|((first|((try refine zai ?_);apply zaj)|(apply zah;intro _));(solve|exact(hfi)|exact(hrn)|(refine CallOK.le (hfi) ?_;exact zM)|(refine CallOK.le (hrn) ?_;exact zM)|fail);try case hn=>rfl)|refine zab ?_|refine zac (fun hb=> ?_) (fun hb=> ?_)|(refine And.intro ?_ ?_;exact zI)|refine And.intro (fun hg=> ?_) (fun hg=> ?_)|exact zC|fail)
       refine zaO (zaM (Gh.sealF 2 3 (.own ⟨2,4,7⟩ 0 S1.length) ?_) ?_)
       ·simp only[sealFOK,zY,Nat.reduceSub,Nat.reduceEqDiff,Nat.reduceAdd,Nat.reduceMul,Nat.reduceLeDiff,Nat.reduceLT,Nat.reduceBEq,reduceCtorEq]
       simp only[sealFR,zY,Nat.reduceSub,Nat.reduceEqDiff,Nat.reduceAdd,Nat.reduceMul,Nat.reduceLeDiff,Nat.reduceLT,Nat.reduceBEq,reduceCtorEq]
       repeat'(first|(with_reducible first|refine zaa _ _ ?_|refine zae ?_|refine zaf ?_)|rw[zad]|simp only[h1,hx,h3,e0,e10,hwt,zY,Int.reduceEq,Int.reduceBEq,Int.reduceBNe,Nat.reduceSub,Nat.reduceEqDiff,Nat.reduceAdd,Nat.reduceMul,Nat.reduceLeDiff,Nat.reduceLT,Nat.reduceBEq,reduceCtorEq]|((first|((try refine zai ?_);apply zaj)|(apply zah;intro _));(solve|exact(hta)|exact(ht1)|(refine CallOK.le (hta) ?_;exact zM)|(refine CallOK.le (ht1) ?_;exact zM)|fail);try case hn=>rfl)|refine zab ?_|refine zac (fun hb=> ?_) (fun hb=> ?_)|(refine And.intro ?_ ?_;exact zI)|refine And.intro (fun hg=> ?_) (fun hg=> ?_)|exact zC|fail)
       simp[rfsLe,rfLe,rosLe,roLe]
      ·rw[e0,if_neg (by simp),e10,if_pos rfl]at hd0
       rw[hd0]
       have ht1:=hto s.token T.1 T.2.2 T.2.1 (by omega) htn
       repeat'(first|(with_reducible first|refine zaQ 8 ?_|refine zaI 8 ?_|refine zaJ 8 ?_)|(with_reducible first|refine zaa _ _ ?_|refine zae ?_|refine zaf ?_)|rw[zad]|simp only[h1,hx,h3,e0,e10,zY,Int.reduceEq,Int.reduceBEq,Int.reduceBNe,Nat.reduceSub,Nat.reduceEqDiff,Nat.reduceAdd,Nat.reduceMul,Nat.reduceLeDiff,Nat.reduceLT,Nat.reduceBEq,reduceCtorEq]|((first|((try refine zai ?_);apply zaj)|(apply zah;intro _));(solve|exact(hfi)|exact(hrn)|(refine CallOK.le (hfi) ?_;exact zM)|(refine CallOK.le (hrn) ?_;exact zM)|fail);try case hn=>rfl)|refine zab ?_|refine zac (fun hb=> ?_) (fun hb=> ?_)|(refine And.intro ?_ ?_;exact zI)|refine And.intro (fun hg=> ?_) (fun hg=> ?_)|exact zC|fail)
       refine zaO (zaM (Gh.sealF 2 3 (.own ⟨2,4,7⟩ 0 S1.length) ?_) ?_)
       ·simp only[sealFOK,zY,Nat.reduceSub,Nat.reduceEqDiff,Nat.reduceAdd,Nat.reduceMul,Nat.reduceLeDiff,Nat.reduceLT,Nat.reduceBEq,reduceCtorEq]
       simp only[sealFR,zY,Nat.reduceSub,Nat.reduceEqDiff,Nat.reduceAdd,Nat.reduceMul,Nat.reduceLeDiff,Nat.reduceLT,Nat.reduceBEq,reduceCtorEq]
       repeat'(first|(with_reducible first|refine zaQ 16 ?_|refine zaI 16 ?_|refine zaJ 16 ?_)|(with_reducible first|refine zaa _ _ ?_|refine zae ?_|refine zaf ?_)|rw[zad]|simp only[h1,hx,h3,e0,e10,hwt,zY,Int.reduceEq,Int.reduceBEq,Int.reduceBNe,Nat.reduceSub,Nat.reduceEqDiff,Nat.reduceAdd,Nat.reduceMul,Nat.reduceLeDiff,Nat.reduceLT,Nat.reduceBEq,reduceCtorEq]|((first|((try refine zai ?_);apply zaj)|(apply zah;intro _));(solve|exact(hta)|(refine CallOK.le (hta) ?_;exact zM)|fail);try case hn=>rfl)|refine zab ?_|refine zac (fun hb=> ?_) (fun hb=> ?_)|(refine And.intro ?_ ?_;exact zI)|refine And.intro (fun hg=> ?_) (fun hg=> ?_)|exact zC|fail)
       refine zaO (zaM (Gh.sealF 2 4 (.own ⟨2,5,8⟩ 0 T.1.length) ?_) ?_)
       ·simp only[sealFOK,zY,Nat.reduceSub,Nat.reduceEqDiff,Nat.reduceAdd,Nat.reduceMul,Nat.reduceLeDiff,Nat.reduceLT,Nat.reduceBEq,reduceCtorEq]
       simp only[sealFR,zY,Nat.reduceSub,Nat.reduceEqDiff,Nat.reduceAdd,Nat.reduceMul,Nat.reduceLeDiff,Nat.reduceLT,Nat.reduceBEq,reduceCtorEq]
       repeat'(first|(with_reducible first|refine zaa _ _ ?_|refine zae ?_|refine zaf ?_)|rw[zad]|simp only[h1,hx,h3,e0,e10,hwt,zY,Int.reduceEq,Int.reduceBEq,Int.reduceBNe,Nat.reduceSub,Nat.reduceEqDiff,Nat.reduceAdd,Nat.reduceMul,Nat.reduceLeDiff,Nat.reduceLT,Nat.reduceBEq,reduceCtorEq]|((first|((try refine zai ?_);apply zaj)|(apply zah;intro _));(solve|exact(ht1)|(refine CallOK.le (ht1) ?_;exact zM)|fail);try case hn=>rfl)|refine zab ?_|refine zac (fun hb=> ?_) (fun hb=> ?_)|(refine And.intro ?_ ?_;exact zI)|refine And.intro (fun hg=> ?_) (fun hg=> ?_)|exact zC|fail)
       simp[rfsLe,rfLe,rosLe,roLe]
     ·rw[e0,if_pos rfl]at hd0
      rw[hd0]
      have ht1:=hto (s.token+1) T.1 T.2.2 0 (by omega) htn
      have hz:=htz (by have:T.2.2=0:=(by simpa using e0);rw[this];rfl)
      rw[hz]at hta
      repeat'(first|(with_reducible first|refine zaQ 8 ?_|refine zaI 8 ?_|refine zaJ 8 ?_)|(with_reducible first|refine zaa _ _ ?_|refine zae ?_|refine zaf ?_)|rw[zad]|simp only[h1,hx,h3,e0,zY,Int.reduceEq,Int.reduceBEq,Int.reduceBNe,Nat.reduceSub,Nat.reduceEqDiff,Nat.reduceAdd,Nat.reduceMul,Nat.reduceLeDiff,Nat.reduceLT,Nat.reduceBEq,reduceCtorEq]|((first|((try refine zai ?_);apply zaj)|(apply zah;intro _));(solve|exact(hfi)|exact(hrn)|(refine CallOK.le (hfi) ?_;exact zM)|(refine CallOK.le (hrn) ?_;exact zM)|fail);try case hn=>rfl)|refine zab ?_|refine zac (fun hb=> ?_) (fun hb=> ?_)|(refine And.intro ?_ ?_;exact zI)|refine And.intro (fun hg=> ?_) (fun hg=> ?_)|exact zC|fail)
      refine zaO (zaM (Gh.sealF 2 3 (.own ⟨2,4,7⟩ 0 S1.length) ?_) ?_)
      ·simp only[sealFOK,zY,Nat.reduceSub,Nat.reduceEqDiff,Nat.reduceAdd,Nat.reduceMul,Nat.reduceLeDiff,Nat.reduceLT,Nat.reduceBEq,reduceCtorEq]
      simp only[sealFR,zY,Nat.reduceSub,Nat.reduceEqDiff,Nat.reduceAdd,Nat.reduceMul,Nat.reduceLeDiff,Nat.reduceLT,Nat.reduceBEq,reduceCtorEq]
      repeat'(first|(with_reducible first|refine zaQ 16 ?_|refine zaI 16 ?_|refine zaJ 16 ?_)|(with_reducible first|refine zaa _ _ ?_|refine zae ?_|refine zaf ?_)|rw[zad]|simp only[h1,hx,h3,e0,hwt,zY,Int.reduceEq,Int.reduceBEq,Int.reduceBNe,Nat.reduceSub,Nat.reduceEqDiff,Nat.reduceAdd,Nat.reduceMul,Nat.reduceLeDiff,Nat.reduceLT,Nat.reduceBEq,reduceCtorEq]|((first|((try refine zai ?_);apply zaj)|(apply zah;intro _));(solve|exact(hta)|(refine CallOK.le (hta) ?_;exact zM)|fail);try case hn=>rfl)|refine zab ?_|refine zac (fun hb=> ?_) (fun hb=> ?_)|(refine And.intro ?_ ?_;exact zI)|refine And.intro (fun hg=> ?_) (fun hg=> ?_)|exact zC|fail)
      refine zaO (zaM (Gh.sealF 2 4 (.own ⟨2,5,8⟩ 0 T.1.length) ?_) ?_)
      ·simp only[sealFOK,zY,Nat.reduceSub,Nat.reduceEqDiff,Nat.reduceAdd,Nat.reduceMul,Nat.reduceLeDiff,Nat.reduceLT,Nat.reduceBEq,reduceCtorEq]
      simp only[sealFR,zY,Nat.reduceSub,Nat.reduceEqDiff,Nat.reduceAdd,Nat.reduceMul,Nat.reduceLeDiff,Nat.reduceLT,Nat.reduceBEq,reduceCtorEq]
      repeat'(first|(with_reducible first|refine zaa _ _ ?_|refine zae ?_|refine zaf ?_)|rw[zad]|simp only[h1,hx,h3,e0,hwt,zY,Int.reduceEq,Int.reduceBEq,Int.reduceBNe,Nat.reduceSub,Nat.reduceEqDiff,Nat.reduceAdd,Nat.reduceMul,Nat.reduceLeDiff,Nat.reduceLT,Nat.reduceBEq,reduceCtorEq]|((first|((try refine zai ?_);apply zaj)|(apply zah;intro _));(solve|exact(ht1)|(refine CallOK.le (ht1) ?_;exact zM)|fail);try case hn=>rfl)|refine zab ?_|refine zac (fun hb=> ?_) (fun hb=> ?_)|(refine And.intro ?_ ?_;exact zI)|refine And.intro (fun hg=> ?_) (fun hg=> ?_)|exact zC|fail)
      simp[rfsLe,rfLe,rosLe,roLe]
   ·have hd:doneP s r=(s,⟨9,0,0,[]⟩):=by unfold doneP;rw[if_neg (by rw[h1];simp),hf];simp only;rw[if_pos hx]
    rw[hd]
    repeat'(first|(with_reducible first|refine zaa _ _ ?_|refine zae ?_|refine zaf ?_)|rw[zad]|simp only[h1,hx,zY,Int.reduceEq,Int.reduceBEq,Int.reduceBNe,Nat.reduceSub,Nat.reduceEqDiff,Nat.reduceAdd,Nat.reduceMul,Nat.reduceLeDiff,Nat.reduceLT,Nat.reduceBEq,reduceCtorEq]|((first|((try refine zai ?_);apply zaj)|(apply zah;intro _));(solve|exact(hfi)|(refine CallOK.le (hfi) ?_;exact zM)|fail);try case hn=>rfl)|refine zab ?_|refine zac (fun hb=> ?_) (fun hb=> ?_)|(refine And.intro ?_ ?_;exact zI)|refine And.intro (fun hg=> ?_) (fun hg=> ?_)|exact zC|fail)
    all_goals simp[rfsLe,rfLe,rosLe,roLe]
 ·have hop:=zln s h hr r.client hc
  have hd:doneP s r=openedP s r.client:=by unfold doneP;rw[if_pos h1]
  rw[hd]
  repeat'(first|(with_reducible first|refine zaa _ _ ?_|refine zae ?_|refine zaf ?_)|rw[zad]|simp only[h1,zY,Int.reduceEq,Int.reduceBEq,Int.reduceBNe,Nat.reduceSub,Nat.reduceEqDiff,Nat.reduceAdd,Nat.reduceMul,Nat.reduceLeDiff,Nat.reduceLT,Nat.reduceBEq,reduceCtorEq]|((first|((try refine zai ?_);apply zaj)|(apply zah;intro _));(solve|exact(hfi)|exact(hop)|(refine CallOK.le (hfi) ?_;exact zM)|(refine CallOK.le (hop) ?_;exact zM)|fail);try case hn=>rfl)|refine zab ?_|refine zac (fun hb=> ?_) (fun hb=> ?_)|(refine And.intro ?_ ?_;exact zI)|refine And.intro (fun hg=> ?_) (fun hg=> ?_)|exact zC|fail)
  all_goals simp[rfsLe,rfLe,rosLe,roLe]
end Go.Proofs.YtniafckaafcpbaaGreat
