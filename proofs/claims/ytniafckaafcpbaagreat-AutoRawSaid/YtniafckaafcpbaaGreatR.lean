import Derived.Test.YtniafckaafcpbaaGreatQ
namespace Go.Proofs.YtniafckaafcpbaaGreat
open Go.Pk
set_option maxRecDepth 100000
set_option linter.unusedSimpArgs false
set_option linter.unusedVariables false
abbrev stAV (s:St):AV:= .agg ((stE s).map C.d)
set_option maxHeartbeats 1000000 in
theorem zj7 (s:St) (h:Small s) (hr:RightS s) (c:Int) (hc:isClient c=true):CallOK Tryz.prog 74 [.f (stAV s), .f (ai c)]
  (fun r o=>r=[stRF (openedP s c).1,replyRF (openedP s c).2]∧o=[]):=by
 refine CallOK.nil ?_
 refine zak zaA mixed (T:=Ty) (n:=57) Tryz.func74 (c:=Tryz.f74.body.getD .skip) rfl Tryz.results74 Tryz.ntmps74 Tryz.call74 ?_
 simp only[Tryz.f74,Option.getD]
 have hfi:=zey s.sess hr.ss (by have:=h.sess;omega) c
 have hhe:=zgx s.locks h.locks c
 have hn:=hr.num
 have hH:High=2^61:=by decide
 have hw:IntKind.i64.wrap (s.num+1)=s.num+1:=wrap64 (by omega) (by omega)
 cases hf:findS s.sess c with
 |some x=>
  rw[hf]at hfi
  simp only[Option.isSome_some,Option.getD_some]at hfi
  have ho:openedP s c=(s,⟨7,x.num,0,heldP s.locks c⟩):=by unfold openedP;rw[hf]
  rw[ho]
  repeat'(first|(with_reducible first|refine zaa _ _ ?_|refine zae ?_|refine zaf ?_)|rw[zad]|simp only[zY,Int.reduceEq,Int.reduceBEq,Int.reduceBNe,Nat.reduceSub,Nat.reduceEqDiff,Nat.reduceAdd,Nat.reduceMul,Nat.reduceLeDiff,Nat.reduceLT,Nat.reduceBEq,reduceCtorEq]|((first|((try refine zai ?_);apply zaj)|(apply zah;intro _));(solve|exact(hfi)|exact(hhe)|(refine CallOK.le (hfi) ?_;exact zM)|(refine CallOK.le (hhe) ?_;exact zM)|fail);try case hn=>rfl)|refine zab ?_|refine zac (fun hb=> ?_) (fun hb=> ?_)|(refine And.intro ?_ ?_;exact zI)|refine And.intro (fun hg=> ?_) (fun hg=> ?_)|exact zC|fail)
  simp[rfsLe,rfLe,rosLe,roLe]
 |none=>
  rw[hf]at hfi
  simp only[Option.isSome_none,Option.getD_none]at hfi
  have hop:=znZ s.sess hr.ss h.sess c (s.num+1) s.time hc (by omega) hr.time hf (zcs hr)
  have ho:openedP s c=if((openP s.sess c (s.num+1) s.time).2 !=0)=true then(s,⟨(openP s.sess c (s.num+1) s.time).2,0,0,[]⟩)else
    ({s with sess:=(openP s.sess c (s.num+1) s.time).1,num:=s.num+1},⟨0,s.num+1,0,heldP s.locks c⟩):=by unfold openedP;rw[hf];simp only[bne_iff_ne]
  cases he:(openP s.sess c (s.num+1) s.time).2 !=0
  ·rw[he,if_neg (by simp)]at ho
   rw[ho]
   repeat'(first|(with_reducible first|refine zaQ 9 ?_|refine zaI 9 ?_|refine zaJ 9 ?_)|(with_reducible first|refine zaa _ _ ?_|refine zae ?_|refine zaf ?_)|rw[zad]|simp only[hw,he,zY,Int.reduceEq,Int.reduceBEq,Int.reduceBNe,Nat.reduceSub,Nat.reduceEqDiff,Nat.reduceAdd,Nat.reduceMul,Nat.reduceLeDiff,Nat.reduceLT,Nat.reduceBEq,reduceCtorEq]|((first|((try refine zai ?_);apply zaj)|(apply zah;intro _));(solve|exact(hfi)|exact(hhe)|exact(hop)|(refine CallOK.le (hfi) ?_;exact zM)|(refine CallOK.le (hhe) ?_;exact zM)|(refine CallOK.le (hop) ?_;exact zM)|fail);try case hn=>rfl)|refine zab ?_|refine zac (fun hb=> ?_) (fun hb=> ?_)|(refine And.intro ?_ ?_;exact zI)|refine And.intro (fun hg=> ?_) (fun hg=> ?_)|exact zC|fail)
   refine zaO (zaM (Gh.sealF 2 3 (.own ⟨2,4,7⟩ 0 (openP s.sess c (s.num+1) s.time).1.length) ?_) ?_)
   ·simp only[sealFOK,zY,Nat.reduceSub,Nat.reduceEqDiff,Nat.reduceAdd,Nat.reduceMul,Nat.reduceLeDiff,Nat.reduceLT,Nat.reduceBEq,reduceCtorEq]
   simp only[sealFR,zY,Nat.reduceSub,Nat.reduceEqDiff,Nat.reduceAdd,Nat.reduceMul,Nat.reduceLeDiff,Nat.reduceLT,Nat.reduceBEq,reduceCtorEq]
   repeat'(first|(with_reducible first|refine zaa _ _ ?_|refine zae ?_|refine zaf ?_)|rw[zad]|simp only[hw,zY,Int.reduceEq,Int.reduceBEq,Int.reduceBNe,Nat.reduceSub,Nat.reduceEqDiff,Nat.reduceAdd,Nat.reduceMul,Nat.reduceLeDiff,Nat.reduceLT,Nat.reduceBEq,reduceCtorEq]|((first|((try refine zai ?_);apply zaj)|(apply zah;intro _));(solve|exact(hhe)|(refine CallOK.le (hhe) ?_;exact zM)|fail);try case hn=>rfl)|refine zab ?_|refine zac (fun hb=> ?_) (fun hb=> ?_)|(refine And.intro ?_ ?_;exact zI)|refine And.intro (fun hg=> ?_) (fun hg=> ?_)|exact zC|fail)
   simp[rfsLe,rfLe,rosLe,roLe]
  ·rw[he,if_pos rfl]at ho
   rw[ho]
   repeat'(first|(with_reducible first|refine zaa _ _ ?_|refine zae ?_|refine zaf ?_)|rw[zad]|simp only[hw,he,zY,Int.reduceEq,Int.reduceBEq,Int.reduceBNe,Nat.reduceSub,Nat.reduceEqDiff,Nat.reduceAdd,Nat.reduceMul,Nat.reduceLeDiff,Nat.reduceLT,Nat.reduceBEq,reduceCtorEq]|((first|((try refine zai ?_);apply zaj)|(apply zah;intro _));(solve|exact(hfi)|exact(hhe)|exact(hop)|(refine CallOK.le (hfi) ?_;exact zM)|(refine CallOK.le (hhe) ?_;exact zM)|(refine CallOK.le (hop) ?_;exact zM)|fail);try case hn=>rfl)|refine zab ?_|refine zac (fun hb=> ?_) (fun hb=> ?_)|(refine And.intro ?_ ?_;exact zI)|refine And.intro (fun hg=> ?_) (fun hg=> ?_)|exact zC|fail)
   simp[rfsLe,rfLe,rosLe,roLe]
theorem zgH (l:List Lk) (name:ByteArray) (c t:Int) (w:Bool):(takeP l name c t w).1.length≤l.length+1:=by
 unfold takeP
 cases findL l name with
 |none=>
  simp only
  split
  ·simp
  ·exact Nat.le_of_eq (zf4 zbw _)
 |some k=>
  simp only
  repeat' split
  all_goals simp
theorem zgI (l:List Lk) (name:ByteArray) (c t:Int):(freeP l name c t).1.length≤l.length:=by
 unfold freeP
 cases findL l name with
 |none=>simp
 |some k=>
  simp only
  split
  ·unfold passP
   split
   ·simp only;rw[List.length_eraseIdx];split<;>omega
   ·simp
  ·split<;>simp
theorem zgJ (l:List Lk) (name:ByteArray) (c t:Int):0≤(freeP l name c t).2.1∧(freeP l name c t).2.1≤1:=by
 unfold freeP
 cases findL l name with
 |none=>simp
 |some k=>
  simp only
  split
  ·unfold passP
   split<;>simp
  ·split<;>simp
set_option maxHeartbeats 4000000 in
theorem zng (s:St) (h:Small s) (hr:RightS s) (r:Req) (hm:Req.may r=true):CallOK Tryz.prog 44 [.f (stAV s), .f (.agg (r.enc.map C.d))]
  (fun x o=>x=[stRF (doneP s r).1,replyRF (doneP s r).2]∧o=[]):=by
 refine CallOK.nil ?_
 refine zak zaA mixed (T:=Ty) (n:=143) Tryz.func44 (c:=Tryz.f44.body.getD .skip) rfl Tryz.results44 Tryz.ntmps44 Tryz.call44 ?_
 simp only[Tryz.f44,Option.getD]
 obtain⟨hc,_,hnm⟩:=zeD hm
 have hfi:=zey s.sess hr.ss (by have:=h.sess;omega) r.client
 have hT:=hr.token
 have hH:High=2^61:=by decide
 have hll:∀k∈s.locks,k.line.length<2^30:=fun k hk=>(h.line k hk).1
 cases h1:r.kind==1
 ·cases hf:findS s.sess r.client with
  |none=>
   rw[hf]at hfi
   simp only[Option.isSome_none,Option.getD_none]at hfi
   have hd:doneP s r=(s,⟨9,0,0,[]⟩):=by unfold doneP;rw[if_neg (by rw[h1];simp),hf]
   rw[hd]
   repeat'(first|(with_reducible first|refine zaa _ _ ?_|refine zae ?_|refine zaf ?_)|rw[zad]|simp only[h1,zY,Int.reduceEq,Int.reduceBEq,Int.reduceBNe,Nat.reduceSub,Nat.reduceEqDiff,Nat.reduceAdd,Nat.reduceMul,Nat.reduceLeDiff,Nat.reduceLT,Nat.reduceBEq,reduceCtorEq]|((first|((try refine zai ?_);apply zaj)|(apply zah;intro _));(solve|exact(hfi)|(refine CallOK.le (hfi) ?_;exact zM)|fail);try case hn=>rfl)|refine zab ?_|refine zac (fun hb=> ?_) (fun hb=> ?_)|(refine And.intro ?_ ?_;exact zI)|refine And.intro (fun hg=> ?_) (fun hg=> ?_)|exact zC|fail)
   all_goals simp[rfsLe,rfLe,rosLe,roLe]
  |some x=>
   rw[hf]at hfi
   simp only[Option.isSome_some,Option.getD_some]at hfi
   cases hx:x.num !=r.session
   ·have hrn:=zmt s.sess hr.ss h.sess r.client s.time hr.time (by rw[hf];rfl)
    have hwt:IntKind.i64.wrap (s.token+1)=s.token+1:=wrap64 (by omega) (by omega)
    have hd0:doneP s r=if(r.kind==3||r.kind==4)=true then
      (if((takeP s.locks r.name r.client s.token (r.kind==3)).2.2==0)=true then(⟨s.time,s.num,s.token+1,(renewP s.sess r.client s.time).1,(takeP s.locks r.name r.client s.token (r.kind==3)).1,s.memos⟩,⟨(takeP s.locks r.name r.client s.token (r.kind==3)).2.2,x.num,0,heldP (takeP s.locks r.name r.client s.token (r.kind==3)).1 r.client⟩)
      else if((takeP s.locks r.name r.client s.token (r.kind==3)).2.2==10)=true then(⟨s.time,s.num,s.token,(renewP s.sess r.client s.time).1,(takeP s.locks r.name r.client s.token (r.kind==3)).1,s.memos⟩,⟨(takeP s.locks r.name r.client s.token (r.kind==3)).2.2,x.num,(takeP s.locks r.name r.client s.token (r.kind==3)).2.1,heldP (takeP s.locks r.name r.client s.token (r.kind==3)).1 r.client⟩)
      else(⟨s.time,s.num,s.token,(renewP s.sess r.client s.time).1,s.locks,s.memos⟩,⟨(takeP s.locks r.name r.client s.token (r.kind==3)).2.2,x.num,0,heldP s.locks r.client⟩))
     else if(r.kind==5)=true then
      (if((freeP s.locks r.name r.client s.token).2.2==0)=true then(⟨s.time,s.num,s.token+(freeP s.locks r.name r.client s.token).2.1,(renewP s.sess r.client s.time).1,(freeP s.locks r.name r.client s.token).1,s.memos⟩,⟨(freeP s.locks r.name r.client s.token).2.2,x.num,0,heldP (freeP s.locks r.name r.client s.token).1 r.client⟩)
      else(⟨s.time,s.num,s.token,(renewP s.sess r.client s.time).1,s.locks,s.memos⟩,⟨(freeP s.locks r.name r.client s.token).2.2,x.num,0,heldP s.locks r.client⟩))
     else if(r.kind==6)=true then(withoutSt ⟨s.time,s.num,s.token,(renewP s.sess r.client s.time).1,s.locks,s.memos⟩ [r.client],⟨0,0,0,[]⟩)
     else(⟨s.time,s.num,s.token,(renewP s.sess r.client s.time).1,s.locks,s.memos⟩,⟨0,x.num,0,heldP s.locks r.client⟩):=by
     unfold doneP
     rw[if_neg (by rw[h1];simp),hf]
     simp only
     rw[if_neg (by rw[hx];simp)]
     split
     ·by_cases e0:(takeP s.locks r.name r.client s.token (r.kind==3)).2.2=0
      ·rw[if_pos e0,if_neg (by rw[e0];decide),if_pos (by simpa using e0)]
      ·by_cases e10:(takeP s.locks r.name r.client s.token (r.kind==3)).2.2=10
       ·rw[if_neg e0,if_pos e10,if_pos e10,if_neg (by simpa using e0),if_pos (by simpa using e10)]
       ·rw[if_neg e0,if_neg e10,if_neg e10,if_neg (by simpa using e0),if_neg (by simpa using e10)]
     ·split
      ·by_cases e0:(freeP s.locks r.name r.client s.token).2.2=0
       ·rw[if_pos e0,if_pos (by simpa using e0)]
       ·rw[if_neg e0,if_neg (by simpa using e0)]
      ·rfl
    have htl:=zgH s.locks r.name r.client s.token (r.kind==3)
    have hfl:=zgI s.locks r.name r.client s.token
    have hnl:=hr.ll
    have hta:=znW s.locks hr.ls h.locks hll r.name r.client s.token (by omega) (r.kind==3)
    have hfr:=znX s.locks hr.ls h.locks hll r.name r.client s.token (by omega)
    have hhs:=zgx s.locks h.locks r.client
    have hht:=zgx (takeP s.locks r.name r.client s.token (r.kind==3)).1 (by omega) r.client
    have hhf:=zgx (freeP s.locks r.name r.client s.token).1 (by omega) r.client
    have hrl:(sessE (renewP s.sess r.client s.time).1).length=(renewP s.sess r.client s.time).1.length*3:=zax
    cases h3:r.kind==3
    ·rw[h3]at hta hht
     rw[h3,Bool.false_or]at hd0
     cases h4:r.kind==4
     ·rw[h4,if_neg (by simp)]at hd0
      cases h5:r.kind==5
      ·rw[h5,if_neg (by simp)]at hd0
       cases h6:r.kind==6
       ·rw[h6,if_neg (by simp)]at hd0
        rw[hd0]
        repeat'(first|(with_reducible first|refine zaa _ _ ?_|refine zae ?_|refine zaf ?_)|rw[zad]|simp only[h1,hx,h3,h4,h5,h6,zY,Int.reduceEq,Int.reduceBEq,Int.reduceBNe,Nat.reduceSub,Nat.reduceEqDiff,Nat.reduceAdd,Nat.reduceMul,Nat.reduceLeDiff,Nat.reduceLT,Nat.reduceBEq,reduceCtorEq]|((first|((try refine zai ?_);apply zaj)|(apply zah;intro _));(solve|exact(hfi)|exact(hrn)|exact(hhs)|(refine CallOK.le (hfi) ?_;exact zM)|(refine CallOK.le (hrn) ?_;exact zM)|(refine CallOK.le (hhs) ?_;exact zM)|fail);try case hn=>rfl)|refine zab ?_|refine zac (fun hb=> ?_) (fun hb=> ?_)|(refine And.intro ?_ ?_;exact zI)|refine And.intro (fun hg=> ?_) (fun hg=> ?_)|exact zC|fail)
        exact⟨rfl,⟨.inl rfl, .inl rfl, .inl rfl, .inr ⟨rfl,rfl,hrl⟩, .inl rfl, .inl rfl,trivial⟩,⟨.inl rfl, .inl rfl, .inl rfl, .inl rfl,trivial⟩,trivial⟩
       ·rw[h6,if_pos rfl]at hd0
        rw[hd0]
        have hwo:=zfn ⟨s.time,s.num,s.token,(renewP s.sess r.client s.time).1,s.locks,s.memos⟩ ⟨by rw[zcF hr hf];simp only[List.length_set];exact h.sess,h.locks,h.memos,h.line,h.held⟩ hr.token [r.client] (by simp)
        repeat'(first|(with_reducible first|refine zaa _ _ ?_|refine zae ?_|refine zaf ?_)|rw[zad]|simp only[h1,hx,h3,h4,h5,h6,zY,Int.reduceEq,Int.reduceBEq,Int.reduceBNe,Nat.reduceSub,Nat.reduceEqDiff,Nat.reduceAdd,Nat.reduceMul,Nat.reduceLeDiff,Nat.reduceLT,Nat.reduceBEq,reduceCtorEq]|((first|((try refine zai ?_);apply zaj)|(apply zah;intro _));(solve|exact(hfi)|exact(hrn)|(refine CallOK.le (hfi) ?_;exact zM)|(refine CallOK.le (hrn) ?_;exact zM)|fail);try case hn=>rfl)|refine zab ?_|refine zac (fun hb=> ?_) (fun hb=> ?_)|(refine And.intro ?_ ?_;exact zI)|refine And.intro (fun hg=> ?_) (fun hg=> ?_)|exact zC|fail)
        refine zbi (mv:= ?mv1) (lent:= ?le1) 0 ?ha1 (hwo) ?hb1 ?hc1
        case ha1=>(try simp only[zaF,zY,List.contains_nil,Nat.reduceSub,Nat.reduceEqDiff,Nat.reduceAdd,Nat.reduceMul,Nat.reduceLeDiff,Nat.reduceLT,Nat.reduceBEq,reduceCtorEq]);exact rfl
        case hb1=>(try simp only[scM,zY,List.contains_nil,Nat.reduceSub,Nat.reduceEqDiff,Nat.reduceAdd,Nat.reduceMul,Nat.reduceLeDiff,Nat.reduceLT,Nat.reduceBEq,reduceCtorEq]);repeat'(first|rfl|trivial|omega|with_reducible refine And.intro ?_ ?_)
        show aops _ _ _ _ _ _ _ _
        repeat'(first|(with_reducible first|refine zaa _ _ ?_|refine zae ?_|refine zaf ?_)|rw[zad]|simp only[zY,Int.reduceEq,Int.reduceBEq,Int.reduceBNe,Nat.reduceSub,Nat.reduceEqDiff,Nat.reduceAdd,Nat.reduceMul,Nat.reduceLeDiff,Nat.reduceLT,Nat.reduceBEq,reduceCtorEq]|refine zab ?_|refine zac (fun hb=> ?_) (fun hb=> ?_)|(refine And.intro ?_ ?_;exact zI)|refine And.intro (fun hg=> ?_) (fun hg=> ?_)|exact zC|fail)
        exact⟨rfl,⟨.inl rfl, .inl rfl, .inl rfl, .inr ⟨rfl,rfl,zax⟩, .inr ⟨rfl,rfl,zam⟩, .inl rfl,trivial⟩,⟨.inl rfl, .inl rfl, .inl rfl, .inr ⟨rfl,rfl⟩,trivial⟩,trivial⟩
      ·rw[h5,if_pos rfl]at hd0
       generalize hT0:freeP s.locks r.name r.client s.token=T at*
       cases e0:T.2.2==0
       ·rw[e0,if_neg (by simp)]at hd0
        rw[hd0]
        repeat'(first|(with_reducible first|refine zaa _ _ ?_|refine zae ?_|refine zaf ?_)|rw[zad]|simp only[h1,hx,h3,h4,h5,e0,zY,Int.reduceEq,Int.reduceBEq,Int.reduceBNe,Nat.reduceSub,Nat.reduceEqDiff,Nat.reduceAdd,Nat.reduceMul,Nat.reduceLeDiff,Nat.reduceLT,Nat.reduceBEq,reduceCtorEq]|((first|((try refine zai ?_);apply zaj)|(apply zah;intro _));(solve|exact(hfi)|exact(hrn)|exact(hfr)|exact(hhs)|(refine CallOK.le (hfi) ?_;exact zM)|(refine CallOK.le (hrn) ?_;exact zM)|(refine CallOK.le (hfr) ?_;exact zM)|(refine CallOK.le (hhs) ?_;exact zM)|fail);try case hn=>rfl)|refine zab ?_|refine zac (fun hb=> ?_) (fun hb=> ?_)|(refine And.intro ?_ ?_;exact zI)|refine And.intro (fun hg=> ?_) (fun hg=> ?_)|exact zC|fail)
        exact⟨rfl,⟨.inl rfl, .inl rfl, .inl rfl, .inr ⟨rfl,rfl,hrl⟩, .inl rfl, .inl rfl,trivial⟩,⟨.inl rfl, .inl rfl, .inl rfl, .inl rfl,trivial⟩,trivial⟩
       ·rw[e0,if_pos rfl]at hd0
        have hwf:IntKind.i64.wrap (s.token+T.2.1)=s.token+T.2.1:=by
         have:=zgJ s.locks r.name r.client s.token
         rw[hT0]at this
         exact wrap64 (by omega) (by omega)
        rw[hd0]
        repeat'(first|(with_reducible first|refine zaa _ _ ?_|refine zae ?_|refine zaf ?_)|rw[zad]|simp only[h1,hx,h3,h4,h5,e0,hwf,zY,Int.reduceEq,Int.reduceBEq,Int.reduceBNe,Nat.reduceSub,Nat.reduceEqDiff,Nat.reduceAdd,Nat.reduceMul,Nat.reduceLeDiff,Nat.reduceLT,Nat.reduceBEq,reduceCtorEq]|((first|((try refine zai ?_);apply zaj)|(apply zah;intro _));(solve|exact(hfi)|exact(hrn)|exact(hfr)|exact(hhf)|(refine CallOK.le (hfi) ?_;exact zM)|(refine CallOK.le (hrn) ?_;exact zM)|(refine CallOK.le (hfr) ?_;exact zM)|(refine CallOK.le (hhf) ?_;exact zM)|fail);try case hn=>rfl)|refine zab ?_|refine zac (fun hb=> ?_) (fun hb=> ?_)|(refine And.intro ?_ ?_;exact zI)|refine And.intro (fun hg=> ?_) (fun hg=> ?_)|exact zC|fail)
        exact⟨rfl,⟨.inl rfl, .inl rfl, .inl rfl, .inr ⟨rfl,rfl,hrl⟩, .inr ⟨rfl,rfl,zam⟩, .inl rfl,trivial⟩,⟨.inl rfl, .inl rfl, .inl rfl, .inl rfl,trivial⟩,trivial⟩
     ·rw[h4,if_pos rfl]at hd0
      generalize hT0:takeP s.locks r.name r.client s.token false=T at*
      cases e0:T.2.2==0
      ·cases e10:T.2.2==10
       ·rw[e0,if_neg (by simp),e10,if_neg (by simp)]at hd0
        rw[hd0]
        repeat'(first|(with_reducible first|refine zaa _ _ ?_|refine zae ?_|refine zaf ?_)|rw[zad]|simp only[h1,hx,h3,h4,e0,e10,hwt,zY,Int.reduceEq,Int.reduceBEq,Int.reduceBNe,Nat.reduceSub,Nat.reduceEqDiff,Nat.reduceAdd,Nat.reduceMul,Nat.reduceLeDiff,Nat.reduceLT,Nat.reduceBEq,reduceCtorEq]|((first|((try refine zai ?_);apply zaj)|(apply zah;intro _));(solve|exact(hfi)|exact(hrn)|exact(hta)|exact(hhs)|(refine CallOK.le (hfi) ?_;exact zM)|(refine CallOK.le (hrn) ?_;exact zM)|(refine CallOK.le (hta) ?_;exact zM)|(refine CallOK.le (hhs) ?_;exact zM)|fail);try case hn=>rfl)|refine zab ?_|refine zac (fun hb=> ?_) (fun hb=> ?_)|(refine And.intro ?_ ?_;exact zI)|refine And.intro (fun hg=> ?_) (fun hg=> ?_)|exact zC|fail)
        exact⟨rfl,⟨.inl rfl, .inl rfl, .inl rfl, .inr ⟨rfl,rfl,hrl⟩, .inl rfl, .inl rfl,trivial⟩,⟨.inl rfl, .inl rfl, .inl rfl, .inl rfl,trivial⟩,trivial⟩
       ·rw[e0,if_neg (by simp),e10,if_pos rfl]at hd0
        rw[hd0]
        repeat'(first|(with_reducible first|refine zaa _ _ ?_|refine zae ?_|refine zaf ?_)|rw[zad]|simp only[h1,hx,h3,h4,e0,e10,hwt,zY,Int.reduceEq,Int.reduceBEq,Int.reduceBNe,Nat.reduceSub,Nat.reduceEqDiff,Nat.reduceAdd,Nat.reduceMul,Nat.reduceLeDiff,Nat.reduceLT,Nat.reduceBEq,reduceCtorEq]|((first|((try refine zai ?_);apply zaj)|(apply zah;intro _));(solve|exact(hfi)|exact(hrn)|exact(hta)|exact(hht)|(refine CallOK.le (hfi) ?_;exact zM)|(refine CallOK.le (hrn) ?_;exact zM)|(refine CallOK.le (hta) ?_;exact zM)|(refine CallOK.le (hht) ?_;exact zM)|fail);try case hn=>rfl)|refine zab ?_|refine zac (fun hb=> ?_) (fun hb=> ?_)|(refine And.intro ?_ ?_;exact zI)|refine And.intro (fun hg=> ?_) (fun hg=> ?_)|exact zC|fail)
        exact⟨rfl,⟨.inl rfl, .inl rfl, .inl rfl, .inr ⟨rfl,rfl,hrl⟩, .inr ⟨rfl,rfl,zam⟩, .inl rfl,trivial⟩,⟨.inl rfl, .inl rfl, .inl rfl, .inl rfl,trivial⟩,trivial⟩
      ·rw[e0,if_pos rfl]at hd0
       rw[hd0]
       repeat'(first|(with_reducible first|refine zaa _ _ ?_|refine zae ?_|refine zaf ?_)|rw[zad]|simp only[h1,hx,h3,h4,e0,hwt,zY,Int.reduceEq,Int.reduceBEq,Int.reduceBNe,Nat.reduceSub,Nat.reduceEqDiff,Nat.reduceAdd,Nat.reduceMul,Nat.reduceLeDiff,Nat.reduceLT,Nat.reduceBEq,reduceCtorEq]|((first|((try refine zai ?_);apply zaj)|(apply zah;intro _));(solve|exact(hfi)|exact(hrn)|exact(hta)|exact(hht)|(refine CallOK.le (hfi) ?_;exact zM)|(refine CallOK.le (hrn) ?_;exact zM)|(refine CallOK.le (hta) ?_;exact zM)|(refine CallOK.le (hht) ?_;exact zM)|fail);try case hn=>rfl)|refine zab ?_|refine zac (fun hb=> ?_) (fun hb=> ?_)|(refine And.intro ?_ ?_;exact zI)|refine And.intro (fun hg=> ?_) (fun hg=> ?_)|exact zC|fail)
       exact⟨rfl,⟨.inl rfl, .inl rfl, .inl rfl, .inr ⟨rfl,rfl,hrl⟩, .inr ⟨rfl,rfl,zam⟩, .inl rfl,trivial⟩,⟨.inl rfl, .inl rfl, .inl rfl, .inl rfl,trivial⟩,trivial⟩
    ·rw[h3]at hta hht
     rw[h3,Bool.true_or,if_pos rfl]at hd0
     generalize hT0:takeP s.locks r.name r.client s.token true=T at*
     cases e0:T.2.2==0
     ·cases e10:T.2.2==10
      ·rw[e0,if_neg (by simp),e10,if_neg (by simp)]at hd0
       rw[hd0]
       repeat'(first|(with_reducible first|refine zaa _ _ ?_|refine zae ?_|refine zaf ?_)|rw[zad]|simp only[h1,hx,h3,e0,e10,hwt,zY,Int.reduceEq,Int.reduceBEq,Int.reduceBNe,Nat.reduceSub,Nat.reduceEqDiff,Nat.reduceAdd,Nat.reduceMul,Nat.reduceLeDiff,Nat.reduceLT,Nat.reduceBEq,reduceCtorEq]|((first|((try refine zai ?_);apply zaj)|(apply zah;intro _));(solve|exact(hfi)|exact(hrn)|exact(hta)|exact(hhs)|(refine CallOK.le (hfi) ?_;exact zM)|(refine CallOK.le (hrn) ?_;exact zM)|(refine CallOK.le (hta) ?_;exact zM)|(refine CallOK.le (hhs) ?_;exact zM)|fail);try case hn=>rfl)|refine zab ?_|refine zac (fun hb=> ?_) (fun hb=> ?_)|(refine And.intro ?_ ?_;exact zI)|refine And.intro (fun hg=> ?_) (fun hg=> ?_)|exact zC|fail)
       exact⟨rfl,⟨.inl rfl, .inl rfl, .inl rfl, .inr ⟨rfl,rfl,hrl⟩, .inl rfl, .inl rfl,trivial⟩,⟨.inl rfl, .inl rfl, .inl rfl, .inl rfl,trivial⟩,trivial⟩
      ·rw[e0,if_neg (by simp),e10,if_pos rfl]at hd0
       rw[hd0]
       repeat'(first|(with_reducible first|refine zaa _ _ ?_|refine zae ?_|refine zaf ?_)|rw[zad]|simp only[h1,hx,h3,e0,e10,hwt,zY,Int.reduceEq,Int.reduceBEq,Int.reduceBNe,Nat.reduceSub,Nat.reduceEqDiff,Nat.reduceAdd,Nat.reduceMul,Nat.reduceLeDiff,Nat.reduceLT,Nat.reduceBEq,reduceCtorEq]|((first|((try refine zai ?_);apply zaj)|(apply zah;intro _));(solve|exact(hfi)|exact(hrn)|exact(hta)|exact(hht)|(refine CallOK.le (hfi) ?_;exact zM)|(refine CallOK.le (hrn) ?_;exact zM)|(refine CallOK.le (hta) ?_;exact zM)|(refine CallOK.le (hht) ?_;exact zM)|fail);try case hn=>rfl)|refine zab ?_|refine zac (fun hb=> ?_) (fun hb=> ?_)|(refine And.intro ?_ ?_;exact zI)|refine And.intro (fun hg=> ?_) (fun hg=> ?_)|exact zC|fail)
       exact⟨rfl,⟨.inl rfl, .inl rfl, .inl rfl, .inr ⟨rfl,rfl,hrl⟩, .inr ⟨rfl,rfl,zam⟩, .inl rfl,trivial⟩,⟨.inl rfl, .inl rfl, .inl rfl, .inl rfl,trivial⟩,trivial⟩
     ·rw[e0,if_pos rfl]at hd0
      rw[hd0]
      repeat'(first|(with_reducible first|refine zaa _ _ ?_|refine zae ?_|refine zaf ?_)|rw[zad]|simp only[h1,hx,h3,e0,hwt,zY,Int.reduceEq,Int.reduceBEq,Int.reduceBNe,Nat.reduceSub,Nat.reduceEqDiff,Nat.reduceAdd,Nat.reduceMul,Nat.reduceLeDiff,Nat.reduceLT,Nat.reduceBEq,reduceCtorEq]|((first|((try refine zai ?_);apply zaj)|(apply zah;intro _));(solve|exact(hfi)|exact(hrn)|exact(hta)|exact(hht)|(refine CallOK.le (hfi) ?_;exact zM)|(refine CallOK.le (hrn) ?_;exact zM)|(refine CallOK.le (hta) ?_;exact zM)|(refine CallOK.le (hht) ?_;exact zM)|fail);try case hn=>rfl)|refine zab ?_|refine zac (fun hb=> ?_) (fun hb=> ?_)|(refine And.intro ?_ ?_;exact zI)|refine And.intro (fun hg=> ?_) (fun hg=> ?_)|exact zC|fail)
      exact⟨rfl,⟨.inl rfl, .inl rfl, .inl rfl, .inr ⟨rfl,rfl,hrl⟩, .inr ⟨rfl,rfl,zam⟩, .inl rfl,trivial⟩,⟨.inl rfl, .inl rfl, .inl rfl, .inl rfl,trivial⟩,trivial⟩
   ·have hd:doneP s r=(s,⟨9,0,0,[]⟩):=by unfold doneP;rw[if_neg (by rw[h1];simp),hf];simp only;rw[if_pos hx]
    rw[hd]
    repeat'(first|(with_reducible first|refine zaa _ _ ?_|refine zae ?_|refine zaf ?_)|rw[zad]|simp only[h1,hx,zY,Int.reduceEq,Int.reduceBEq,Int.reduceBNe,Nat.reduceSub,Nat.reduceEqDiff,Nat.reduceAdd,Nat.reduceMul,Nat.reduceLeDiff,Nat.reduceLT,Nat.reduceBEq,reduceCtorEq]|((first|((try refine zai ?_);apply zaj)|(apply zah;intro _));(solve|exact(hfi)|(refine CallOK.le (hfi) ?_;exact zM)|fail);try case hn=>rfl)|refine zab ?_|refine zac (fun hb=> ?_) (fun hb=> ?_)|(refine And.intro ?_ ?_;exact zI)|refine And.intro (fun hg=> ?_) (fun hg=> ?_)|exact zC|fail)
    all_goals simp[rfsLe,rfLe,rosLe,roLe]
 ·have hop:=zj7 s h hr r.client hc
  have hd:doneP s r=openedP s r.client:=by unfold doneP;rw[if_pos h1]
  rw[hd]
  repeat'(first|(with_reducible first|refine zaa _ _ ?_|refine zae ?_|refine zaf ?_)|rw[zad]|simp only[h1,zY,Int.reduceEq,Int.reduceBEq,Int.reduceBNe,Nat.reduceSub,Nat.reduceEqDiff,Nat.reduceAdd,Nat.reduceMul,Nat.reduceLeDiff,Nat.reduceLT,Nat.reduceBEq,reduceCtorEq]|((first|((try refine zai ?_);apply zaj)|(apply zah;intro _));(solve|exact(hfi)|exact(hop)|(refine CallOK.le (hfi) ?_;exact zM)|(refine CallOK.le (hop) ?_;exact zM)|fail);try case hn=>rfl)|refine zab ?_|refine zac (fun hb=> ?_) (fun hb=> ?_)|(refine And.intro ?_ ?_;exact zI)|refine And.intro (fun hg=> ?_) (fun hg=> ?_)|exact zC|fail)
  all_goals simp[rfsLe,rfLe,rosLe,roLe]
end Go.Proofs.YtniafckaafcpbaaGreat
