import Derived.Test.YtniafckaafcpbaaGreatVD
namespace Go.Proofs.YtniafckaafcpbaaGreat
open Go.Pk
set_option maxRecDepth 100000
set_option linter.unusedSimpArgs false
set_option linter.unusedVariables false
theorem zdv {s:St} (hr:RightS s):∀k∈s.locks,k.line.Nodup:=fun k hk=>zik (hr.lok k hk).2.2.1
set_option maxHeartbeats 2000000 in
theorem zij (s:St) (h:Small s) (hr:RightS s) (time lease:Int):CallOK Tryz.prog 10 [.f (stAV s), .f (ai time), .f (ai lease)]
  (fun r o=>r=[stRF (advanceP s time lease)]∧o=[]):=by
 refine zak zaA mixed (T:=Ty) (n:=26) Tryz.func10 (c:=Tryz.f10.body.getD .skip) rfl Tryz.results10 Tryz.ntmps10 Tryz.call10 ?_
 simp only[Tryz.f10,Option.getD]
 have h':Small {s with time:=timeP s time}:=⟨h.sess,h.locks,h.memos,h.line,h.held⟩
 have htm:0≤timeP s time∧timeP s time≤High:=by
  have:=hr.time
  unfold timeP
  split
  ·rename_i hc
   simp only[Bool.and_eq_true,decide_eq_true_eq]at hc
   omega
  ·exact this
 have hdu:=zn3 s.sess h.sess (timeP s time) (max lease 1) (fun x hx=>(zbD.1 (hr.sok x hx).1).2.2) htm
 have hwo:=zhO {s with time:=timeP s time} h' hr.ls (fun k hk=>zdv hr k hk) hr.token (dueP s.sess (timeP s time) (max lease 1)) (zgM h _ _)
 have hav:advanceP s time lease=withoutSt {s with time:=timeP s time} (dueP s.sess (timeP s time) (max lease 1)):=rfl
 rw[hav]
 cases ha:decide (time>s.time)&&decide (time≤2305843009213693952)
 ·have htp:timeP s time=s.time:=by unfold timeP;rw[show(decide (time>s.time)&&decide (time≤High))=false from ha];rfl
  rw[htp]at hdu hwo⊢
  repeat'(first|(with_reducible first|refine zaa _ _ ?_|refine zae ?_|refine zaf ?_)|rw[zad]|simp only[ha,rowI,zY,Int.reduceEq,Int.reduceBEq,Int.reduceBNe,Nat.reduceSub,Nat.reduceEqDiff,Nat.reduceAdd,Nat.reduceMul,Nat.reduceLeDiff,Nat.reduceLT,Nat.reduceBEq,reduceCtorEq]|((first|((try refine zai ?_);apply zaj)|(apply zah;intro _));(solve|exact(hdu)|exact(hwo)|(refine CallOK.le (hdu) ?_;exact zM)|(refine CallOK.le (hwo) ?_;exact zM)|fail);try case hn=>rfl)|refine zab ?_|refine zac (fun hb=> ?_) (fun hb=> ?_)|(refine And.intro ?_ ?_;exact zI)|refine And.intro (fun hg=> ?_) (fun hg=> ?_)|exact zC|fail)
  rfl
 ·have htp:timeP s time=time:=by unfold timeP;rw[show(decide (time>s.time)&&decide (time≤High))=true from ha];rfl
  rw[htp]at hdu hwo⊢
  repeat'(first|(with_reducible first|refine zaa _ _ ?_|refine zae ?_|refine zaf ?_)|rw[zad]|simp only[ha,rowI,zY,Int.reduceEq,Int.reduceBEq,Int.reduceBNe,Nat.reduceSub,Nat.reduceEqDiff,Nat.reduceAdd,Nat.reduceMul,Nat.reduceLeDiff,Nat.reduceLT,Nat.reduceBEq,reduceCtorEq]|((first|((try refine zai ?_);apply zaj)|(apply zah;intro _));(solve|exact(hdu)|exact(hwo)|(refine CallOK.le (hdu) ?_;exact zM)|(refine CallOK.le (hwo) ?_;exact zM)|fail);try case hn=>rfl)|refine zab ?_|refine zac (fun hb=> ?_) (fun hb=> ?_)|(refine And.intro ?_ ?_;exact zI)|refine And.intro (fun hg=> ?_) (fun hg=> ?_)|exact zC|fail)
  rfl
theorem zgA (s:St) (h:Small s) (c code ahead:Int):CallOK Tryz.prog 87 [.f (stAV s), .f (ai c), .f (ai code), .f (ai ahead)]
  (fun r o=>r=[replyRF ⟨code,((findS s.sess c).getD noSess).num,ahead,heldP s.locks c⟩]∧o=[]):=by
 refine zak zaA mixed (T:=Ty) (n:=27) Tryz.func87 (c:=Tryz.f87.body.getD .skip) rfl Tryz.results87 Tryz.ntmps87 Tryz.call87 ?_
 simp only[Tryz.f87,Option.getD]
 have hfi:=zca s.sess (by have:=h.sess;omega) c
 have hhe:=zmz s.locks h.locks c
 repeat'(first|(with_reducible first|refine zaa _ _ ?_|refine zae ?_|refine zaf ?_)|rw[zad]|simp only[zY,Int.reduceEq,Int.reduceBEq,Int.reduceBNe,Nat.reduceSub,Nat.reduceEqDiff,Nat.reduceAdd,Nat.reduceMul,Nat.reduceLeDiff,Nat.reduceLT,Nat.reduceBEq,reduceCtorEq]|((first|((try refine zai ?_);apply zaj)|(apply zah;intro _));(solve|exact(hfi)|exact(hhe)|(refine CallOK.le (hfi) ?_;exact zM)|(refine CallOK.le (hhe) ?_;exact zM)|fail);try case hn=>rfl)|refine zab ?_|refine zac (fun hb=> ?_) (fun hb=> ?_)|(refine And.intro ?_ ?_;exact zI)|refine And.intro (fun hg=> ?_) (fun hg=> ?_)|exact zC|fail)
 rfl
theorem zfX {s:St} (hr:RightS s) {c:Int} (hc:isClient c=true) (hf:findS s.sess c=none) (he:((openP s.sess c (s.num+1) s.time).2 !=0)=false):
  (openP s.sess c (s.num+1) s.time).1.length≤s.sess.length+1∧((findS (openP s.sess c (s.num+1) s.time).1 c).getD noSess).num=s.num+1:=by
 by_cases hN:s.num+1≤High
 ·rw[zis hr hc hN hf]at he⊢
  split at he
  ·cases he
  ·rename_i h5
   rw[if_neg h5]
   refine⟨?_, ?_⟩
   ·simp only[List.length_append,List.length_cons,List.length_take,List.length_drop];omega
   ·have h1:(s.sess.take (posS s.sess c)).find? (fun x=>x.client==c)=none:=List.find?_eq_none.2 fun x hx=>List.find?_eq_none.1 hf x (List.mem_of_mem_take hx)
    simp only[findS,List.find?_append,h1,Option.none_or,List.find?_cons,beq_self_eq_true,Option.getD_some]
 ·exfalso
  have:openP s.sess c (s.num+1) s.time=([],1):=by
   unfold openP
   rw[if_pos (by simp only[Bool.or_eq_true,decide_eq_true_eq];omega)]
  rw[this]at he
  cases he
set_option maxHeartbeats 2000000 in
theorem zln (s:St) (h:Small s) (hr:RightS s) (c:Int) (hc:isClient c=true):CallOK Tryz.prog 84 [.f (stAV s), .f (ai c)]
  (fun r o=>r=[stRF (openedP s c).1,replyRF (openedP s c).2]∧o=[]):=by
 refine CallOK.nil ?_
 refine zak zaA mixed (T:=Ty) (n:=49) Tryz.func84 (c:=Tryz.f84.body.getD .skip) rfl Tryz.results84 Tryz.ntmps84 Tryz.call84 ?_
 simp only[Tryz.f84,Option.getD]
 have hfi:=zca s.sess (by have:=h.sess;omega) c
 have hn:=hr.num
 have hH:High=2^61:=by decide
 have hw:IntKind.i64.wrap (s.num+1)=s.num+1:=wrap64 (by omega) (by omega)
 cases hf:findS s.sess c with
 |some x=>
  have hto:=zgA s h c 7 0
  rw[hf]at hfi hto
  simp only[Option.isSome_some,Option.getD_some]at hfi hto
  have ho:openedP s c=(s,⟨7,x.num,0,heldP s.locks c⟩):=by unfold openedP;rw[hf]
  rw[ho]
  repeat'(first|(with_reducible first|refine zaa _ _ ?_|refine zae ?_|refine zaf ?_)|rw[zad]|simp only[zY,Int.reduceEq,Int.reduceBEq,Int.reduceBNe,Nat.reduceSub,Nat.reduceEqDiff,Nat.reduceAdd,Nat.reduceMul,Nat.reduceLeDiff,Nat.reduceLT,Nat.reduceBEq,reduceCtorEq]|((first|((try refine zai ?_);apply zaj)|(apply zah;intro _));(solve|exact(hfi)|exact(hto)|(refine CallOK.le (hfi) ?_;exact zM)|(refine CallOK.le (hto) ?_;exact zM)|fail);try case hn=>rfl)|refine zab ?_|refine zac (fun hb=> ?_) (fun hb=> ?_)|(refine And.intro ?_ ?_;exact zI)|refine And.intro (fun hg=> ?_) (fun hg=> ?_)|exact zC|fail)
  simp[rfsLe,rfLe,rosLe,roLe]
 |none=>
  rw[hf]at hfi
  simp only[Option.isSome_none,Option.getD_none]at hfi
  have hop:=zmy s.sess hr.ss h.sess c (s.num+1) s.time hc (by omega) hr.time hf (zcs hr)
  have ho:openedP s c=if((openP s.sess c (s.num+1) s.time).2 !=0)=true then(s,⟨(openP s.sess c (s.num+1) s.time).2,0,0,[]⟩)else
    ({s with sess:=(openP s.sess c (s.num+1) s.time).1,num:=s.num+1},⟨0,s.num+1,0,heldP s.locks c⟩):=by unfold openedP;rw[hf];simp only[bne_iff_ne]
  cases he:(openP s.sess c (s.num+1) s.time).2 !=0
  ·rw[he,if_neg (by simp)]at ho
   rw[ho]
   have hsm:Small {s with sess:=(openP s.sess c (s.num+1) s.time).1,num:=s.num+1}:=⟨by have:=(zfX hr hc hf he).1;have:=hr.sl;simp only;omega,h.locks,h.memos,h.line,h.held⟩
   have hto:=zgA {s with sess:=(openP s.sess c (s.num+1) s.time).1,num:=s.num+1} hsm c 0 0
   have hfo:((findS (openP s.sess c (s.num+1) s.time).1 c).getD noSess).num=s.num+1:=(zfX hr hc hf he).2
   simp only[hfo]at hto
   repeat'(first|(with_reducible first|refine zaQ 8 ?_|refine zaI 8 ?_|refine zaJ 8 ?_)|(with_reducible first|refine zaa _ _ ?_|refine zae ?_|refine zaf ?_)|rw[zad]|simp only[hw,he,zY,Int.reduceEq,Int.reduceBEq,Int.reduceBNe,Nat.reduceSub,Nat.reduceEqDiff,Nat.reduceAdd,Nat.reduceMul,Nat.reduceLeDiff,Nat.reduceLT,Nat.reduceBEq,reduceCtorEq]|((first|((try refine zai ?_);apply zaj)|(apply zah;intro _));(solve|exact(hfi)|exact(hop)|(refine CallOK.le (hfi) ?_;exact zM)|(refine CallOK.le (hop) ?_;exact zM)|fail);try case hn=>rfl)|refine zab ?_|refine zac (fun hb=> ?_) (fun hb=> ?_)|(refine And.intro ?_ ?_;exact zI)|refine And.intro (fun hg=> ?_) (fun hg=> ?_)|exact zC|fail)
   refine zaO (zaM (Gh.sealF 2 3 (.own ⟨2,4,7⟩ 0 (openP s.sess c (s.num+1) s.time).1.length) ?_) ?_)
   ·simp only[sealFOK,zY,Nat.reduceSub,Nat.reduceEqDiff,Nat.reduceAdd,Nat.reduceMul,Nat.reduceLeDiff,Nat.reduceLT,Nat.reduceBEq,reduceCtorEq]
   simp only[sealFR,zY,Nat.reduceSub,Nat.reduceEqDiff,Nat.reduceAdd,Nat.reduceMul,Nat.reduceLeDiff,Nat.reduceLT,Nat.reduceBEq,reduceCtorEq]
   repeat'(first|(with_reducible first|refine zaa _ _ ?_|refine zae ?_|refine zaf ?_)|rw[zad]|simp only[hw,zY,Int.reduceEq,Int.reduceBEq,Int.reduceBNe,Nat.reduceSub,Nat.reduceEqDiff,Nat.reduceAdd,Nat.reduceMul,Nat.reduceLeDiff,Nat.reduceLT,Nat.reduceBEq,reduceCtorEq]|((first|((try refine zai ?_);apply zaj)|(apply zah;intro _));(solve|exact(hto)|(refine CallOK.le (hto) ?_;exact zM)|fail);try case hn=>rfl)|refine zab ?_|refine zac (fun hb=> ?_) (fun hb=> ?_)|(refine And.intro ?_ ?_;exact zI)|refine And.intro (fun hg=> ?_) (fun hg=> ?_)|exact zC|fail)
   simp[rfsLe,rfLe,rosLe,roLe]
  ·rw[he,if_pos rfl]at ho
   rw[ho]
   repeat'(first|(with_reducible first|refine zaa _ _ ?_|refine zae ?_|refine zaf ?_)|rw[zad]|simp only[hw,he,zY,Int.reduceEq,Int.reduceBEq,Int.reduceBNe,Nat.reduceSub,Nat.reduceEqDiff,Nat.reduceAdd,Nat.reduceMul,Nat.reduceLeDiff,Nat.reduceLT,Nat.reduceBEq,reduceCtorEq]|((first|((try refine zai ?_);apply zaj)|(apply zah;intro _));(solve|exact(hfi)|exact(hop)|(refine CallOK.le (hfi) ?_;exact zM)|(refine CallOK.le (hop) ?_;exact zM)|fail);try case hn=>rfl)|refine zab ?_|refine zac (fun hb=> ?_) (fun hb=> ?_)|(refine And.intro ?_ ?_;exact zI)|refine And.intro (fun hg=> ?_) (fun hg=> ?_)|exact zC|fail)
   simp[rfsLe,rfLe,rosLe,roLe]
theorem zjT {s:St} (hr:RightS s) {c:Int} {x:Sess} (hf:findS s.sess c=some x):((findS (renewP s.sess c s.time).1 c).getD noSess).num=x.num∧(renewP s.sess c s.time).1.length=s.sess.length:=by
 rw[zcF hr hf]
 refine⟨?_,by simp only[List.length_set]⟩
 simp only
 rw[←zhP hr.ss hf]
 unfold findS
 rw[List.find?_map,show((fun y:Sess=>y.client==c)∘renewX c s.time)=fun y:Sess=>y.client==c from by funext y;simp only[Function.comp,renewX];split<;>rfl]
 rw[show s.sess.find? (fun y:Sess=>y.client==c)=some x from hf]
 simp only[Option.map_some,Option.getD_some,renewX]
 split<;>rfl
theorem zjU {l:List Lk} {name:ByteArray} {c t:Int} {w:Bool} (hl:∀k∈l,k.line.length<2^30∧k.name.size<2^62) (hs:SL l) (hll:∀k∈l,k.line.length≤3) (hn:name.size<2^62):
  ∀k∈(takeP l name c t w).1,k.line.length<2^30∧k.name.size<2^62:=by
 intro k hk
 unfold takeP at hk
 cases hf:findL l name with
 |none=>
  rw[hf]at hk
  simp only at hk
  split at hk
  ·cases hk
  ·rcases List.mem_append.1 hk with hk|hk
   ·exact hl k (List.mem_of_mem_take hk)
   ·rcases List.mem_cons.1 hk with rfl|hk
    ·exact⟨by simp,hn⟩
    ·exact hl k (List.mem_of_mem_drop hk)
 |some k0=>
  rw[hf]at hk
  simp only at hk
  obtain⟨⟨hi,he⟩,_⟩:=zby hs hf
  have hk0:=hl k0 (he▸List.getElem_mem hi)
  have hk3:=hll k0 (he▸List.getElem_mem hi)
  split at hk
  ·cases hk
  ·split at hk
   ·cases hk
   ·split at hk
    ·exact hl k hk
    ·split at hk
     ·cases hk
     ·rcases List.mem_or_eq_of_mem_set hk with hk|rfl
      ·exact hl k hk
      ·refine⟨?_,hk0.2⟩
       simp only
       unfold joinP
       repeat' split
       all_goals simp
       all_goals omega
theorem zjV {l:List Lk} {name:ByteArray} {c t:Int} (hl:∀k∈l,k.line.length<2^30∧k.name.size<2^62) (hs:SL l):
  ∀k∈(freeP l name c t).1,k.line.length<2^30∧k.name.size<2^62:=by
 intro k hk
 unfold freeP at hk
 cases hf:findL l name with
 |none=>rw[hf]at hk;cases hk
 |some k0=>
  rw[hf]at hk
  simp only at hk
  obtain⟨⟨hi,he⟩,_⟩:=zby hs hf
  have hk0:=hl k0 (he▸List.getElem_mem hi)
  split at hk
  ·unfold passP at hk
   split at hk
   ·exact hl k (List.mem_of_mem_eraseIdx hk)
   ·rename_i hline
    rcases List.mem_or_eq_of_mem_set hk with hk|rfl
    ·exact hl k hk
    ·refine⟨?_,hk0.2⟩
     have:=hk0.1
     rw[hline,List.length_cons]at this
     simp only;omega
  ·split at hk
   ·rcases List.mem_or_eq_of_mem_set hk with hk|rfl
    ·exact hl k hk
    ·refine⟨?_,hk0.2⟩
     simp only
     unfold leaveP
     split
     ·exact hk0.1
     ·exact Nat.lt_of_le_of_lt (List.length_eraseIdx_le ..) hk0.1
   ·cases hk
end Go.Proofs.YtniafckaafcpbaaGreat
