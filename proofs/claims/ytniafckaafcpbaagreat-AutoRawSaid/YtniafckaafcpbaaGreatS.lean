import Derived.Test.YtniafckaafcpbaaGreatR
namespace Go.Proofs.YtniafckaafcpbaaGreat
open Go.Pk
set_option maxRecDepth 100000
set_option linter.unusedSimpArgs false
set_option linter.unusedVariables false
theorem zj4 {s:St} {r:Req} {x:Sess} (h1:(r.kind==1)=false) (hf:findS s.sess r.client=some x) (hx:(x.num !=r.session)=false):
  doneP s r=if(r.kind==3||r.kind==4)=true then
  (if((takeP s.locks r.name r.client s.token (r.kind==3)).2.2==0)=true then(⟨s.time,s.num,s.token+1,(renewP s.sess r.client s.time).1,(takeP s.locks r.name r.client s.token (r.kind==3)).1,s.memos⟩,⟨(takeP s.locks r.name r.client s.token (r.kind==3)).2.2,x.num,0,heldP (takeP s.locks r.name r.client s.token (r.kind==3)).1 r.client⟩)
  else if((takeP s.locks r.name r.client s.token (r.kind==3)).2.2==10)=true then(⟨s.time,s.num,s.token,(renewP s.sess r.client s.time).1,(takeP s.locks r.name r.client s.token (r.kind==3)).1,s.memos⟩,⟨(takeP s.locks r.name r.client s.token (r.kind==3)).2.2,x.num,(takeP s.locks r.name r.client s.token (r.kind==3)).2.1,heldP (takeP s.locks r.name r.client s.token (r.kind==3)).1 r.client⟩)
  else(⟨s.time,s.num,s.token,(renewP s.sess r.client s.time).1,s.locks,s.memos⟩,⟨(takeP s.locks r.name r.client s.token (r.kind==3)).2.2,x.num,0,heldP s.locks r.client⟩))
 else if(r.kind==5)=true then
  (if((freeP s.locks r.name r.client s.token).2.2==0)=true then(⟨s.time,s.num,s.token+(freeP s.locks r.name r.client s.token).2.1,(renewP s.sess r.client s.time).1,(freeP s.locks r.name r.client s.token).1,s.memos⟩,⟨(freeP s.locks r.name r.client s.token).2.2,x.num,0,heldP (freeP s.locks r.name r.client s.token).1 r.client⟩)
  else(⟨s.time,s.num,s.token,(renewP s.sess r.client s.time).1,s.locks,s.memos⟩,⟨(freeP s.locks r.name r.client s.token).2.2,x.num,0,heldP s.locks r.client⟩))
 else if(r.kind==6)=true then(withoutSt ⟨s.time,s.num,s.token,(renewP s.sess r.client s.time).1,s.locks,s.memos⟩ [r.client],⟨0,0,0,[]⟩)
 else(⟨s.time,s.num,s.token,(renewP s.sess r.client s.time).1,s.locks,s.memos⟩,⟨0,x.num,0,heldP s.locks r.client⟩):=by
 unfold doneP
 rw[if_neg (by rw[h1];simp),hf]
 simp only
 rw[if_neg (by rw[hx];simp)]
 split
 ·by_cases e0:(takeP s.locks r.name r.client s.token (r.kind==3)).2.2=0
  ·rw[if_pos e0,if_neg (by rw[e0];decide),if_pos (by simpa using e0)]
  ·by_cases e10:(takeP s.locks r.name r.client s.token (r.kind==3)).2.2=10
   ·rw[if_neg e0,if_pos e10,if_pos e10,if_neg (by simpa using e0),if_pos (by simpa using e10)]
   ·rw[if_neg e0,if_neg e10,if_neg e10,if_neg (by simpa using e0),if_neg (by simpa using e10)]
 ·split
  ·by_cases e0:(freeP s.locks r.name r.client s.token).2.2=0
   ·rw[if_pos e0,if_pos (by simpa using e0)]
   ·rw[if_neg e0,if_neg (by simpa using e0)]
  ·rfl
theorem zfk {s:St} (h:Small s) (r:Req):(doneP s r).1.memos=s.memos:=by
 unfold doneP
 split
 ·unfold openedP
  split
  ·rfl
  ·split<;>rfl
 ·split
  ·rfl
  ·split
   ·rfl
   ·simp only
    repeat' split
    all_goals rfl
theorem zfl {b:ByteArray} (h:nameP b=true):b.size≤12:=by
 unfold nameP at h
 simp only[Bool.and_eq_true,decide_eq_true_eq]at h
 omega
theorem zj5 {r:Reply} (h:replyB r=true):replyOk r:=by
 unfold replyB at h
 simp only[Bool.and_eq_true,Bool.not_eq_true',Bool.or_eq_false_iff,decide_eq_false_iff_not]at h
 obtain⟨⟨_,h1,_⟩,h2⟩:=h
 refine⟨by omega,fun g hg=> ?_⟩
 obtain⟨j,hj,rfl⟩:=List.getElem_of_mem hg
 have:=zbu.1 h2 j hj
 unfold grantQ at this
 simp only[Bool.not_eq_true',Bool.or_eq_false_iff,Bool.not_eq_false']at this
 have:=zfl this.1.1.1
 omega
theorem zfm:∀{l:List Int} {a b:Int},l.Pairwise (·<·)→(∀x∈l,a≤x∧x<b)→(l.length:Int)≤max (b - a) 0
 |[],a,b,_,_=>by simp;omega
 |x::l,a,b,h,hb=>by
  have h':=List.pairwise_cons.1 h
  have hx:=hb x (List.mem_cons_self ..)
  have:=zfm (a:=x+1) (b:=b) h'.2 (fun y hy=>⟨by have:=h'.1 y hy;omega,(hb y (List.mem_cons_of_mem _ hy)).2⟩)
  simp only[List.length_cons];omega
theorem zdy {m:Memo} (h:answerB m=true):(0≤m.client∧m.client<8)∧(1≤m.seq∧m.seq≤High)∧replyB m.reply=true:=by
 unfold answerB at h
 simp only[Bool.and_eq_true,decide_eq_true_eq]at h
 exact⟨⟨h.1.1.1.1,h.1.1.1.2⟩,⟨h.1.1.2,h.1.2⟩,h.2⟩
theorem zbj {s:St} (h:RightS s):Small s:=by
 refine⟨by have:=h.sl;omega,by have:=h.ll;omega, ?_,fun k hk=> ?_,fun m hm=>zj5 (zdy (h.mok m hm)).2.2⟩
 ·have:=zfm (a:=0) (b:=8) (zkb.1 h.ms) (fun x hx=>by
   obtain⟨m,hm,rfl⟩:=List.mem_map.1 hx
   exact(zdy (h.mok m hm)).1)
  rw[List.length_map]at this
  omega
 ·obtain⟨a,_,b,_⟩:=h.lok k hk
  have h1:=(za7.1 b).1
  have h2:=zfl (zbv.1 a).1
  omega
theorem zgF {l:List Lk} (hl:l.length<2^30) (hn:∀k∈l,k.name.size<2^62) (c:Int) (a b d:Int):replyOk ⟨a,b,d,heldP l c⟩:=by
 refine⟨?_,fun g hg=> ?_⟩
 ·unfold heldP
  rw[List.length_map]
  exact Nat.lt_of_le_of_lt (List.length_filter_le ..) hl
 ·unfold heldP at hg
  obtain⟨k,hk,rfl⟩:=List.mem_map.1 hg
  exact hn k (List.mem_filter.1 hk).1
theorem zj6 (s:St) (r:Req):(doneP s r).2.held=[]∨(doneP s r).2.held=heldP (doneP s r).1.locks r.client:=by
 unfold doneP
 split
 ·unfold openedP
  split
  ·exact .inr rfl
  ·split
   ·exact .inl rfl
   ·exact .inr rfl
 ·split
  ·exact .inl rfl
  ·split
   ·exact .inl rfl
   ·simp only
    repeat' split
    all_goals first|exact .inr rfl|exact .inl rfl
theorem zcV {s:St} (h:RightS s) {r:Req} (hm:Req.may r=true) (hN:s.num+1≤High) (hT:s.token+4≤High):replyOk (doneP s r).2:=by
 have hs:=zbj (zdY h hm hN hT).rt
 rcases zj6 s r with e|e
 ·exact⟨by rw[e];simp,fun g hg=>by rw[e]at hg;cases hg⟩
 ·have:=zgF hs.locks (fun k hk=>(hs.line k hk).2) r.client 0 0 0
  unfold replyOk at this⊢
  rw[e]
  exact this
theorem zgG {l:List Lk} (hs:SL l) (h:∀k∈l,okLk k=true) (c:Int):checkP (grantQ (heldP l c)) 0 (heldP l c)=true:=by
 have hp:(heldP l c).Pairwise fun a b=>bLess a.name b.name=true:=by
  unfold heldP
  rw[List.pairwise_map]
  exact List.Pairwise.sublist (List.filter_sublist ..) hs
 rw[zbu]
 intro j hj
 rw[Nat.zero_add]
 have hm:∃k∈l,(heldP l c)[j]=⟨k.name,k.token⟩:=by
  have:=List.getElem_mem hj
  unfold heldP at this
  obtain⟨k,hk,e⟩:=List.mem_map.1 this
  exact⟨k,(List.mem_filter.1 hk).1,e.symm⟩
 obtain⟨k,hk,e⟩:=hm
 have ho:=zbv.1 (h k hk)
 unfold grantQ
 simp only[Bool.not_eq_true',Bool.or_eq_false_iff,Bool.and_eq_false_iff,Bool.not_eq_false',decide_eq_false_iff_not]
 rw[e]
 refine⟨⟨⟨ho.1,by simp only;omega⟩,by simp only;omega⟩, ?_⟩
 by_cases h0:0<j
 ·right
  have:=zb8 hp j hj h0
  unfold prevG
  rw[List.getElem?_eq_getElem (by omega)]
  rw[e]at this
  simpa using this
 ·left;omega
theorem zjj {s:St} (h:RightS s) {r:Req} (hm:Req.may r=true) (hN:s.num+1≤High) (hT:s.token+4≤High):
  ((doneP s r).2.held=[]∨(1≤(doneP s r).2.session∧(doneP s r).2.held=heldP (doneP s r).1.locks r.client))∧(0≤(doneP s r).2.session∧(doneP s r).2.session≤High)∧(0≤(doneP s r).2.ahead∧(doneP s r).2.ahead≤3):=by
 have hH:High=2305843009213693952:=rfl
 obtain⟨hc,_,hnm⟩:=zeD hm
 have hnum:=h.num
 cases h1:r.kind==1
 ·cases hf:findS s.sess r.client with
  |none=>
   have hd:doneP s r=(s,⟨9,0,0,[]⟩):=by unfold doneP;rw[if_neg (by rw[h1];simp),hf]
   rw[hd]
   exact⟨.inl rfl,by simp only;omega,by simp only;omega⟩
  |some x=>
   have hxn:=(zbD.1 (h.sok x (List.mem_of_find?_eq_some hf)).1).2.1
   cases hx:x.num !=r.session
   ·rw[zj4 h1 hf hx]
    have h1':=zeH h hf
    have hf1:(findS (renewP s.sess r.client s.time).1 r.client).isSome=true:=by rw[zcF h hf,zek (zeG h hf).1,hf];rfl
    split
    ·rename_i hk
     obtain⟨_,_,_,ta⟩:=zfp (w:=r.kind==3) h1' (hnm hk) hc hf1 hT
     simp only at ta
     split
     ·exact⟨.inr ⟨hxn.1,rfl⟩,by simp only;omega,by simp only;omega⟩
     ·split
      ·exact⟨.inr ⟨hxn.1,rfl⟩,by simp only;omega,ta⟩
      ·exact⟨.inr ⟨hxn.1,rfl⟩,by simp only;omega,by simp only;omega⟩
    ·split
     ·split
      ·exact⟨.inr ⟨hxn.1,rfl⟩,by simp only;omega,by simp only;omega⟩
      ·exact⟨.inr ⟨hxn.1,rfl⟩,by simp only;omega,by simp only;omega⟩
     ·split
      ·exact⟨.inl rfl,by simp only;omega,by simp only;omega⟩
      ·exact⟨.inr ⟨hxn.1,rfl⟩,by simp only;omega,by simp only;omega⟩
   ·have hd:doneP s r=(s,⟨9,0,0,[]⟩):=by unfold doneP;rw[if_neg (by rw[h1];simp),hf];simp only;rw[if_pos hx]
    rw[hd]
    exact⟨.inl rfl,by simp only;omega,by simp only;omega⟩
 ·have hd:doneP s r=openedP s r.client:=by unfold doneP;rw[if_pos h1]
  rw[hd]
  unfold openedP
  cases hf:findS s.sess r.client with
  |some x=>
   have hxn:=(zbD.1 (h.sok x (List.mem_of_find?_eq_some hf)).1).2.1
   exact⟨.inr ⟨hxn.1,rfl⟩,by simp only;omega,by simp only;omega⟩
  |none=>
   simp only
   split
   ·exact⟨.inl rfl,by simp only;omega,by simp only;omega⟩
   ·exact⟨.inr ⟨by simp only;omega,rfl⟩,by simp only;omega,by simp only;omega⟩
theorem zhV {s:St} (h:RightS s) {r:Req} (hm:Req.may r=true) (hN:s.num+1≤High) (hT:s.token+4≤High):answerB ⟨r.client,r.seq,(doneP s r).2⟩=true:=by
 obtain⟨hc,hq,_⟩:=zeD hm
 have hd:=zdY h hm hN hT
 obtain⟨h1,h2,h3⟩:=zjj h hm hN hT
 have hcl:=zbJ.1 hc
 have hcode:=hd.code
 have hrt:=hd.rt
 unfold answerB replyB
 simp only[Bool.and_eq_true,decide_eq_true_eq,Bool.not_eq_true',Bool.or_eq_false_iff,Bool.and_eq_false_iff,decide_eq_false_iff_not]
 refine⟨⟨⟨⟨hcl.1,hcl.2⟩,hq.1⟩,hq.2⟩,⟨by omega, ?_⟩, ?_⟩
 ·rcases h1 with e|⟨e1,e2⟩
  ·rw[e];exact⟨by simp, .inr (by simp)⟩
  ·refine⟨?_, .inl (by simp;omega)⟩
   rw[e2]
   unfold heldP
   rw[List.length_map]
   have:=List.length_filter_le (fun k:Lk=>k.holder==r.client) (doneP s r).1.locks
   have:=hrt.ll
   omega
 ·rcases h1 with e|⟨e1,e2⟩
  ·rw[e];rfl
  ·rw[e2]
   exact zgG hrt.ls (fun k hk=>(hrt.lok k hk).1) _
set_option maxHeartbeats 2000000 in
theorem ziq (s:St) (h:Small s) (hr:RightS s) (r:Req) (hro:r.ok) (hdr:Req.may r=true→replyOk (doneP s r).2):CallOK Tryz.prog 16 [.f (.agg s.lent), .f (.agg (r.enc.map C.d))]
  (fun x o=>x=[stRF (applyP s r).1,replyRF (applyP s r).2.1,rb (applyP s r).2.2]∧o=[]):=by
 refine CallOK.nil ?_
 refine zak zaA mixed (T:=Ty) (n:=59) Tryz.func16 (c:=Tryz.f16.body.getD .skip) rfl Tryz.results16 Tryz.ntmps16 Tryz.call16 ?_
 simp only[Tryz.f16,Option.getD]
 have hcp:=zgK s h
 have hmr:=zlf r hro
 have hfr:=zi4 s.memos hr.ms h.memos r.client r.seq
 have hla:=znT s.memos hr.ms h.memos (fun m hm=>(h.held m hm).1) r.client
 repeat'(first|(with_reducible first|refine zaQ 2 ?_|refine zaI 2 ?_|refine zaJ 2 ?_)|(with_reducible first|refine zaa _ _ ?_|refine zae ?_|refine zaf ?_)|rw[zad]|simp only[zY,Int.reduceEq,Int.reduceBEq,Int.reduceBNe,Nat.reduceSub,Nat.reduceEqDiff,Nat.reduceAdd,Nat.reduceMul,Nat.reduceLeDiff,Nat.reduceLT,Nat.reduceBEq,reduceCtorEq]|((first|((try refine zai ?_);apply zaj)|(apply zah;intro _));(solve|exact(hcp)|(refine CallOK.le (hcp) ?_;exact zM)|fail);try case hn=>rfl)|refine zab ?_|refine zac (fun hb=> ?_) (fun hb=> ?_)|(refine And.intro ?_ ?_;exact zI)|refine And.intro (fun hg=> ?_) (fun hg=> ?_)|exact zC|fail)
 refine zaO (zaM (Gh.sealF 2 3 (.own ⟨2,4,10⟩ 0 s.sess.length) ?_) ?_)
 ·simp only[sealFOK,zY,Nat.reduceSub,Nat.reduceEqDiff,Nat.reduceAdd,Nat.reduceMul,Nat.reduceLeDiff,Nat.reduceLT,Nat.reduceBEq,reduceCtorEq]
 simp only[sealFR,zY,Nat.reduceSub,Nat.reduceEqDiff,Nat.reduceAdd,Nat.reduceMul,Nat.reduceLeDiff,Nat.reduceLT,Nat.reduceBEq,reduceCtorEq]
 refine zaM (Gh.sealF 2 4 (.own ⟨2,5,11⟩ 0 s.locks.length) ?_) ?_
 ·simp only[sealFOK,zY,Nat.reduceSub,Nat.reduceEqDiff,Nat.reduceAdd,Nat.reduceMul,Nat.reduceLeDiff,Nat.reduceLT,Nat.reduceBEq,reduceCtorEq]
 simp only[sealFR,zY,Nat.reduceSub,Nat.reduceEqDiff,Nat.reduceAdd,Nat.reduceMul,Nat.reduceLeDiff,Nat.reduceLT,Nat.reduceBEq,reduceCtorEq]
 refine zaM (Gh.sealF 2 5 (.own ⟨2,6,12⟩ 0 s.memos.length) ?_) ?_
 ·simp only[sealFOK,zY,Nat.reduceSub,Nat.reduceEqDiff,Nat.reduceAdd,Nat.reduceMul,Nat.reduceLeDiff,Nat.reduceLT,Nat.reduceBEq,reduceCtorEq]
 simp only[sealFR,zY,Nat.reduceSub,Nat.reduceEqDiff,Nat.reduceAdd,Nat.reduceMul,Nat.reduceLeDiff,Nat.reduceLT,Nat.reduceBEq,reduceCtorEq]
 cases hm:Req.may r
 ·rw[hm]at hmr
  have ha:applyP s r=(s,⟨1,0,0,[]⟩,false):=by unfold applyP;rw[hm];rfl
  rw[ha]
  repeat'(first|(with_reducible first|refine zaa _ _ ?_|refine zae ?_|refine zaf ?_)|rw[zad]|simp only[zY,Int.reduceEq,Int.reduceBEq,Int.reduceBNe,Nat.reduceSub,Nat.reduceEqDiff,Nat.reduceAdd,Nat.reduceMul,Nat.reduceLeDiff,Nat.reduceLT,Nat.reduceBEq,reduceCtorEq]|((first|((try refine zai ?_);apply zaj)|(apply zah;intro _));(solve|exact(hmr)|(refine CallOK.le (hmr) ?_;exact zM)|fail);try case hn=>rfl)|refine zab ?_|refine zac (fun hb=> ?_) (fun hb=> ?_)|(refine And.intro ?_ ?_;exact zI)|refine And.intro (fun hg=> ?_) (fun hg=> ?_)|exact zC|fail)
  simp[rfsLe,rfLe,rosLe,roLe]
 ·rw[hm]at hmr
  have hdo:=zng s h hr r hm
  have hms:=zfk h r
  have hke:=znU (doneP s r).1.memos (by rw[hms];exact hr.ms) (by rw[hms];exact h.memos) (by rw[hms];exact fun m hm=>(h.held m hm).1) ⟨r.client,r.seq,(doneP s r).2⟩ (hdr hm)
  cases f1:freshP s.memos r.client r.seq== -1
  ·cases f0:freshP s.memos r.client r.seq==0
   ·have ha:applyP s r=({(doneP s r).1 with memos:=keepP (doneP s r).1.memos ⟨r.client,r.seq,(doneP s r).2⟩},(doneP s r).2,true):=by
     unfold applyP
     rw[if_neg (by rw[hm];simp),if_neg (by simpa using f1),if_neg (by simpa using f0)]
    rw[ha]
    repeat'(first|(with_reducible first|refine zaa _ _ ?_|refine zae ?_|refine zaf ?_)|rw[zad]|simp only[f1,f0,zY,Int.reduceEq,Int.reduceBEq,Int.reduceBNe,Nat.reduceSub,Nat.reduceEqDiff,Nat.reduceAdd,Nat.reduceMul,Nat.reduceLeDiff,Nat.reduceLT,Nat.reduceBEq,reduceCtorEq]|((first|((try refine zai ?_);apply zaj)|(apply zah;intro _));(solve|exact(hmr)|exact(hfr)|exact(hdo)|exact(hke)|(refine CallOK.le (hmr) ?_;exact zM)|(refine CallOK.le (hfr) ?_;exact zM)|(refine CallOK.le (hdo) ?_;exact zM)|(refine CallOK.le (hke) ?_;exact zM)|fail);try case hn=>rfl)|refine zab ?_|refine zac (fun hb=> ?_) (fun hb=> ?_)|(refine And.intro ?_ ?_;exact zI)|refine And.intro (fun hg=> ?_) (fun hg=> ?_)|exact zC|fail)
    exact⟨rfl,⟨.inl rfl, .inl rfl, .inl rfl, .inl rfl, .inl rfl, .inr ⟨rfl,rfl,zaD⟩,trivial⟩,⟨.inl rfl, .inl rfl, .inl rfl, .inl rfl,trivial⟩, .inl rfl,trivial⟩
   ·have ha:applyP s r=(s,((findM s.memos r.client).getD noMemo).reply,false):=by
     unfold applyP
     rw[if_neg (by rw[hm];simp),if_neg (by simpa using f1),if_pos (by simpa using f0)]
     cases findM s.memos r.client<;>rfl
    rw[ha]
    repeat'(first|(with_reducible first|refine zaa _ _ ?_|refine zae ?_|refine zaf ?_)|rw[zad]|simp only[f1,f0,zY,Int.reduceEq,Int.reduceBEq,Int.reduceBNe,Nat.reduceSub,Nat.reduceEqDiff,Nat.reduceAdd,Nat.reduceMul,Nat.reduceLeDiff,Nat.reduceLT,Nat.reduceBEq,reduceCtorEq]|((first|((try refine zai ?_);apply zaj)|(apply zah;intro _));(solve|exact(hmr)|exact(hfr)|exact(hla)|(refine CallOK.le (hmr) ?_;exact zM)|(refine CallOK.le (hfr) ?_;exact zM)|(refine CallOK.le (hla) ?_;exact zM)|fail);try case hn=>rfl)|refine zab ?_|refine zac (fun hb=> ?_) (fun hb=> ?_)|(refine And.intro ?_ ?_;exact zI)|refine And.intro (fun hg=> ?_) (fun hg=> ?_)|exact zC|fail)
    simp[rfsLe,rfLe,rosLe,roLe]
  ·have ha:applyP s r=(s,⟨0,0,0,[]⟩,false):=by
    unfold applyP
    rw[if_neg (by rw[hm];simp),if_pos (by simpa using f1)]
   rw[ha]
   repeat'(first|(with_reducible first|refine zaa _ _ ?_|refine zae ?_|refine zaf ?_)|rw[zad]|simp only[f1,zY,Int.reduceEq,Int.reduceBEq,Int.reduceBNe,Nat.reduceSub,Nat.reduceEqDiff,Nat.reduceAdd,Nat.reduceMul,Nat.reduceLeDiff,Nat.reduceLT,Nat.reduceBEq,reduceCtorEq]|((first|((try refine zai ?_);apply zaj)|(apply zah;intro _));(solve|exact(hmr)|exact(hfr)|(refine CallOK.le (hmr) ?_;exact zM)|(refine CallOK.le (hfr) ?_;exact zM)|fail);try case hn=>rfl)|refine zab ?_|refine zac (fun hb=> ?_) (fun hb=> ?_)|(refine And.intro ?_ ?_;exact zI)|refine And.intro (fun hg=> ?_) (fun hg=> ?_)|exact zC|fail)
   simp[rfsLe,rfLe,rosLe,roLe]
end Go.Proofs.YtniafckaafcpbaaGreat
