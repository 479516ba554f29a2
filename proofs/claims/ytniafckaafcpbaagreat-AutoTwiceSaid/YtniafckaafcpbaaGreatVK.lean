import Derived.Test.YtniafckaafcpbaaGreatVJ
namespace Go.Proofs.YtniafckaafcpbaaGreat
open Go.Pk
set_option maxRecDepth 100000
set_option linter.unusedSimpArgs false
set_option linter.unusedVariables false
theorem zlf {l:List Memo} (hs:SM l) {a:Memo} (ha:answerB a=true) (hf:freshP l a.client a.seq=1):findM (keepP l a) a.client=some a:=by
 have hk:keepP l a=kR a l false:=by
  rw[zin hs]
  unfold keepP
  rw[if_neg (by rw[ha,hf];simp)]
 rw[hk]
 have key:∀(l:List Memo),findM (kR a l false) a.client=some a:=by
  intro l
  induction l with
  |nil=>simp[kR,findM]
  |cons m r ih=>
   rw[kR]
   split
   ·simp[findM]
   ·rename_i h1
    split
    ·simp[findM]
    ·unfold findM
     rw[List.find?_cons_of_neg (by simpa using h1)]
     exact ih
 exact key l
theorem zlg {s:St} (hr:RightS s) {q:Req} (h:Small s) (hN:s.num+1≤High) (hT:s.token+4≤High) (hd:(applyP s q).2.2=true):
  Req.may q=true∧findM (applyP s q).1.memos q.client=some ⟨q.client,q.seq,(applyP s q).2.1⟩:=by
 unfold applyP at hd⊢
 split at hd
 ·cases hd
 ·rename_i hm
  have hm':Req.may q=true:=by simpa using hm
  rw[if_neg hm]
  split at hd
  ·cases hd
  ·rename_i h1
   rw[if_neg h1]
   split at hd
   ·cases hd
   ·rename_i h2
    rw[if_neg h2]
    refine⟨hm', ?_⟩
    have hf:freshP s.memos q.client q.seq=1:=by
     rcases zfc s.memos q.client q.seq with e|e|e
     ·exact e
     ·exact absurd e h2
     ·exact absurd e h1
    simp only
    rw[zd3 h q]
    exact zlf (a:=⟨q.client,q.seq,(doneP s q).2⟩) hr.ms (zeV hr hm' hN hT) hf
theorem zik {t:St} {q:Req} {x:Reply} (hm:Req.may q=true) (hf:findM t.memos q.client=some ⟨q.client,q.seq,x⟩):applyP t q=(t,x,false):=by
 have hfr:freshP t.memos q.client q.seq=0:=by unfold freshP;rw[hf];simp
 unfold applyP
 rw[if_neg (by rw[hm];simp),hfr,if_neg (by decide),if_pos rfl,hf]
 rfl
theorem zlh {t:St} {q:Req} {x:Reply} (hm:Req.may q=true) (hq:1<q.seq) (hf:findM t.memos q.client=some ⟨q.client,q.seq,x⟩):applyP t {q with seq:=q.seq - 1}=(t,⟨0,0,0,[]⟩,false):=by
 have hfr:freshP t.memos q.client (q.seq - 1)= -1:=by
  unfold freshP;rw[hf]
  simp only
  rw[if_neg (by omega),if_neg (by omega)]
 have hm2:Req.may {q with seq:=q.seq - 1}=true:=by
  unfold Req.may at hm⊢
  simp only[Bool.and_eq_true,decide_eq_true_eq]at hm⊢
  exact⟨⟨⟨⟨hm.1.1.1.1,hm.1.1.1.2⟩,by omega⟩,by have:=hm.1.2;omega⟩,hm.2⟩
 unfold applyP
 rw[if_neg (by rw[hm2];simp)]
 simp only
 rw[hfr,if_pos rfl]
theorem zli {s:St} {q:Req} (hd:(applyP s q).2.2=false):(applyP s q).1=s:=by
 unfold applyP at hd⊢
 split
 ·rfl
 ·rename_i h0
  rw[if_neg h0]at hd
  split
  ·rfl
  ·rename_i h1
   rw[if_neg h1]at hd
   split
   ·rfl
   ·rename_i h2
    rw[if_neg h2]at hd
    cases hd
theorem zmo {s:St} (hr:RightS s) {a:Act} (ha:actOk a):0≤(reqA s a).seq:=by
 obtain⟨_,_,h2,_,_,_⟩:=ha
 unfold byteI at h2
 unfold reqA
 simp only
 split
 ·split
  ·rename_i h
   obtain⟨m,hm⟩:=Option.isSome_iff_exists.1 h
   rw[hm]
   have:=(zby (hr.mok m (List.mem_of_find?_eq_some hm))).2.1
   simp only[Option.getD_some];omega
  ·decide
 ·unfold reqN;simp only;omega
theorem zjK {s:St} (hr:RightS s) (h:Small s) {q:Req} (hN:s.num+1≤High) (hT:s.token+4≤High):(applyP s q).2.1.held.length<2^30:=by
 unfold applyP
 split
 ·simp
 ·rename_i hm
  split
  ·simp
  ·split
   ·cases hf:findM s.memos q.client with
    |none=>simp
    |some m=>exact(h.held m (List.mem_of_find?_eq_some hf)).1
   ·exact(zbT hr (by simpa using hm) hN hT).1
set_option maxHeartbeats 8000000 in
theorem zhS (acts:List Act) (hl:acts.length<2^60) (ha:∀a∈acts,actOk a) (a:Act) (hao:actOk a):
  CallOK Tryz.prog 5 [.f (al acts.length (actsE acts)), .f (.agg (a.enc.map C.d))] (fun r o=>r=[rb true]∧o=[]):=by
 refine zak zay mixed (T:=Ty) (n:=116) Tryz.func5 (c:=Tryz.f5.body.getD .skip) rfl Tryz.results5 Tryz.ntmps5 Tryz.call5 ?_
 simp only[Tryz.f5,Option.getD]
 have haw:=zmq
 have hH:High=2305843009213693952:=rfl
 have hmk:=zmp acts
 have hmd:=znX acts hl ha
 generalize madeS acts=s at*
 obtain⟨hr,hn,ht⟩:=hmk
 have hsm:=zaZ hr
 have hco:=zdW s.locks hsm.locks (fun k hk=>(hsm.line k hk).1)
 have hrq:=zfN s hsm hr a hao
 have hro:=zlk hr hao
 have hrs:=zmo hr hao
 generalize reqA s a=q at*
 have hap:=zev s hsm hr q hro (fun hm=>zbT hr hm (by omega) (by omega))
 have hdr:=zdt hr q (by omega) (by omega)
 have hdid:=zlg (q:=q) hr hsm (by omega) (by omega)
 have hnot:=zli (s:=s) (q:=q)
 have hrx:=zjK hr hsm (q:=q) (by omega) (by omega)
 have hsame0:=zi6 s hsm
 have hold:(applyP s q).2.2=false→applyP (applyP s q).1 q=applyP s q:=fun h=>by rw[hnot h]
 generalize hU:applyP s q=U at*
 obtain⟨t,x,d⟩:=U
 simp only at hap hdr hdid hnot hrx hold
 have htr:=hdr.rt
 have hts:=zaZ htr
 have htn:=hdr.num
 have htt:=hdr.tok
 have hri:=ziZ t hts
 rw[zd5.2 htr]at hri
 have hap2:=zev t hts htr q hro (fun hm=>zbT htr hm (by omega) (by omega))
 have hq1:IntKind.i64.wrap (q.seq - 1)=q.seq - 1:=by have:=hro.2.1;unfold i64 at this;exact wrap64 (by omega) (by omega)
 have hoo:Req.ok {q with seq:=q.seq - 1}:=⟨hro.1,by have:=hro.2.1;unfold i64 at*;simp only;omega,hro.2.2⟩
 have hap3:=zev t hts htr {q with seq:=q.seq - 1} hoo (fun hm=>zbT htr hm (by omega) (by omega))
 have hsame:=zi6 t hts
 have hsx:=zea x hrx
 have hs0:=zea ⟨0,0,0,[]⟩ (by decide)
 have hb1:(s.sess.length*24≤2^47)=True:=eq_true (by have:=hsm.sess;omega)
 cases d
 ·have e1:=hnot rfl
  subst e1
  have e2:=hold rfl
  rw[e2]at hap2
  repeat'(first|(with_reducible first|refine zaa _ _ ?_|refine zae ?_|refine zaf ?_)|rw[zad]|simp only[hb1,hq1,zaz,zcI,zY,Int.reduceEq,Int.reduceBEq,Int.reduceBNe,Nat.reduceSub,Nat.reduceEqDiff,Nat.reduceAdd,Nat.reduceMul,Nat.reduceLeDiff,Nat.reduceLT,Nat.reduceBEq,reduceCtorEq]|((first|((try refine zai ?_);apply zaj)|(apply zah;intro _));(solve|exact(hmd)|exact(hco)|exact(hrq)|exact(hap)|exact(hap2)|exact(hap3)|exact(hsame)|exact(hsx)|exact(hs0)|exact(hri)|exact(haw)|(refine CallOK.le (hmd) ?_;exact zM)|(refine CallOK.le (hco) ?_;exact zM)|(refine CallOK.le (hrq) ?_;exact zM)|(refine CallOK.le (hap) ?_;exact zM)|(refine CallOK.le (hap2) ?_;exact zM)|(refine CallOK.le (hap3) ?_;exact zM)|(refine CallOK.le (hsame) ?_;exact zM)|(refine CallOK.le (hsx) ?_;exact zM)|(refine CallOK.le (hs0) ?_;exact zM)|(refine CallOK.le (hri) ?_;exact zM)|(refine CallOK.le (haw) ?_;exact zM)|fail);try case hn=>rfl)|refine zab ?_|refine zac (fun hb=> ?_) (fun hb=> ?_)|(refine And.intro ?_ ?_;exact zI)|refine And.intro (fun hg=> ?_) (fun hg=> ?_)|exact zC|fail)
 ·obtain⟨hm,hf⟩:=hdid rfl
  rw[zik hm hf]at hap2
  cases hq:decide (q.seq>1)
  ·repeat'(first|(with_reducible first|refine zaa _ _ ?_|refine zae ?_|refine zaf ?_)|rw[zad]|simp only[hb1,hq1,hq,zaz,zcI,zY,Int.reduceEq,Int.reduceBEq,Int.reduceBNe,Nat.reduceSub,Nat.reduceEqDiff,Nat.reduceAdd,Nat.reduceMul,Nat.reduceLeDiff,Nat.reduceLT,Nat.reduceBEq,reduceCtorEq]|((first|((try refine zai ?_);apply zaj)|(apply zah;intro _));(solve|exact(hmd)|exact(hco)|exact(hrq)|exact(hap)|exact(hap2)|exact(hap3)|exact(hsame)|exact(hsame0)|exact(hsx)|exact(hs0)|exact(hri)|exact(haw)|(refine CallOK.le (hmd) ?_;exact zM)|(refine CallOK.le (hco) ?_;exact zM)|(refine CallOK.le (hrq) ?_;exact zM)|(refine CallOK.le (hap) ?_;exact zM)|(refine CallOK.le (hap2) ?_;exact zM)|(refine CallOK.le (hap3) ?_;exact zM)|(refine CallOK.le (hsame) ?_;exact zM)|(refine CallOK.le (hsame0) ?_;exact zM)|(refine CallOK.le (hsx) ?_;exact zM)|(refine CallOK.le (hs0) ?_;exact zM)|(refine CallOK.le (hri) ?_;exact zM)|(refine CallOK.le (haw) ?_;exact zM)|fail);try case hn=>rfl)|refine zab ?_|refine zac (fun hb=> ?_) (fun hb=> ?_)|(refine And.intro ?_ ?_;exact zI)|refine And.intro (fun hg=> ?_) (fun hg=> ?_)|exact zC|fail)
  ·rw[zlh hm (by simpa using hq) hf]at hap3
   repeat'(first|(with_reducible first|refine zaa _ _ ?_|refine zae ?_|refine zaf ?_)|rw[zad]|simp only[hb1,hq1,hq,zaz,zcI,zY,Int.reduceEq,Int.reduceBEq,Int.reduceBNe,Nat.reduceSub,Nat.reduceEqDiff,Nat.reduceAdd,Nat.reduceMul,Nat.reduceLeDiff,Nat.reduceLT,Nat.reduceBEq,reduceCtorEq]|((first|((try refine zai ?_);apply zaj)|(apply zah;intro _));(solve|exact(hmd)|exact(hco)|exact(hrq)|exact(hap)|exact(hap2)|exact(hap3)|exact(hsame)|exact(hsame0)|exact(hsx)|exact(hs0)|exact(hri)|exact(haw)|(refine CallOK.le (hmd) ?_;exact zM)|(refine CallOK.le (hco) ?_;exact zM)|(refine CallOK.le (hrq) ?_;exact zM)|(refine CallOK.le (hap) ?_;exact zM)|(refine CallOK.le (hap2) ?_;exact zM)|(refine CallOK.le (hap3) ?_;exact zM)|(refine CallOK.le (hsame) ?_;exact zM)|(refine CallOK.le (hsame0) ?_;exact zM)|(refine CallOK.le (hsx) ?_;exact zM)|(refine CallOK.le (hs0) ?_;exact zM)|(refine CallOK.le (hri) ?_;exact zM)|(refine CallOK.le (haw) ?_;exact zM)|fail);try case hn=>rfl)|refine zab ?_|refine zac (fun hb=> ?_) (fun hb=> ?_)|(refine And.intro ?_ ?_;exact zI)|refine And.intro (fun hg=> ?_) (fun hg=> ?_)|exact zC|fail)
end Go.Proofs.YtniafckaafcpbaaGreat
