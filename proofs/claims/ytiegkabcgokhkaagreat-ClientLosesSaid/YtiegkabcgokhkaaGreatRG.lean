import Derived.Test.YtiegkabcgokhkaaGreatRF
namespace Go.Proofs.YtiegkabcgokhkaaGreat
open Go.Pk
set_option maxRecDepth 100000
set_option linter.unusedSimpArgs false
set_option linter.unusedVariables false
abbrev rep0:Reply:=⟨0,0,0,[]⟩
def dReply (bs:List Int) (p:Int):Reply×Int×Int:=
 if(dByte bs p).2.2≠0 then(rep0,0,(dByte bs p).2.2)else
 let s:=dNum bs (dByte bs p).2.1
 if s.2.2≠0 then(rep0,0,s.2.2)else
 let a:=dByte bs s.2.1
 if a.2.2≠0 then(rep0,0,a.2.2)else
 let n:=dByte bs a.2.1
 if n.2.2≠0 then(rep0,0,n.2.2)else
 if n.1>4 then(rep0,0,4)else
 let g:=dGrants bs n.1.toNat n.2.1 []
 if g.2.2≠0 then(rep0,0,g.2.2)else
 if replyB ⟨(dByte bs p).1,s.1,a.1,g.1⟩=false then(rep0,0,4)else(⟨(dByte bs p).1,s.1,a.1,g.1⟩,g.2.1,0)
theorem zg9 {bs:List Int} (h:BsOk bs) {p:Int}:byteI (dByte bs p).1:=by
 unfold dByte
 cases hs:shortP bs.length p 1
 ·obtain⟨h1,h2,h3⟩:=zbA hs
  rw[if_neg (by simp)]
  exact zci (by omega) h.b
 ·rw[if_pos rfl];exact⟨by decide,by decide⟩
theorem ziZ {bs:List Int} {p most:Int}:(dText bs p most).1.size≤bs.length:=by
 unfold dText
 split
 ·simp
 ·split
  ·simp
  ·split
   ·simp
   ·simp only[strOf,ByteArray.size,List.size_toArray,List.length_map,List.length_take,List.length_drop]
    omega
theorem zdY {bs:List Int}:∀{n:Nat} {p:Int} {acc:List Grant},(∀g∈acc,g.name.size≤bs.length)→(dGrants bs n p acc).1.length≤acc.length+n∧∀g∈(dGrants bs n p acc).1,g.name.size≤bs.length
 |0,p,acc,h=>⟨Nat.le_refl _,h⟩
 |n+1,p,acc,h=>by
  rw[dGrants]
  split
  ·exact⟨Nat.zero_le _,by simp⟩
  ·split
   ·exact⟨Nat.zero_le _,by simp⟩
   ·have:=zdY (bs:=bs) (n:=n) (p:=(dNum bs (dText bs p 12).2.1).2.1) (acc:=acc++[⟨(dText bs p 12).1,(dNum bs (dText bs p 12).2.1).1⟩]) (fun g hg=>by
     rcases List.mem_append.1 hg with hg|hg
     ·exact h g hg
     ·simp at hg;subst hg;exact ziZ)
    rw[List.length_append,List.length_singleton]at this
    exact⟨by omega,this.2⟩
abbrev replyRD (r:Reply):RF:= .agg (r.enc.map RO.d)
set_option maxHeartbeats 1000000 in
theorem zhF (bs:List Int) (p:Int) (h:BsOk bs) (hp:i64 p):
  CallOK Tryz.prog 91 [.f (asl bs.length (bytesE bs)), .f (ai p)] (fun r o=>r=[replyRD (dReply bs p).1,ri (dReply bs p).2.1,ri (dReply bs p).2.2]∧o=[]):=by
 refine CallOK.nil ?_
 refine zal zat mixed (T:=Ty) (n:=82) Tryz.func91 (c:=Tryz.f91.body.getD .skip) rfl Tryz.results91 Tryz.ntmps91 Tryz.call91 ?_
 simp only[Tryz.f91,Option.getD]
 have hl:=h.l
 have h1:=zdM bs p h hp
 have h2:=zhG bs (dByte bs p).2.1 h (zd9 h.l zb6)
 have h3:=zdM bs (dNum bs (dByte bs p).2.1).2.1 h (zd9 h.l zdN)
 have h4:=zdM bs (dByte bs (dNum bs (dByte bs p).2.1).2.1).2.1 h (zd9 h.l zb6)
 unfold dReply
 simp only
 obtain⟨b,hb⟩:∃b,b=dByte bs p:=⟨_,rfl⟩
 rw[←hb]at h1 h2 h3 h4⊢
 obtain⟨s,hs⟩:∃s,s=dNum bs b.2.1:=⟨_,rfl⟩
 rw[←hs]at h2 h3 h4⊢
 obtain⟨a,ha⟩:∃a,a=dByte bs s.2.1:=⟨_,rfl⟩
 rw[←ha]at h3 h4⊢
 obtain⟨n,hn⟩:∃n,n=dByte bs a.2.1:=⟨_,rfl⟩
 rw[←hn]at h4⊢
 have hnv:byteI n.1:=by rw[hn];exact zg9 h
 have hnn:i64 n.2.1:=by rw[hn];exact zd9 h.l zb6
 have hbv:byteI b.1:=by rw[hb];exact zg9 h
 unfold byteI at hnv hbv
 have h5:=zkC bs n.2.1 n.1.toNat h hnn (by omega)
 rw[Int.toNat_of_nonneg hnv.1]at h5
 have hgk:=zdY (bs:=bs) (n:=n.1.toNat) (p:=n.2.1) (acc:=[]) (by simp)
 obtain⟨g,hg⟩:∃g,g=dGrants bs n.1.toNat n.2.1 []:=⟨_,rfl⟩
 rw[←hg]at h5 hgk⊢
 have h6:=zch ⟨b.1,s.1,a.1,g.1⟩ ⟨by have:=hgk.1;simp only[List.length_nil]at this;simp only;omega,fun x hx=>by have:=hgk.2 x hx;omega⟩
 clear hgk
 cases e1:(b.2.2 !=0)
 ·rw[if_neg (by simpa using e1)]
  cases e2:(s.2.2 !=0)
  ·rw[if_neg (by simpa using e2)]
   cases e3:(a.2.2 !=0)
   ·rw[if_neg (by simpa using e3)]
    cases e4:(n.2.2 !=0)
    ·rw[if_neg (by simpa using e4)]
     cases e5:decide (n.1>4)
     ·rw[if_neg (by simpa using e5)]
      cases e6:(g.2.2 !=0)
      ·rw[if_neg (by simpa using e6)]
       cases e7:replyB ⟨b.1,s.1,a.1,g.1⟩
       ·rw[e7]at h6
        rw[if_pos rfl]
        repeat'(first|(with_reducible first|refine zaa _ _ ?_|refine zad ?_|refine zae ?_)|rw[zaf]|simp only[e1,e2,e3,e4,e5,e6,zY,Int.reduceEq,Int.reduceBEq,Int.reduceBNe,Nat.reduceSub,Nat.reduceEqDiff,Nat.reduceAdd,Nat.reduceMul,Nat.reduceLeDiff,Nat.reduceLT,Nat.reduceBEq,reduceCtorEq]|((first|((try refine zah ?_);apply zak)|(apply zai;intro _));(solve|exact(h1)|exact(h2)|exact(h3)|exact(h4)|exact(h5)|exact(h6)|(refine CallOK.le (h1) ?_;exact zM)|(refine CallOK.le (h2) ?_;exact zM)|(refine CallOK.le (h3) ?_;exact zM)|(refine CallOK.le (h4) ?_;exact zM)|(refine CallOK.le (h5) ?_;exact zM)|(refine CallOK.le (h6) ?_;exact zM)|fail);try case hn=>rfl)|refine zab ?_|refine zac (fun hb=> ?_) (fun hb=> ?_)|(refine And.intro ?_ ?_;exact zI)|refine And.intro (fun hg=> ?_) (fun hg=> ?_)|exact zC|fail)
        show(roLe _ _∧roLe _ _∧roLe _ _∧roLe _ _∧True)∧roLe _ _∧roLe _ _∧True
        simp[roLe, -List.length_flatMap,zaD]
       ·rw[e7]at h6
        rw[if_neg (by simp)]
        repeat'(first|(with_reducible first|refine zaa _ _ ?_|refine zad ?_|refine zae ?_)|rw[zaf]|simp only[e1,e2,e3,e4,e5,e6,zY,Int.reduceEq,Int.reduceBEq,Int.reduceBNe,Nat.reduceSub,Nat.reduceEqDiff,Nat.reduceAdd,Nat.reduceMul,Nat.reduceLeDiff,Nat.reduceLT,Nat.reduceBEq,reduceCtorEq]|((first|((try refine zah ?_);apply zak)|(apply zai;intro _));(solve|exact(h1)|exact(h2)|exact(h3)|exact(h4)|exact(h5)|exact(h6)|(refine CallOK.le (h1) ?_;exact zM)|(refine CallOK.le (h2) ?_;exact zM)|(refine CallOK.le (h3) ?_;exact zM)|(refine CallOK.le (h4) ?_;exact zM)|(refine CallOK.le (h5) ?_;exact zM)|(refine CallOK.le (h6) ?_;exact zM)|fail);try case hn=>rfl)|refine zab ?_|refine zac (fun hb=> ?_) (fun hb=> ?_)|(refine And.intro ?_ ?_;exact zI)|refine And.intro (fun hg=> ?_) (fun hg=> ?_)|exact zC|fail)
        show(roLe _ _∧roLe _ _∧roLe _ _∧roLe _ _∧True)∧roLe _ _∧roLe _ _∧True
        simp[roLe, -List.length_flatMap,zaD]
      ·rw[if_pos (by simpa using e6)]
       repeat'(first|(with_reducible first|refine zaa _ _ ?_|refine zad ?_|refine zae ?_)|rw[zaf]|simp only[e1,e2,e3,e4,e5,e6,zY,Int.reduceEq,Int.reduceBEq,Int.reduceBNe,Nat.reduceSub,Nat.reduceEqDiff,Nat.reduceAdd,Nat.reduceMul,Nat.reduceLeDiff,Nat.reduceLT,Nat.reduceBEq,reduceCtorEq]|((first|((try refine zah ?_);apply zak)|(apply zai;intro _));(solve|exact(h1)|exact(h2)|exact(h3)|exact(h4)|exact(h5)|(refine CallOK.le (h1) ?_;exact zM)|(refine CallOK.le (h2) ?_;exact zM)|(refine CallOK.le (h3) ?_;exact zM)|(refine CallOK.le (h4) ?_;exact zM)|(refine CallOK.le (h5) ?_;exact zM)|fail);try case hn=>rfl)|refine zab ?_|refine zac (fun hb=> ?_) (fun hb=> ?_)|(refine And.intro ?_ ?_;exact zI)|refine And.intro (fun hg=> ?_) (fun hg=> ?_)|exact zC|fail)
       show(roLe _ _∧roLe _ _∧roLe _ _∧roLe _ _∧True)∧roLe _ _∧roLe _ _∧True
       simp[roLe, -List.length_flatMap,zaD]
     ·rw[if_pos (by simpa using e5)]
      repeat'(first|(with_reducible first|refine zaa _ _ ?_|refine zad ?_|refine zae ?_)|rw[zaf]|simp only[e1,e2,e3,e4,e5,zY,Int.reduceEq,Int.reduceBEq,Int.reduceBNe,Nat.reduceSub,Nat.reduceEqDiff,Nat.reduceAdd,Nat.reduceMul,Nat.reduceLeDiff,Nat.reduceLT,Nat.reduceBEq,reduceCtorEq]|((first|((try refine zah ?_);apply zak)|(apply zai;intro _));(solve|exact(h1)|exact(h2)|exact(h3)|exact(h4)|(refine CallOK.le (h1) ?_;exact zM)|(refine CallOK.le (h2) ?_;exact zM)|(refine CallOK.le (h3) ?_;exact zM)|(refine CallOK.le (h4) ?_;exact zM)|fail);try case hn=>rfl)|refine zab ?_|refine zac (fun hb=> ?_) (fun hb=> ?_)|(refine And.intro ?_ ?_;exact zI)|refine And.intro (fun hg=> ?_) (fun hg=> ?_)|exact zC|fail)
      show(roLe _ _∧roLe _ _∧roLe _ _∧roLe _ _∧True)∧roLe _ _∧roLe _ _∧True
      simp[roLe, -List.length_flatMap,zaD]
    ·rw[if_pos (by simpa using e4)]
     repeat'(first|(with_reducible first|refine zaa _ _ ?_|refine zad ?_|refine zae ?_)|rw[zaf]|simp only[e1,e2,e3,e4,zY,Int.reduceEq,Int.reduceBEq,Int.reduceBNe,Nat.reduceSub,Nat.reduceEqDiff,Nat.reduceAdd,Nat.reduceMul,Nat.reduceLeDiff,Nat.reduceLT,Nat.reduceBEq,reduceCtorEq]|((first|((try refine zah ?_);apply zak)|(apply zai;intro _));(solve|exact(h1)|exact(h2)|exact(h3)|exact(h4)|(refine CallOK.le (h1) ?_;exact zM)|(refine CallOK.le (h2) ?_;exact zM)|(refine CallOK.le (h3) ?_;exact zM)|(refine CallOK.le (h4) ?_;exact zM)|fail);try case hn=>rfl)|refine zab ?_|refine zac (fun hb=> ?_) (fun hb=> ?_)|(refine And.intro ?_ ?_;exact zI)|refine And.intro (fun hg=> ?_) (fun hg=> ?_)|exact zC|fail)
     show(roLe _ _∧roLe _ _∧roLe _ _∧roLe _ _∧True)∧roLe _ _∧roLe _ _∧True
     simp[roLe, -List.length_flatMap,zaD]
   ·rw[if_pos (by simpa using e3)]
    repeat'(first|(with_reducible first|refine zaa _ _ ?_|refine zad ?_|refine zae ?_)|rw[zaf]|simp only[e1,e2,e3,zY,Int.reduceEq,Int.reduceBEq,Int.reduceBNe,Nat.reduceSub,Nat.reduceEqDiff,Nat.reduceAdd,Nat.reduceMul,Nat.reduceLeDiff,Nat.reduceLT,Nat.reduceBEq,reduceCtorEq]|((first|((try refine zah ?_);apply zak)|(apply zai;intro _));(solve|exact(h1)|exact(h2)|exact(h3)|(refine CallOK.le (h1) ?_;exact zM)|(refine CallOK.le (h2) ?_;exact zM)|(refine CallOK.le (h3) ?_;exact zM)|fail);try case hn=>rfl)|refine zab ?_|refine zac (fun hb=> ?_) (fun hb=> ?_)|(refine And.intro ?_ ?_;exact zI)|refine And.intro (fun hg=> ?_) (fun hg=> ?_)|exact zC|fail)
    show(roLe _ _∧roLe _ _∧roLe _ _∧roLe _ _∧True)∧roLe _ _∧roLe _ _∧True
    simp[roLe, -List.length_flatMap,zaD]
  ·rw[if_pos (by simpa using e2)]
   repeat'(first|(with_reducible first|refine zaa _ _ ?_|refine zad ?_|refine zae ?_)|rw[zaf]|simp only[e1,e2,zY,Int.reduceEq,Int.reduceBEq,Int.reduceBNe,Nat.reduceSub,Nat.reduceEqDiff,Nat.reduceAdd,Nat.reduceMul,Nat.reduceLeDiff,Nat.reduceLT,Nat.reduceBEq,reduceCtorEq]|((first|((try refine zah ?_);apply zak)|(apply zai;intro _));(solve|exact(h1)|exact(h2)|(refine CallOK.le (h1) ?_;exact zM)|(refine CallOK.le (h2) ?_;exact zM)|fail);try case hn=>rfl)|refine zab ?_|refine zac (fun hb=> ?_) (fun hb=> ?_)|(refine And.intro ?_ ?_;exact zI)|refine And.intro (fun hg=> ?_) (fun hg=> ?_)|exact zC|fail)
   show(roLe _ _∧roLe _ _∧roLe _ _∧roLe _ _∧True)∧roLe _ _∧roLe _ _∧True
   simp[roLe, -List.length_flatMap,zaD]
 ·rw[if_pos (by simpa using e1)]
  repeat'(first|(with_reducible first|refine zaa _ _ ?_|refine zad ?_|refine zae ?_)|rw[zaf]|simp only[e1,zY,Int.reduceEq,Int.reduceBEq,Int.reduceBNe,Nat.reduceSub,Nat.reduceEqDiff,Nat.reduceAdd,Nat.reduceMul,Nat.reduceLeDiff,Nat.reduceLT,Nat.reduceBEq,reduceCtorEq]|((first|((try refine zah ?_);apply zak)|(apply zai;intro _));(solve|exact(h1)|(refine CallOK.le (h1) ?_;exact zM)|fail);try case hn=>rfl)|refine zab ?_|refine zac (fun hb=> ?_) (fun hb=> ?_)|(refine And.intro ?_ ?_;exact zI)|refine And.intro (fun hg=> ?_) (fun hg=> ?_)|exact zC|fail)
  show(roLe _ _∧roLe _ _∧roLe _ _∧roLe _ _∧True)∧roLe _ _∧roLe _ _∧True
  simp[roLe, -List.length_flatMap,zaD]
abbrev memo0:Memo:=⟨0,0,rep0⟩
def dAnswer (bs:List Int) (p:Int):Memo×Int×Int:=
 if(dByte bs p).2.2≠0 then(memo0,0,(dByte bs p).2.2)else
 let s:=dNum bs (dByte bs p).2.1
 if s.2.2≠0 then(memo0,0,s.2.2)else
 let r:=dReply bs s.2.1
 if r.2.2≠0 then(memo0,0,r.2.2)else
 if answerB ⟨(dByte bs p).1,s.1,r.1⟩=false then(memo0,0,4)else(⟨(dByte bs p).1,s.1,r.1⟩,r.2.1,0)
abbrev memoRD (m:Memo):RF:= .agg (m.enc.map RO.d)
theorem zd8 {bs:List Int}:∀{n:Nat} {p:Int} {acc:List Grant},0≤p∧p≤bs.length→0≤(dGrants bs n p acc).2.1∧(dGrants bs n p acc).2.1≤bs.length
 |0,p,acc,h=>h
 |n+1,p,acc,h=>by
  rw[dGrants]
  split
  ·simp only;omega
  ·split
   ·simp only;omega
   ·exact zd8 zdN
theorem zha {bs:List Int} (h:BsOk bs) {p:Int}:(0≤(dReply bs p).2.1∧(dReply bs p).2.1≤bs.length)∧replyOk (dReply bs p).1:=by
 have hl:=h.l
 have h0:(0≤((rep0,(0:Int),(0:Int)):Reply×Int×Int).2.1∧((rep0,(0:Int),(0:Int)):Reply×Int×Int).2.1≤bs.length)∧replyOk rep0:=⟨by simp only;omega,by simp,by simp⟩
 unfold dReply
 simp only
 split
 ·exact h0
 split
 ·exact h0
 split
 ·exact h0
 split
 ·exact h0
 split
 ·exact h0
 rename_i h5
 split
 ·exact h0
 split
 ·exact h0
 ·have hgk:=zdY (bs:=bs) (n:=(dByte bs (dByte bs (dNum bs (dByte bs p).2.1).2.1).2.1).1.toNat) (p:=(dByte bs (dByte bs (dNum bs (dByte bs p).2.1).2.1).2.1).2.1) (acc:=[]) (by simp)
  simp only[List.length_nil]at hgk
  exact⟨zd8 zb6,by simp only;omega,fun g hg=>by have:=hgk.2 g hg;omega⟩
set_option maxHeartbeats 1000000 in
theorem zhb (bs:List Int) (p:Int) (h:BsOk bs) (hp:i64 p):
  CallOK Tryz.prog 62 [.f (asl bs.length (bytesE bs)), .f (ai p)] (fun r o=>r=[memoRD (dAnswer bs p).1,ri (dAnswer bs p).2.1,ri (dAnswer bs p).2.2]∧o=[]):=by
 refine CallOK.nil ?_
 refine zal zat mixed (T:=Ty) (n:=52) Tryz.func62 (c:=Tryz.f62.body.getD .skip) rfl Tryz.results62 Tryz.ntmps62 Tryz.call62 ?_
 simp only[Tryz.f62,Option.getD]
 have h1:=zdM bs p h hp
 have h2:=zhG bs (dByte bs p).2.1 h (zd9 h.l zb6)
 have h3:=zhF bs (dNum bs (dByte bs p).2.1).2.1 h (zd9 h.l zdN)
 have hf:=(zha h (p:=(dNum bs (dByte bs p).2.1).2.1)).2
 unfold dAnswer
 simp only
 obtain⟨b,hb⟩:∃b,b=dByte bs p:=⟨_,rfl⟩
 rw[←hb]at h1 h2 h3 hf⊢
 obtain⟨s,hs⟩:∃s,s=dNum bs b.2.1:=⟨_,rfl⟩
 rw[←hs]at h2 h3 hf⊢
 obtain⟨a,ha⟩:∃a,a=dReply bs s.2.1:=⟨_,rfl⟩
 rw[←ha]at h3 hf⊢
 have h4:=zcE ⟨b.1,s.1,a.1⟩ hf
 cases e1:(b.2.2 !=0)
 ·rw[if_neg (by simpa using e1)]
  cases e2:(s.2.2 !=0)
  ·rw[if_neg (by simpa using e2)]
   cases e3:(a.2.2 !=0)
   ·rw[if_neg (by simpa using e3)]
    cases e7:answerB ⟨b.1,s.1,a.1⟩
    ·rw[e7]at h4
     rw[if_pos rfl]
     repeat'(first|(with_reducible first|refine zaa _ _ ?_|refine zad ?_|refine zae ?_)|rw[zaf]|simp only[e1,e2,e3,zY,Int.reduceEq,Int.reduceBEq,Int.reduceBNe,Nat.reduceSub,Nat.reduceEqDiff,Nat.reduceAdd,Nat.reduceMul,Nat.reduceLeDiff,Nat.reduceLT,Nat.reduceBEq,reduceCtorEq]|((first|((try refine zah ?_);apply zak)|(apply zai;intro _));(solve|exact(h1)|exact(h2)|exact(h3)|exact(h4)|(refine CallOK.le (h1) ?_;exact zM)|(refine CallOK.le (h2) ?_;exact zM)|(refine CallOK.le (h3) ?_;exact zM)|(refine CallOK.le (h4) ?_;exact zM)|fail);try case hn=>rfl)|refine zab ?_|refine zac (fun hb=> ?_) (fun hb=> ?_)|(refine And.intro ?_ ?_;exact zI)|refine And.intro (fun hg=> ?_) (fun hg=> ?_)|exact zC|fail)
     show(roLe _ _∧roLe _ _∧roLe _ _∧roLe _ _∧roLe _ _∧roLe _ _∧True)∧roLe _ _∧roLe _ _∧True
     simp[roLe]
    ·rw[e7]at h4
     rw[if_neg (by simp)]
     repeat'(first|(with_reducible first|refine zaa _ _ ?_|refine zad ?_|refine zae ?_)|rw[zaf]|simp only[e1,e2,e3,zY,Int.reduceEq,Int.reduceBEq,Int.reduceBNe,Nat.reduceSub,Nat.reduceEqDiff,Nat.reduceAdd,Nat.reduceMul,Nat.reduceLeDiff,Nat.reduceLT,Nat.reduceBEq,reduceCtorEq]|((first|((try refine zah ?_);apply zak)|(apply zai;intro _));(solve|exact(h1)|exact(h2)|exact(h3)|exact(h4)|(refine CallOK.le (h1) ?_;exact zM)|(refine CallOK.le (h2) ?_;exact zM)|(refine CallOK.le (h3) ?_;exact zM)|(refine CallOK.le (h4) ?_;exact zM)|fail);try case hn=>rfl)|refine zab ?_|refine zac (fun hb=> ?_) (fun hb=> ?_)|(refine And.intro ?_ ?_;exact zI)|refine And.intro (fun hg=> ?_) (fun hg=> ?_)|exact zC|fail)
     show(roLe _ _∧roLe _ _∧roLe _ _∧roLe _ _∧roLe _ _∧roLe _ _∧True)∧roLe _ _∧roLe _ _∧True
     simp[roLe]
   ·rw[if_pos (by simpa using e3)]
    repeat'(first|(with_reducible first|refine zaa _ _ ?_|refine zad ?_|refine zae ?_)|rw[zaf]|simp only[e1,e2,e3,zY,Int.reduceEq,Int.reduceBEq,Int.reduceBNe,Nat.reduceSub,Nat.reduceEqDiff,Nat.reduceAdd,Nat.reduceMul,Nat.reduceLeDiff,Nat.reduceLT,Nat.reduceBEq,reduceCtorEq]|((first|((try refine zah ?_);apply zak)|(apply zai;intro _));(solve|exact(h1)|exact(h2)|exact(h3)|(refine CallOK.le (h1) ?_;exact zM)|(refine CallOK.le (h2) ?_;exact zM)|(refine CallOK.le (h3) ?_;exact zM)|fail);try case hn=>rfl)|refine zab ?_|refine zac (fun hb=> ?_) (fun hb=> ?_)|(refine And.intro ?_ ?_;exact zI)|refine And.intro (fun hg=> ?_) (fun hg=> ?_)|exact zC|fail)
    show(roLe _ _∧roLe _ _∧roLe _ _∧roLe _ _∧roLe _ _∧roLe _ _∧True)∧roLe _ _∧roLe _ _∧True
    simp[roLe]
  ·rw[if_pos (by simpa using e2)]
   repeat'(first|(with_reducible first|refine zaa _ _ ?_|refine zad ?_|refine zae ?_)|rw[zaf]|simp only[e1,e2,zY,Int.reduceEq,Int.reduceBEq,Int.reduceBNe,Nat.reduceSub,Nat.reduceEqDiff,Nat.reduceAdd,Nat.reduceMul,Nat.reduceLeDiff,Nat.reduceLT,Nat.reduceBEq,reduceCtorEq]|((first|((try refine zah ?_);apply zak)|(apply zai;intro _));(solve|exact(h1)|exact(h2)|(refine CallOK.le (h1) ?_;exact zM)|(refine CallOK.le (h2) ?_;exact zM)|fail);try case hn=>rfl)|refine zab ?_|refine zac (fun hb=> ?_) (fun hb=> ?_)|(refine And.intro ?_ ?_;exact zI)|refine And.intro (fun hg=> ?_) (fun hg=> ?_)|exact zC|fail)
   show(roLe _ _∧roLe _ _∧roLe _ _∧roLe _ _∧roLe _ _∧roLe _ _∧True)∧roLe _ _∧roLe _ _∧True
   simp[roLe]
 ·rw[if_pos (by simpa using e1)]
  repeat'(first|(with_reducible first|refine zaa _ _ ?_|refine zad ?_|refine zae ?_)|rw[zaf]|simp only[e1,zY,Int.reduceEq,Int.reduceBEq,Int.reduceBNe,Nat.reduceSub,Nat.reduceEqDiff,Nat.reduceAdd,Nat.reduceMul,Nat.reduceLeDiff,Nat.reduceLT,Nat.reduceBEq,reduceCtorEq]|((first|((try refine zah ?_);apply zak)|(apply zai;intro _));(solve|exact(h1)|(refine CallOK.le (h1) ?_;exact zM)|fail);try case hn=>rfl)|refine zab ?_|refine zac (fun hb=> ?_) (fun hb=> ?_)|(refine And.intro ?_ ?_;exact zI)|refine And.intro (fun hg=> ?_) (fun hg=> ?_)|exact zC|fail)
  show(roLe _ _∧roLe _ _∧roLe _ _∧roLe _ _∧roLe _ _∧roLe _ _∧True)∧roLe _ _∧roLe _ _∧True
  simp[roLe]
end Go.Proofs.YtiegkabcgokhkaaGreat
