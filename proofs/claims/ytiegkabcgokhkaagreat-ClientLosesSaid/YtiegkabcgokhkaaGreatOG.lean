import Derived.Test.YtiegkabcgokhkaaGreatOF
namespace Go.Proofs.YtiegkabcgokhkaaGreat
open Go.Pk
set_option maxRecDepth 100000
set_option linter.unusedSimpArgs false
set_option linter.unusedVariables false
structure Cm where
 kind:Int
 session:Int
 name:ByteArray
abbrev Cm.enc (c:Cm):List D:=[iD c.kind,iD c.session,sD c.name]
abbrev cmsE (l:List Cm):List D:=l.flatMap Cm.enc
theorem zbN {l:List Cm}:(cmsE l).length=l.length*3:=zez _ 3 (fun _=>rfl) l
structure Cli where
 c:Conf
 id:Int
 session:Int
 till:Int
 asks:List Cm
 busy:Bool
 out:Req
 first:Int
 sent:Bool
 last:Int
 seq:Int
 turn:Int
abbrev Cli.ro (K:Cli):List RO:=[.d (iD K.c.replicas), .d (iD K.c.clients), .d (iD K.c.lease), .d (iD K.c.rho), .d (iD K.c.base), .d (iD K.c.cap), .d (iD K.c.beat), .d (iD K.c.wait), .d (iD K.c.sweep), .d (iD K.c.retry), .d (iD K.c.keep),
 .d (iD K.id), .d (iD K.session), .d (.v (.slice none 0 0)), .d (iD K.till), .own 3 K.asks.length (cmsE K.asks) true, .d (bD K.busy),
 .d (iD K.out.client), .d (iD K.out.seq), .d (iD K.out.kind), .d (iD K.out.session), .d (sD K.out.name), .d (iD K.first), .d (bD K.sent), .d (iD K.last), .d (iD K.seq), .d (iD K.turn)]
abbrev Cli.lent (K:Cli):List C:=[di K.c.replicas,di K.c.clients,di K.c.lease,di K.c.rho,di K.c.base,di K.c.cap,di K.c.beat,di K.c.wait,di K.c.sweep,di K.c.retry,di K.c.keep,
 di K.id,di K.session, .d (.sl 0 []),di K.till, .lent K.asks.length (cmsE K.asks),db K.busy,
 di K.out.client,di K.out.seq,di K.out.kind,di K.out.session,dS K.out.name,di K.first,db K.sent,di K.last,di K.seq,di K.turn]
abbrev Cli.at (K:Cli):AV:= .one (.eltR K.lent)
abbrev pnil:AV:= .one (.d (.v (.pointer none)))
def newK (c:Conf) (id:Int):Cli:=⟨c,id,0,0,[],false,⟨0,0,0,0, .empty⟩,0,false,0,0,id % c.replicas⟩
theorem znP (c:Conf) (id:Int) (hc:ConfOk c) (hi:0≤id∧id<c.clients):CallP Tryz.prog 10 [.f (.agg (c.enc.map C.d)), .f (ai id)] [ri 0] (newK c id).ro:=by
 refine CallP.leR (rfs:=[ri 0]) (l:=[.d (iD c.replicas), .d (iD c.clients), .d (iD c.lease), .d (iD c.rho), .d (iD c.base), .d (iD c.cap), .d (iD c.beat), .d (iD c.wait), .d (iD c.sweep), .d (iD c.retry), .d (iD c.keep),
  .d (iD id), .d (iD 0), .d (.v (.slice none 0 0)), .d (iD 0), .d (.v (.slice none 0 0)), .d (bD false),
  .d (iD 0), .d (iD 0), .d (iD 0), .d (iD 0), .d (sD .empty), .d (iD 0), .d (bD false), .d (iD 0), .d (iD 0), .d (iD (id % c.replicas))]) ?_ zan (by simp[rosB,roB,newK])
 refine zfR zat mixed (T:=Ty) (n:=27) Tryz.func10 (c:=Tryz.f10.body.getD .skip) rfl Tryz.results10 Tryz.ntmps10 Tryz.call10 ?_
 simp only[Tryz.f10,Option.getD]
 have h1:decide (id<0)=false:=by simp;omega
 have h2:decide (id≥c.clients)=false:=by simp;omega
 have hr:=hc.r
 have h0:c.replicas≠0:=by omega
 have htm:id.tmod c.replicas=id % c.replicas:=Int.tmod_eq_emod_of_nonneg hi.1
 have hcl:=hc.cl
 have hb1:id % c.replicas<c.replicas:=Int.emod_lt_of_pos _ (by omega)
 have hb0:0≤id % c.replicas:=Int.emod_nonneg _ h0
 have hw:IntKind.i64.wrap (id % c.replicas)=id % c.replicas:=wrap64 (by omega) (by omega)
 repeat'(first|(with_reducible first|refine zaa _ _ ?_|refine zad ?_|refine zae ?_)|rw[zaf]|simp only[h1,h2,if_neg h0,htm,hw,zc4,zfQ,closeP,closeP1,zY,Int.reduceEq,Int.reduceBEq,Int.reduceBNe,Nat.reduceSub,Nat.reduceEqDiff,Nat.reduceAdd,Nat.reduceMul,Nat.reduceLeDiff,Nat.reduceLT,Nat.reduceBEq,reduceCtorEq]|((first|((try refine zah ?_);apply zak)|(apply zai;intro _));(solve|exact(zbj c hc)|(refine CallOK.le (zbj c hc) ?_;exact zM)|fail);try case hn=>rfl)|refine zab ?_|refine zac (fun hb=> ?_) (fun hb=> ?_)|(refine And.intro ?_ ?_;exact zI)|refine And.intro (fun hg=> ?_) (fun hg=> ?_)|exact zC|fail)
theorem zm2 (c:Conf) (id:Int) (hc:ConfOk c) (hi:¬(0≤id∧id<c.clients)):CallOK Tryz.prog 10 [.f (.agg (c.enc.map C.d)), .f (ai id)] (fun r o=>r=[.one (.d (.v (.pointer none))),ri 1]∧o=[]):=by
 refine zal zat mixed (T:=Ty) (n:=27) Tryz.func10 (c:=Tryz.f10.body.getD .skip) rfl Tryz.results10 Tryz.ntmps10 Tryz.call10 ?_
 simp only[Tryz.f10,Option.getD]
 cases h1:decide (id<0)
 ·have h2:decide (id≥c.clients)=true:=by simp at h1⊢;omega
  repeat'(first|(with_reducible first|refine zaa _ _ ?_|refine zad ?_|refine zae ?_)|rw[zaf]|simp only[h1,h2,zY,Int.reduceEq,Int.reduceBEq,Int.reduceBNe,Nat.reduceSub,Nat.reduceEqDiff,Nat.reduceAdd,Nat.reduceMul,Nat.reduceLeDiff,Nat.reduceLT,Nat.reduceBEq,reduceCtorEq]|((first|((try refine zah ?_);apply zak)|(apply zai;intro _));(solve|exact(zbj c hc)|(refine CallOK.le (zbj c hc) ?_;exact zM)|fail);try case hn=>rfl)|refine zab ?_|refine zac (fun hb=> ?_) (fun hb=> ?_)|(refine And.intro ?_ ?_;exact zI)|refine And.intro (fun hg=> ?_) (fun hg=> ?_)|exact zC|fail)
 ·repeat'(first|(with_reducible first|refine zaa _ _ ?_|refine zad ?_|refine zae ?_)|rw[zaf]|simp only[h1,zY,Int.reduceEq,Int.reduceBEq,Int.reduceBNe,Nat.reduceSub,Nat.reduceEqDiff,Nat.reduceAdd,Nat.reduceMul,Nat.reduceLeDiff,Nat.reduceLT,Nat.reduceBEq,reduceCtorEq]|((first|((try refine zah ?_);apply zak)|(apply zai;intro _));(solve|exact(zbj c hc)|(refine CallOK.le (zbj c hc) ?_;exact zM)|fail);try case hn=>rfl)|refine zab ?_|refine zac (fun hb=> ?_) (fun hb=> ?_)|(refine And.intro ?_ ?_;exact zI)|refine And.intro (fun hg=> ?_) (fun hg=> ?_)|exact zC|fail)
def emptyB (s:ByteArray):Bool:=s.toList==(⟨#[]⟩:ByteArray).toList
def askOk (kind:Int) (name:ByteArray):Bool:=if(kind==3||kind==4||kind==5)=true then nameP name else kind==6&&emptyB name
def askP (K:Cli) (kind:Int) (name:ByteArray):Cli×Int:=
 if askOk kind name=false then(K,1)else if K.asks.length≥4 then(K,5)else({K with asks:=K.asks++[⟨kind,0,name⟩]},0)
theorem zaz {l:List Cm}:(cmsE l).take (l.length*3)=cmsE l:=List.take_of_length_le (by rw[zbN];exact Nat.le_refl _)
theorem zbo {l:List Cm} {c:Cm}:cmsE (l++[c])=cmsE l++c.enc:=by simp[cmsE]
set_option maxHeartbeats 1000000 in
theorem znQ (K:Cli) (kind:Int) (name:ByteArray) (hs:name.size<2^62) (hL:K.asks.length≤4):CallOK Tryz.prog 15 [.obj K.ro, .f (ai kind), .f (ast name)] (fun r o=>r=[ri (askP K kind name).2]∧o=[(askP K kind name).1.ro]):=by
 refine CallOK.leR ?_
 refine zal zat mixed (T:=Ty) (n:=39) Tryz.func15 (c:=Tryz.f15.body.getD .skip) rfl Tryz.results15 Tryz.ntmps15 Tryz.call15 ?_
 simp only[Tryz.f15,Option.getD]
 have hnm:=zge name hs
 cases hk:(kind==3||kind==4||kind==5)
 ·simp only[Bool.or_eq_false_iff]at hk
  obtain⟨⟨k3,k4⟩,k5⟩:=hk
  cases k6:(kind==6)
  ·have hne:askP K kind name=(K,1):=by rw[askP,if_pos (by simp[askOk,k3,k4,k5,k6])]
   rw[hne]
   repeat'(first|(with_reducible first|refine zaa _ _ ?_|refine zad ?_|refine zae ?_)|rw[zaf]|simp only[k3,k4,k5,k6,zY,Int.reduceEq,Int.reduceBEq,Int.reduceBNe,Nat.reduceSub,Nat.reduceEqDiff,Nat.reduceAdd,Nat.reduceMul,Nat.reduceLeDiff,Nat.reduceLT,Nat.reduceBEq,reduceCtorEq]|refine zab ?_|refine zac (fun hb=> ?_) (fun hb=> ?_)|(refine And.intro ?_ ?_;exact zI)|refine And.intro (fun hg=> ?_) (fun hg=> ?_)|exact zC|fail)
   exact⟨zan,zas⟩
  ·cases he:emptyB name
   ·have hne:askP K kind name=(K,1):=by rw[askP,if_pos (by simp[askOk,k3,k4,k5,k6,he])]
    rw[hne]
    unfold emptyB at he
    repeat'(first|(with_reducible first|refine zaa _ _ ?_|refine zad ?_|refine zae ?_)|rw[zaf]|simp only[k3,k4,k5,k6,he,zY,Int.reduceEq,Int.reduceBEq,Int.reduceBNe,Nat.reduceSub,Nat.reduceEqDiff,Nat.reduceAdd,Nat.reduceMul,Nat.reduceLeDiff,Nat.reduceLT,Nat.reduceBEq,reduceCtorEq]|refine zab ?_|refine zac (fun hb=> ?_) (fun hb=> ?_)|(refine And.intro ?_ ?_;exact zI)|refine And.intro (fun hg=> ?_) (fun hg=> ?_)|exact zC|fail)
    exact⟨zan,zas⟩
   ·cases hf:decide (K.asks.length≥4)
    ·have hne:askP K kind name=({K with asks:=K.asks++[⟨kind,0,name⟩]},0):=by
      rw[askP,if_neg (by simp[askOk,k3,k4,k5,k6,he]),if_neg (by simpa using hf)]
     rw[hne]
     have hf2:decide ((K.asks.length:Int)≥4)=false:=by simp at hf⊢;omega
     have hle:(K.asks.length+1≤2^47)=True:=eq_true (by omega)
     unfold emptyB at he
     repeat'(first|(with_reducible first|refine zaa _ _ ?_|refine zad ?_|refine zae ?_)|rw[zaf]|simp only[k3,k4,k5,k6,he,hf2,hle,zY,Int.reduceEq,Int.reduceBEq,Int.reduceBNe,Nat.reduceSub,Nat.reduceEqDiff,Nat.reduceAdd,Nat.reduceMul,Nat.reduceLeDiff,Nat.reduceLT,Nat.reduceBEq,reduceCtorEq]|refine zab ?_|refine zac (fun hb=> ?_) (fun hb=> ?_)|(refine And.intro ?_ ?_;exact zI)|refine And.intro (fun hg=> ?_) (fun hg=> ?_)|exact zC|fail)
     refine And.intro zan ?_
     simp[objsB,rosB,roB,zbo,zaz]
    ·have hne:askP K kind name=(K,5):=by
      rw[askP,if_neg (by simp[askOk,k3,k4,k5,k6,he]),if_pos (by simpa using hf)]
     rw[hne]
     have hf2:decide ((K.asks.length:Int)≥4)=true:=by simp at hf⊢;omega
     unfold emptyB at he
     repeat'(first|(with_reducible first|refine zaa _ _ ?_|refine zad ?_|refine zae ?_)|rw[zaf]|simp only[k3,k4,k5,k6,he,hf2,zY,Int.reduceEq,Int.reduceBEq,Int.reduceBNe,Nat.reduceSub,Nat.reduceEqDiff,Nat.reduceAdd,Nat.reduceMul,Nat.reduceLeDiff,Nat.reduceLT,Nat.reduceBEq,reduceCtorEq]|refine zab ?_|refine zac (fun hb=> ?_) (fun hb=> ?_)|(refine And.intro ?_ ?_;exact zI)|refine And.intro (fun hg=> ?_) (fun hg=> ?_)|exact zC|fail)
     exact⟨zan,zas⟩
 ·cases hn:nameP name
  ·have hne:askP K kind name=(K,1):=by rw[askP,if_pos (by simp[askOk,hk,hn])]
   rw[hne]
   rw[hn]at hnm
   cases k3:(kind==3)
   ·cases k4:(kind==4)
    ·have k5:(kind==5)=true:=by rw[k3,k4]at hk;simpa using hk
     repeat'(first|(with_reducible first|refine zaa _ _ ?_|refine zad ?_|refine zae ?_)|rw[zaf]|simp only[k3,k4,k5,zY,Int.reduceEq,Int.reduceBEq,Int.reduceBNe,Nat.reduceSub,Nat.reduceEqDiff,Nat.reduceAdd,Nat.reduceMul,Nat.reduceLeDiff,Nat.reduceLT,Nat.reduceBEq,reduceCtorEq]|((first|((try refine zah ?_);apply zak)|(apply zai;intro _));(solve|exact(hnm)|(refine CallOK.le (hnm) ?_;exact zM)|fail);try case hn=>rfl)|refine zab ?_|refine zac (fun hb=> ?_) (fun hb=> ?_)|(refine And.intro ?_ ?_;exact zI)|refine And.intro (fun hg=> ?_) (fun hg=> ?_)|exact zC|fail)
     exact⟨zan,zas⟩
    ·repeat'(first|(with_reducible first|refine zaa _ _ ?_|refine zad ?_|refine zae ?_)|rw[zaf]|simp only[k3,k4,zY,Int.reduceEq,Int.reduceBEq,Int.reduceBNe,Nat.reduceSub,Nat.reduceEqDiff,Nat.reduceAdd,Nat.reduceMul,Nat.reduceLeDiff,Nat.reduceLT,Nat.reduceBEq,reduceCtorEq]|((first|((try refine zah ?_);apply zak)|(apply zai;intro _));(solve|exact(hnm)|(refine CallOK.le (hnm) ?_;exact zM)|fail);try case hn=>rfl)|refine zab ?_|refine zac (fun hb=> ?_) (fun hb=> ?_)|(refine And.intro ?_ ?_;exact zI)|refine And.intro (fun hg=> ?_) (fun hg=> ?_)|exact zC|fail)
     exact⟨zan,zas⟩
   ·repeat'(first|(with_reducible first|refine zaa _ _ ?_|refine zad ?_|refine zae ?_)|rw[zaf]|simp only[k3,zY,Int.reduceEq,Int.reduceBEq,Int.reduceBNe,Nat.reduceSub,Nat.reduceEqDiff,Nat.reduceAdd,Nat.reduceMul,Nat.reduceLeDiff,Nat.reduceLT,Nat.reduceBEq,reduceCtorEq]|((first|((try refine zah ?_);apply zak)|(apply zai;intro _));(solve|exact(hnm)|(refine CallOK.le (hnm) ?_;exact zM)|fail);try case hn=>rfl)|refine zab ?_|refine zac (fun hb=> ?_) (fun hb=> ?_)|(refine And.intro ?_ ?_;exact zI)|refine And.intro (fun hg=> ?_) (fun hg=> ?_)|exact zC|fail)
    exact⟨zan,zas⟩
  ·rw[hn]at hnm
   cases hf:decide (K.asks.length≥4)
   ·have hne:askP K kind name=({K with asks:=K.asks++[⟨kind,0,name⟩]},0):=by
     rw[askP,if_neg (by simp[askOk,hk,hn]),if_neg (by simpa using hf)]
    rw[hne]
    have hf2:decide ((K.asks.length:Int)≥4)=false:=by simp at hf⊢;omega
    have hle:(K.asks.length+1≤2^47)=True:=eq_true (by omega)
    cases k3:(kind==3)
    ·cases k4:(kind==4)
     ·have k5:(kind==5)=true:=by rw[k3,k4]at hk;simpa using hk
      repeat'(first|(with_reducible first|refine zaa _ _ ?_|refine zad ?_|refine zae ?_)|rw[zaf]|simp only[k3,k4,k5,hf2,hle,zY,Int.reduceEq,Int.reduceBEq,Int.reduceBNe,Nat.reduceSub,Nat.reduceEqDiff,Nat.reduceAdd,Nat.reduceMul,Nat.reduceLeDiff,Nat.reduceLT,Nat.reduceBEq,reduceCtorEq]|((first|((try refine zah ?_);apply zak)|(apply zai;intro _));(solve|exact(hnm)|(refine CallOK.le (hnm) ?_;exact zM)|fail);try case hn=>rfl)|refine zab ?_|refine zac (fun hb=> ?_) (fun hb=> ?_)|(refine And.intro ?_ ?_;exact zI)|refine And.intro (fun hg=> ?_) (fun hg=> ?_)|exact zC|fail)
      refine And.intro zan ?_
      simp[objsB,rosB,roB,zbo,zaz]
     ·repeat'(first|(with_reducible first|refine zaa _ _ ?_|refine zad ?_|refine zae ?_)|rw[zaf]|simp only[k3,k4,hf2,hle,zY,Int.reduceEq,Int.reduceBEq,Int.reduceBNe,Nat.reduceSub,Nat.reduceEqDiff,Nat.reduceAdd,Nat.reduceMul,Nat.reduceLeDiff,Nat.reduceLT,Nat.reduceBEq,reduceCtorEq]|((first|((try refine zah ?_);apply zak)|(apply zai;intro _));(solve|exact(hnm)|(refine CallOK.le (hnm) ?_;exact zM)|fail);try case hn=>rfl)|refine zab ?_|refine zac (fun hb=> ?_) (fun hb=> ?_)|(refine And.intro ?_ ?_;exact zI)|refine And.intro (fun hg=> ?_) (fun hg=> ?_)|exact zC|fail)
      refine And.intro zan ?_
      simp[objsB,rosB,roB,zbo,zaz]
    ·repeat'(first|(with_reducible first|refine zaa _ _ ?_|refine zad ?_|refine zae ?_)|rw[zaf]|simp only[k3,hf2,hle,zY,Int.reduceEq,Int.reduceBEq,Int.reduceBNe,Nat.reduceSub,Nat.reduceEqDiff,Nat.reduceAdd,Nat.reduceMul,Nat.reduceLeDiff,Nat.reduceLT,Nat.reduceBEq,reduceCtorEq]|((first|((try refine zah ?_);apply zak)|(apply zai;intro _));(solve|exact(hnm)|(refine CallOK.le (hnm) ?_;exact zM)|fail);try case hn=>rfl)|refine zab ?_|refine zac (fun hb=> ?_) (fun hb=> ?_)|(refine And.intro ?_ ?_;exact zI)|refine And.intro (fun hg=> ?_) (fun hg=> ?_)|exact zC|fail)
     refine And.intro zan ?_
     simp[objsB,rosB,roB,zbo,zaz]
   ·have hne:askP K kind name=(K,5):=by
     rw[askP,if_neg (by simp[askOk,hk,hn]),if_pos (by simpa using hf)]
    rw[hne]
    have hf2:decide ((K.asks.length:Int)≥4)=true:=by simp at hf⊢;omega
    cases k3:(kind==3)
    ·cases k4:(kind==4)
     ·have k5:(kind==5)=true:=by rw[k3,k4]at hk;simpa using hk
      repeat'(first|(with_reducible first|refine zaa _ _ ?_|refine zad ?_|refine zae ?_)|rw[zaf]|simp only[k3,k4,k5,hf2,zY,Int.reduceEq,Int.reduceBEq,Int.reduceBNe,Nat.reduceSub,Nat.reduceEqDiff,Nat.reduceAdd,Nat.reduceMul,Nat.reduceLeDiff,Nat.reduceLT,Nat.reduceBEq,reduceCtorEq]|((first|((try refine zah ?_);apply zak)|(apply zai;intro _));(solve|exact(hnm)|(refine CallOK.le (hnm) ?_;exact zM)|fail);try case hn=>rfl)|refine zab ?_|refine zac (fun hb=> ?_) (fun hb=> ?_)|(refine And.intro ?_ ?_;exact zI)|refine And.intro (fun hg=> ?_) (fun hg=> ?_)|exact zC|fail)
      exact⟨zan,zas⟩
     ·repeat'(first|(with_reducible first|refine zaa _ _ ?_|refine zad ?_|refine zae ?_)|rw[zaf]|simp only[k3,k4,hf2,zY,Int.reduceEq,Int.reduceBEq,Int.reduceBNe,Nat.reduceSub,Nat.reduceEqDiff,Nat.reduceAdd,Nat.reduceMul,Nat.reduceLeDiff,Nat.reduceLT,Nat.reduceBEq,reduceCtorEq]|((first|((try refine zah ?_);apply zak)|(apply zai;intro _));(solve|exact(hnm)|(refine CallOK.le (hnm) ?_;exact zM)|fail);try case hn=>rfl)|refine zab ?_|refine zac (fun hb=> ?_) (fun hb=> ?_)|(refine And.intro ?_ ?_;exact zI)|refine And.intro (fun hg=> ?_) (fun hg=> ?_)|exact zC|fail)
      exact⟨zan,zas⟩
    ·repeat'(first|(with_reducible first|refine zaa _ _ ?_|refine zad ?_|refine zae ?_)|rw[zaf]|simp only[k3,hf2,zY,Int.reduceEq,Int.reduceBEq,Int.reduceBNe,Nat.reduceSub,Nat.reduceEqDiff,Nat.reduceAdd,Nat.reduceMul,Nat.reduceLeDiff,Nat.reduceLT,Nat.reduceBEq,reduceCtorEq]|((first|((try refine zah ?_);apply zak)|(apply zai;intro _));(solve|exact(hnm)|(refine CallOK.le (hnm) ?_;exact zM)|fail);try case hn=>rfl)|refine zab ?_|refine zac (fun hb=> ?_) (fun hb=> ?_)|(refine And.intro ?_ ?_;exact zI)|refine And.intro (fun hg=> ?_) (fun hg=> ?_)|exact zC|fail)
     exact⟨zan,zas⟩
theorem zm3 (K:Cli) (hL:K.asks.length<2^30):CallOK Tryz.prog 23 [.f K.at] (fun r o=>r=[.one (.own 3 K.asks.length (cmsE K.asks) false)]∧o=[]):=by
 refine zal zat mixed (T:=Ty) (n:=10) Tryz.func23 (c:=Tryz.f23.body.getD .skip) rfl Tryz.results23 Tryz.ntmps23 Tryz.call23 ?_
 simp only[Tryz.f23,Option.getD]
 repeat'(first|(with_reducible first|refine zaa _ _ ?_|refine zad ?_|refine zae ?_)|rw[zaf]|simp only[zY,Int.reduceEq,Int.reduceBEq,Int.reduceBNe,Nat.reduceSub,Nat.reduceEqDiff,Nat.reduceAdd,Nat.reduceMul,Nat.reduceLeDiff,Nat.reduceLT,Nat.reduceBEq,reduceCtorEq]|((first|((try refine zah ?_);apply zak)|(apply zai;intro _));(solve|exact(zeP K.asks.length (cmsE K.asks) zbN (by omega))|(refine CallOK.le (zeP K.asks.length (cmsE K.asks) zbN (by omega)) ?_;exact zM)|fail);try case hn=>rfl)|refine zab ?_|refine zac (fun hb=> ?_) (fun hb=> ?_)|(refine And.intro ?_ ?_;exact zI)|refine And.intro (fun hg=> ?_) (fun hg=> ?_)|exact zC|fail)
theorem zm4 (K:Cli) (h:K.busy=true):CallOK Tryz.prog 12 [.f K.at] (fun r o=>r=[.agg (K.out.enc.map RO.d),rb true]∧o=[]):=by
 refine zal zat mixed (T:=Ty) (n:=18) Tryz.func12 (c:=Tryz.f12.body.getD .skip) rfl Tryz.results12 Tryz.ntmps12 Tryz.call12 ?_
 simp only[Tryz.f12,Option.getD]
 repeat'(first|(with_reducible first|refine zaa _ _ ?_|refine zad ?_|refine zae ?_)|rw[zaf]|simp only[h,zY,Int.reduceEq,Int.reduceBEq,Int.reduceBNe,Nat.reduceSub,Nat.reduceEqDiff,Nat.reduceAdd,Nat.reduceMul,Nat.reduceLeDiff,Nat.reduceLT,Nat.reduceBEq,reduceCtorEq]|refine zab ?_|refine zac (fun hb=> ?_) (fun hb=> ?_)|(refine And.intro ?_ ?_;exact zI)|refine And.intro (fun hg=> ?_) (fun hg=> ?_)|exact zC|fail)
theorem zhw (K:Cli) (now:Int) (a:Cm) (l:List Cm) (hs:K.session=0) (ha:K.asks=a::l) (hl:l.length<2^30) (he:(a.kind==5||a.kind==6)=false):
  CallOK Tryz.prog 38 [.f K.at, .f (ai now)] (fun r o=>r=[.agg [.d (iD 1), .d (iD 0), .d (sD .empty)],rb true]∧o=[]):=by
 refine zal zat mixed (T:=Ty) (n:=85) Tryz.func38 (c:=Tryz.f38.body.getD .skip) rfl Tryz.results38 Tryz.ntmps38 Tryz.call38 ?_
 simp only[Tryz.f38,Option.getD]
 have hen:=zhu a.kind
 rw[he]at hen
 have h1:decide ((K.asks.length:Int)>0)=true:=by rw[ha];simp
 have h2:(K.session==0)=true:=by rw[hs];rfl
 have hat:cmsE K.asks=iD a.kind::iD a.session::sD a.name::cmsE l:=by rw[ha];rfl
 have hrg:(0:Int)<K.asks.length:=by simpa using h1
 have hl3:((cmsE l).length+1+1+1=K.asks.length*3)=True:=eq_true (by rw[zbN,ha,List.length_cons];omega)
 have hagg:∀(Z:List Nat) (r:Rs) (xs ys:List AV),fgc Z r (K.at::xs) (K.at::ys)=fgc Z r xs ys:=fun Z r xs ys=>zfO rfl rfl
 repeat'(first|(with_reducible first|refine zaa _ _ ?_|refine zad ?_|refine zae ?_)|rw[zaf]|simp only[h1,h2,zY,Int.reduceEq,Int.reduceBEq,Int.reduceBNe,Nat.reduceSub,Nat.reduceEqDiff,Nat.reduceAdd,Nat.reduceMul,Nat.reduceLeDiff,Nat.reduceLT,Nat.reduceBEq,reduceCtorEq]|refine zab ?_|refine zac (fun hb=> ?_) (fun hb=> ?_)|(refine And.intro ?_ ?_;exact zI)|refine And.intro (fun hg=> ?_) (fun hg=> ?_)|exact zC|fail)
 refine zaW Ty Tryz.prog (τ:=Unit) (fun _=>⟨[K.at,dd,dd,dd, .one (.ptr ⟨4,0,1⟩ 0),dd,dd,dd,dd,dd,dd,dd,dd,dd,dd,dd,dd,dd,dd,dd,dd,dd,dd,dd,dd,dd,dd,dd,dd,dd,dd,dd,dd,dd,dd,dd,dd,dd,dd,dd,dd,dd,dd,dd,dd,dd,dd,dd,dd,dd,dd,dd,dd,dd,dd,dd,dd,dd,dd,dd,dd,dd,dd,dd,dd,dd,dd,dd,dd,dd,dd,dd,dd,dd,dd,dd,dd,dd,dd,dd,dd,dd,dd,dd,dd],[(4,{next:=2,l:=[some {e:=1,var:=true,fz:=false,sz:=0,cells:=[di 0,di 0,dS .empty]},none,none,none]})]⟩) (fun _=>True) (fun _=>0) ()
  (Gh.canon [4] [] [] (by simp only[hagg,zaq,zaE,zar,zaw,zax,zay,List.set_cons_zero,List.set_cons_succ,and_true,true_and,Int.natCast_zero,Int.cast_ofNat_Int,D.v.injEq,Value.int.injEq];try(repeat'(first|rfl|omega|with_reducible apply And.intro))) rfl rfl) trivial ?_
 intro _ _ Kx hK
 repeat'(first|(with_reducible first|refine zaa _ _ ?_|refine zad ?_|refine zae ?_)|rw[zaf]|simp only[h1,h2,List.drop_zero,hat,hl3,zY,Int.reduceEq,Int.reduceBEq,Int.reduceBNe,Nat.reduceSub,Nat.reduceEqDiff,Nat.reduceAdd,Nat.reduceMul,Nat.reduceLeDiff,Nat.reduceLT,Nat.reduceBEq,reduceCtorEq]|((first|((try refine zah ?_);apply zak)|(apply zai;intro _));(solve|exact(hen)|(refine CallOK.le (hen) ?_;exact zM)|fail);try case hn=>rfl)|refine zab ?_|refine zac (fun hb=> ?_) (fun hb=> ?_)|(refine And.intro ?_ ?_;exact zI)|refine And.intro (fun hg=> ?_) (fun hg=> ?_)|exact zC|fail)
abbrev sendsE (K:Cli):List D:=[iD K.turn, .sl (packB K.out).length (packB K.out)]
theorem zm5 (K:Cli) (now:Int) (hr:K.out.ok) (hm:Req.may K.out=true):
  CallOK Tryz.prog 37 [.obj K.ro, .f (ai now)] (fun r o=>r=[.one (.own 2 1 (sendsE K) false)]∧o=[({K with sent:=true,last:=now}:Cli).ro]):=by
 refine CallOK.leR ?_
 refine zal zat mixed (T:=Ty) (n:=30) Tryz.func37 (c:=Tryz.f37.body.getD .skip) rfl Tryz.results37 Tryz.ntmps37 Tryz.call37 ?_
 simp only[Tryz.f37,Option.getD]
 have hp:=zfA K.out hr hm
 repeat'(first|(with_reducible first|refine zaa _ _ ?_|refine zad ?_|refine zae ?_)|rw[zaf]|simp only[List.take_length,zY,Int.reduceEq,Int.reduceBEq,Int.reduceBNe,Nat.reduceSub,Nat.reduceEqDiff,Nat.reduceAdd,Nat.reduceMul,Nat.reduceLeDiff,Nat.reduceLT,Nat.reduceBEq,reduceCtorEq]|((first|((try refine zah ?_);apply zak)|(apply zai;intro _));(solve|exact(hp)|(refine CallOK.le (hp) ?_;exact zM)|fail);try case hn=>rfl)|refine zab ?_|refine zac (fun hb=> ?_) (fun hb=> ?_)|(refine And.intro ?_ ?_;exact zI)|refine And.intro (fun hg=> ?_) (fun hg=> ?_)|exact zC|fail)
 exact⟨rfl,zan,zas⟩
def againP (K:Cli) (now:Int):Cli:={K with turn:=(K.turn+1) % K.c.replicas,sent:=true,last:=now}
def openP (K:Cli) (now:Int):Cli:={K with seq:=K.seq+1,busy:=true,first:=now,out:=⟨K.id,K.seq+1,1,0, .empty⟩,sent:=true,last:=now}
theorem zm6 (K:Cli) (now:Int) (a:Cm) (l:List Cm) (h0:0≤now∧now≤2305843009213693952) (hs:K.session=0) (ha:K.asks=a::l) (hl:l.length<2^30) (he:(a.kind==5||a.kind==6)=false)
  (hb:K.busy=false) (hq:0≤K.seq∧K.seq<2^60) (hid:0≤K.id∧K.id<8):
  CallOK Tryz.prog 13 [.obj K.ro, .f (ai now)] (fun r o=>r=[.one (.own 2 1 (sendsE (openP K now)) false)]∧o=[(openP K now).ro]):=by
 refine CallOK.leR ?_
 refine zal zat mixed (T:=Ty) (n:=82) Tryz.func13 (c:=Tryz.f13.body.getD .skip) rfl Tryz.results13 Tryz.ntmps13 Tryz.call13 ?_
 simp only[Tryz.f13,Option.getD]
 have h3:IntKind.i64.wrap (K.seq+1)=K.seq+1:=wrap64 (by omega) (by omega)
 have hmr:Req.may ⟨K.id,K.seq+1,1,0, .empty⟩=true:=by
  have hH:High=2305843009213693952:=rfl
  have h1:mayP 1 0 .empty=true:=by unfold mayP;simp
  unfold Req.may
  simp only[h1,hH,Bool.and_true,Bool.and_eq_true,decide_eq_true_eq]
  omega
 have hrk:(⟨K.id,K.seq+1,1,0, .empty⟩:Req).ok:=⟨by simp only[i64];omega,by simp only[i64];omega,by simp only[i64];omega,by simp only[i64];omega,by simp only;decide⟩
 have hsd:=zm5 {K with seq:=K.seq+1,busy:=true,first:=now,out:=⟨K.id,K.seq+1,1,0, .empty⟩} now hrk hmr
 have hnx:=zhw {K with busy:=false} now a l hs ha hl he
 repeat'(first|(with_reducible first|refine zaa _ _ ?_|refine zad ?_|refine zae ?_)|rw[zaf]|simp only[hb,h3,zaz,zY,Int.reduceEq,Int.reduceBEq,Int.reduceBNe,Nat.reduceSub,Nat.reduceEqDiff,Nat.reduceAdd,Nat.reduceMul,Nat.reduceLeDiff,Nat.reduceLT,Nat.reduceBEq,reduceCtorEq]|((first|((try refine zah ?_);apply zak)|(apply zai;intro _));(solve|exact(zbz now h0)|exact(hnx)|(refine CallOK.le (zbz now h0) ?_;exact zM)|(refine CallOK.le (hnx) ?_;exact zM)|fail);try case hn=>rfl)|refine zab ?_|refine zac (fun hb=> ?_) (fun hb=> ?_)|(refine And.intro ?_ ?_;exact zI)|refine And.intro (fun hg=> ?_) (fun hg=> ?_)|exact zC|fail)
 refine zbl (mv:= ?mv2) (lent:= ?le2) 0 ?ha2 (hsd) ?hb2 ?hc2
 case ha2=>(try simp only[zB,zaC,Nat.reduceSub,Nat.reduceEqDiff,Nat.reduceAdd,Nat.reduceMul,Nat.reduceLeDiff,Nat.reduceLT,Nat.reduceBEq,reduceCtorEq]);exact rfl
 case hb2=>(try simp only[zB,scM,Nat.reduceSub,Nat.reduceEqDiff,Nat.reduceAdd,Nat.reduceMul,Nat.reduceLeDiff,Nat.reduceLT,Nat.reduceBEq,reduceCtorEq]);repeat'(first|rfl|trivial|omega|with_reducible refine And.intro ?_ ?_)
 show aops _ _ _ _ _ _ _ _
 repeat'(first|(with_reducible first|refine zaa _ _ ?_|refine zad ?_|refine zae ?_)|rw[zaf]|simp only[zY,Int.reduceEq,Int.reduceBEq,Int.reduceBNe,Nat.reduceSub,Nat.reduceEqDiff,Nat.reduceAdd,Nat.reduceMul,Nat.reduceLeDiff,Nat.reduceLT,Nat.reduceBEq,reduceCtorEq]|refine zab ?_|refine zac (fun hb=> ?_) (fun hb=> ?_)|(refine And.intro ?_ ?_;exact zI)|refine And.intro (fun hg=> ?_) (fun hg=> ?_)|exact zC|fail)
 exact⟨rfl,zan,zas⟩
end Go.Proofs.YtiegkabcgokhkaaGreat
