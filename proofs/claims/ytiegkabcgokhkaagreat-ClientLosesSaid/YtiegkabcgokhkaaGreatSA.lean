import Derived.Test.YtiegkabcgokhkaaGreatRO
import Derived.Test.YtiegkabcgokhkaaGreatK8
namespace Go.Proofs.YtiegkabcgokhkaaGreat
open Go.Pk
set_option maxRecDepth 100000
set_option linter.unusedSimpArgs false
set_option linter.unusedVariables false
structure Cl where
 c:Conf
 id:Int
 session:Int
 has:List Grant
 till:Int
 asks:List Cm
 busy:Bool
 out:Req
 first:Int
 sent:Bool
 last:Int
 seq:Int
 turn:Int
abbrev Cl.ro (K:Cl):List RO:=[.d (iD K.c.replicas), .d (iD K.c.clients), .d (iD K.c.lease), .d (iD K.c.rho), .d (iD K.c.base), .d (iD K.c.cap), .d (iD K.c.beat), .d (iD K.c.wait), .d (iD K.c.sweep), .d (iD K.c.retry), .d (iD K.c.keep),
 .d (iD K.id), .d (iD K.session), .d (.sl K.has.length (grantsE K.has)), .d (iD K.till), .own 3 K.asks.length (cmsE K.asks) true, .d (bD K.busy),
 .d (iD K.out.client), .d (iD K.out.seq), .d (iD K.out.kind), .d (iD K.out.session), .d (sD K.out.name), .d (iD K.first), .d (bD K.sent), .d (iD K.last), .d (iD K.seq), .d (iD K.turn)]
abbrev Cl.lent (K:Cl):List C:=[di K.c.replicas,di K.c.clients,di K.c.lease,di K.c.rho,di K.c.base,di K.c.cap,di K.c.beat,di K.c.wait,di K.c.sweep,di K.c.retry,di K.c.keep,
 di K.id,di K.session, .d (.sl K.has.length (grantsE K.has)),di K.till, .lent K.asks.length (cmsE K.asks),db K.busy,
 di K.out.client,di K.out.seq,di K.out.kind,di K.out.session,dS K.out.name,di K.first,db K.sent,di K.last,di K.seq,di K.turn]
abbrev Cl.at (K:Cl):AV:= .one (.eltR K.lent)
def newC (c:Conf) (id:Int):Cl:=⟨c,id,0,[],0,[],false,⟨0,0,0,0, .empty⟩,0,false,0,0,id % c.replicas⟩
theorem znb (c:Conf) (id:Int) (hc:ConfOk c) (hi:0≤id∧id<c.clients):CallP Tryz.prog 10 [.f (.agg (c.enc.map C.d)), .f (ai id)] [ri 0] (newC c id).ro:=by
 refine CallP.leR (rfs:=[ri 0]) (l:=[.d (iD c.replicas), .d (iD c.clients), .d (iD c.lease), .d (iD c.rho), .d (iD c.base), .d (iD c.cap), .d (iD c.beat), .d (iD c.wait), .d (iD c.sweep), .d (iD c.retry), .d (iD c.keep),
  .d (iD id), .d (iD 0), .d (.v (.slice none 0 0)), .d (iD 0), .d (.v (.slice none 0 0)), .d (bD false),
  .d (iD 0), .d (iD 0), .d (iD 0), .d (iD 0), .d (sD .empty), .d (iD 0), .d (bD false), .d (iD 0), .d (iD 0), .d (iD (id % c.replicas))]) ?_ zan (by simp[rosB,roB,newC])
 refine zfR zat mixed (T:=Ty) (n:=27) Tryz.func10 (c:=Tryz.f10.body.getD .skip) rfl Tryz.results10 Tryz.ntmps10 Tryz.call10 ?_
 simp only[Tryz.f10,Option.getD]
 have h1:decide (id<0)=false:=by simp;omega
 have h2:decide (id≥c.clients)=false:=by simp;omega
 have hr:=hc.r
 have h0:c.replicas≠0:=by omega
 have htm:id.tmod c.replicas=id % c.replicas:=Int.tmod_eq_emod_of_nonneg hi.1
 have hcl:=hc.cl
 have hb1:id % c.replicas<c.replicas:=Int.emod_lt_of_pos _ (by omega)
 have hb0:0≤id % c.replicas:=Int.emod_nonneg _ h0
 have hw:IntKind.i64.wrap (id % c.replicas)=id % c.replicas:=wrap64 (by omega) (by omega)
 repeat'(first|(with_reducible first|refine zaa _ _ ?_|refine zad ?_|refine zae ?_)|rw[zaf]|simp only[h1,h2,if_neg h0,htm,hw,zc4,zfQ,closeP,closeP1,zY,Int.reduceEq,Int.reduceBEq,Int.reduceBNe,Nat.reduceSub,Nat.reduceEqDiff,Nat.reduceAdd,Nat.reduceMul,Nat.reduceLeDiff,Nat.reduceLT,Nat.reduceBEq,reduceCtorEq]|((first|((try refine zah ?_);apply zak)|(apply zai;intro _));(solve|exact(zbj c hc)|(refine CallOK.le (zbj c hc) ?_;exact zM)|fail);try case hn=>rfl)|refine zab ?_|refine zac (fun hb=> ?_) (fun hb=> ?_)|(refine And.intro ?_ ?_;exact zI)|refine And.intro (fun hg=> ?_) (fun hg=> ?_)|exact zC|fail)
def askQ (K:Cl) (kind:Int) (name:ByteArray):Cl×Int:=
 if askOk kind name=false then(K,1)else if K.asks.length≥4 then(K,5)else({K with asks:=K.asks++[⟨kind,0,name⟩]},0)
set_option maxHeartbeats 1000000 in
theorem zku (K:Cl) (kind:Int) (name:ByteArray) (hs:name.size<2^62) (hL:K.asks.length≤4):CallOK Tryz.prog 15 [.obj K.ro, .f (ai kind), .f (ast name)] (fun r o=>r=[ri (askQ K kind name).2]∧o=[(askQ K kind name).1.ro]):=by
 refine CallOK.leR ?_
 refine zal zat mixed (T:=Ty) (n:=39) Tryz.func15 (c:=Tryz.f15.body.getD .skip) rfl Tryz.results15 Tryz.ntmps15 Tryz.call15 ?_
 simp only[Tryz.f15,Option.getD]
 have hnm:=zge name hs
 cases hk:(kind==3||kind==4||kind==5)
 ·simp only[Bool.or_eq_false_iff]at hk
  obtain⟨⟨k3,k4⟩,k5⟩:=hk
  cases k6:(kind==6)
  ·have hne:askQ K kind name=(K,1):=by rw[askQ,if_pos (by simp[askOk,k3,k4,k5,k6])]
   rw[hne]
   repeat'(first|(with_reducible first|refine zaa _ _ ?_|refine zad ?_|refine zae ?_)|rw[zaf]|simp only[k3,k4,k5,k6,zY,Int.reduceEq,Int.reduceBEq,Int.reduceBNe,Nat.reduceSub,Nat.reduceEqDiff,Nat.reduceAdd,Nat.reduceMul,Nat.reduceLeDiff,Nat.reduceLT,Nat.reduceBEq,reduceCtorEq]|refine zab ?_|refine zac (fun hb=> ?_) (fun hb=> ?_)|(refine And.intro ?_ ?_;exact zI)|refine And.intro (fun hg=> ?_) (fun hg=> ?_)|exact zC|fail)
   exact⟨zan,zas⟩
  ·cases he:emptyB name
   ·have hne:askQ K kind name=(K,1):=by rw[askQ,if_pos (by simp[askOk,k3,k4,k5,k6,he])]
    rw[hne]
    unfold emptyB at he
    repeat'(first|(with_reducible first|refine zaa _ _ ?_|refine zad ?_|refine zae ?_)|rw[zaf]|simp only[k3,k4,k5,k6,he,zY,Int.reduceEq,Int.reduceBEq,Int.reduceBNe,Nat.reduceSub,Nat.reduceEqDiff,Nat.reduceAdd,Nat.reduceMul,Nat.reduceLeDiff,Nat.reduceLT,Nat.reduceBEq,reduceCtorEq]|refine zab ?_|refine zac (fun hb=> ?_) (fun hb=> ?_)|(refine And.intro ?_ ?_;exact zI)|refine And.intro (fun hg=> ?_) (fun hg=> ?_)|exact zC|fail)
    exact⟨zan,zas⟩
   ·cases hf:decide (K.asks.length≥4)
    ·have hne:askQ K kind name=({K with asks:=K.asks++[⟨kind,0,name⟩]},0):=by
      rw[askQ,if_neg (by simp[askOk,k3,k4,k5,k6,he]),if_neg (by simpa using hf)]
     rw[hne]
     have hf2:decide ((K.asks.length:Int)≥4)=false:=by simp at hf⊢;omega
     have hle:(K.asks.length+1≤2^47)=True:=eq_true (by omega)
     unfold emptyB at he
     repeat'(first|(with_reducible first|refine zaa _ _ ?_|refine zad ?_|refine zae ?_)|rw[zaf]|simp only[k3,k4,k5,k6,he,hf2,hle,zY,Int.reduceEq,Int.reduceBEq,Int.reduceBNe,Nat.reduceSub,Nat.reduceEqDiff,Nat.reduceAdd,Nat.reduceMul,Nat.reduceLeDiff,Nat.reduceLT,Nat.reduceBEq,reduceCtorEq]|refine zab ?_|refine zac (fun hb=> ?_) (fun hb=> ?_)|(refine And.intro ?_ ?_;exact zI)|refine And.intro (fun hg=> ?_) (fun hg=> ?_)|exact zC|fail)
     refine And.intro zan ?_
     simp[objsB,rosB,roB,zbo,zaz]
    ·have hne:askQ K kind name=(K,5):=by
      rw[askQ,if_neg (by simp[askOk,k3,k4,k5,k6,he]),if_pos (by simpa using hf)]
     rw[hne]
     have hf2:decide ((K.asks.length:Int)≥4)=true:=by simp at hf⊢;omega
     unfold emptyB at he
     repeat'(first|(with_reducible first|refine zaa _ _ ?_|refine zad ?_|refine zae ?_)|rw[zaf]|simp only[k3,k4,k5,k6,he,hf2,zY,Int.reduceEq,Int.reduceBEq,Int.reduceBNe,Nat.reduceSub,Nat.reduceEqDiff,Nat.reduceAdd,Nat.reduceMul,Nat.reduceLeDiff,Nat.reduceLT,Nat.reduceBEq,reduceCtorEq]|refine zab ?_|refine zac (fun hb=> ?_) (fun hb=> ?_)|(refine And.intro ?_ ?_;exact zI)|refine And.intro (fun hg=> ?_) (fun hg=> ?_)|exact zC|fail)
     exact⟨zan,zas⟩
 ·cases hn:nameP name
  ·have hne:askQ K kind name=(K,1):=by rw[askQ,if_pos (by simp[askOk,hk,hn])]
   rw[hne]
   rw[hn]at hnm
   cases k3:(kind==3)
   ·cases k4:(kind==4)
    ·have k5:(kind==5)=true:=by rw[k3,k4]at hk;simpa using hk
     repeat'(first|(with_reducible first|refine zaa _ _ ?_|refine zad ?_|refine zae ?_)|rw[zaf]|simp only[k3,k4,k5,zY,Int.reduceEq,Int.reduceBEq,Int.reduceBNe,Nat.reduceSub,Nat.reduceEqDiff,Nat.reduceAdd,Nat.reduceMul,Nat.reduceLeDiff,Nat.reduceLT,Nat.reduceBEq,reduceCtorEq]|((first|((try refine zah ?_);apply zak)|(apply zai;intro _));(solve|exact(hnm)|(refine CallOK.le (hnm) ?_;exact zM)|fail);try case hn=>rfl)|refine zab ?_|refine zac (fun hb=> ?_) (fun hb=> ?_)|(refine And.intro ?_ ?_;exact zI)|refine And.intro (fun hg=> ?_) (fun hg=> ?_)|exact zC|fail)
     exact⟨zan,zas⟩
    ·repeat'(first|(with_reducible first|refine zaa _ _ ?_|refine zad ?_|refine zae ?_)|rw[zaf]|simp only[k3,k4,zY,Int.reduceEq,Int.reduceBEq,Int.reduceBNe,Nat.reduceSub,Nat.reduceEqDiff,Nat.reduceAdd,Nat.reduceMul,Nat.reduceLeDiff,Nat.reduceLT,Nat.reduceBEq,reduceCtorEq]|((first|((try refine zah ?_);apply zak)|(apply zai;intro _));(solve|exact(hnm)|(refine CallOK.le (hnm) ?_;exact zM)|fail);try case hn=>rfl)|refine zab ?_|refine zac (fun hb=> ?_) (fun hb=> ?_)|(refine And.intro ?_ ?_;exact zI)|refine And.intro (fun hg=> ?_) (fun hg=> ?_)|exact zC|fail)
     exact⟨zan,zas⟩
   ·repeat'(first|(with_reducible first|refine zaa _ _ ?_|refine zad ?_|refine zae ?_)|rw[zaf]|simp only[k3,zY,Int.reduceEq,Int.reduceBEq,Int.reduceBNe,Nat.reduceSub,Nat.reduceEqDiff,Nat.reduceAdd,Nat.reduceMul,Nat.reduceLeDiff,Nat.reduceLT,Nat.reduceBEq,reduceCtorEq]|((first|((try refine zah ?_);apply zak)|(apply zai;intro _));(solve|exact(hnm)|(refine CallOK.le (hnm) ?_;exact zM)|fail);try case hn=>rfl)|refine zab ?_|refine zac (fun hb=> ?_) (fun hb=> ?_)|(refine And.intro ?_ ?_;exact zI)|refine And.intro (fun hg=> ?_) (fun hg=> ?_)|exact zC|fail)
    exact⟨zan,zas⟩
  ·rw[hn]at hnm
   cases hf:decide (K.asks.length≥4)
   ·have hne:askQ K kind name=({K with asks:=K.asks++[⟨kind,0,name⟩]},0):=by
     rw[askQ,if_neg (by simp[askOk,hk,hn]),if_neg (by simpa using hf)]
    rw[hne]
    have hf2:decide ((K.asks.length:Int)≥4)=false:=by simp at hf⊢;omega
    have hle:(K.asks.length+1≤2^47)=True:=eq_true (by omega)
    cases k3:(kind==3)
    ·cases k4:(kind==4)
     ·have k5:(kind==5)=true:=by rw[k3,k4]at hk;simpa using hk
      repeat'(first|(with_reducible first|refine zaa _ _ ?_|refine zad ?_|refine zae ?_)|rw[zaf]|simp only[k3,k4,k5,hf2,hle,zY,Int.reduceEq,Int.reduceBEq,Int.reduceBNe,Nat.reduceSub,Nat.reduceEqDiff,Nat.reduceAdd,Nat.reduceMul,Nat.reduceLeDiff,Nat.reduceLT,Nat.reduceBEq,reduceCtorEq]|((first|((try refine zah ?_);apply zak)|(apply zai;intro _));(solve|exact(hnm)|(refine CallOK.le (hnm) ?_;exact zM)|fail);try case hn=>rfl)|refine zab ?_|refine zac (fun hb=> ?_) (fun hb=> ?_)|(refine And.intro ?_ ?_;exact zI)|refine And.intro (fun hg=> ?_) (fun hg=> ?_)|exact zC|fail)
      refine And.intro zan ?_
      simp[objsB,rosB,roB,zbo,zaz]
     ·repeat'(first|(with_reducible first|refine zaa _ _ ?_|refine zad ?_|refine zae ?_)|rw[zaf]|simp only[k3,k4,hf2,hle,zY,Int.reduceEq,Int.reduceBEq,Int.reduceBNe,Nat.reduceSub,Nat.reduceEqDiff,Nat.reduceAdd,Nat.reduceMul,Nat.reduceLeDiff,Nat.reduceLT,Nat.reduceBEq,reduceCtorEq]|((first|((try refine zah ?_);apply zak)|(apply zai;intro _));(solve|exact(hnm)|(refine CallOK.le (hnm) ?_;exact zM)|fail);try case hn=>rfl)|refine zab ?_|refine zac (fun hb=> ?_) (fun hb=> ?_)|(refine And.intro ?_ ?_;exact zI)|refine And.intro (fun hg=> ?_) (fun hg=> ?_)|exact zC|fail)
      refine And.intro zan ?_
      simp[objsB,rosB,roB,zbo,zaz]
    ·repeat'(first|(with_reducible first|refine zaa _ _ ?_|refine zad ?_|refine zae ?_)|rw[zaf]|simp only[k3,hf2,hle,zY,Int.reduceEq,Int.reduceBEq,Int.reduceBNe,Nat.reduceSub,Nat.reduceEqDiff,Nat.reduceAdd,Nat.reduceMul,Nat.reduceLeDiff,Nat.reduceLT,Nat.reduceBEq,reduceCtorEq]|((first|((try refine zah ?_);apply zak)|(apply zai;intro _));(solve|exact(hnm)|(refine CallOK.le (hnm) ?_;exact zM)|fail);try case hn=>rfl)|refine zab ?_|refine zac (fun hb=> ?_) (fun hb=> ?_)|(refine And.intro ?_ ?_;exact zI)|refine And.intro (fun hg=> ?_) (fun hg=> ?_)|exact zC|fail)
     refine And.intro zan ?_
     simp[objsB,rosB,roB,zbo,zaz]
   ·have hne:askQ K kind name=(K,5):=by
     rw[askQ,if_neg (by simp[askOk,hk,hn]),if_pos (by simpa using hf)]
    rw[hne]
    have hf2:decide ((K.asks.length:Int)≥4)=true:=by simp at hf⊢;omega
    cases k3:(kind==3)
    ·cases k4:(kind==4)
     ·have k5:(kind==5)=true:=by rw[k3,k4]at hk;simpa using hk
      repeat'(first|(with_reducible first|refine zaa _ _ ?_|refine zad ?_|refine zae ?_)|rw[zaf]|simp only[k3,k4,k5,hf2,zY,Int.reduceEq,Int.reduceBEq,Int.reduceBNe,Nat.reduceSub,Nat.reduceEqDiff,Nat.reduceAdd,Nat.reduceMul,Nat.reduceLeDiff,Nat.reduceLT,Nat.reduceBEq,reduceCtorEq]|((first|((try refine zah ?_);apply zak)|(apply zai;intro _));(solve|exact(hnm)|(refine CallOK.le (hnm) ?_;exact zM)|fail);try case hn=>rfl)|refine zab ?_|refine zac (fun hb=> ?_) (fun hb=> ?_)|(refine And.intro ?_ ?_;exact zI)|refine And.intro (fun hg=> ?_) (fun hg=> ?_)|exact zC|fail)
      exact⟨zan,zas⟩
     ·repeat'(first|(with_reducible first|refine zaa _ _ ?_|refine zad ?_|refine zae ?_)|rw[zaf]|simp only[k3,k4,hf2,zY,Int.reduceEq,Int.reduceBEq,Int.reduceBNe,Nat.reduceSub,Nat.reduceEqDiff,Nat.reduceAdd,Nat.reduceMul,Nat.reduceLeDiff,Nat.reduceLT,Nat.reduceBEq,reduceCtorEq]|((first|((try refine zah ?_);apply zak)|(apply zai;intro _));(solve|exact(hnm)|(refine CallOK.le (hnm) ?_;exact zM)|fail);try case hn=>rfl)|refine zab ?_|refine zac (fun hb=> ?_) (fun hb=> ?_)|(refine And.intro ?_ ?_;exact zI)|refine And.intro (fun hg=> ?_) (fun hg=> ?_)|exact zC|fail)
      exact⟨zan,zas⟩
    ·repeat'(first|(with_reducible first|refine zaa _ _ ?_|refine zad ?_|refine zae ?_)|rw[zaf]|simp only[k3,hf2,zY,Int.reduceEq,Int.reduceBEq,Int.reduceBNe,Nat.reduceSub,Nat.reduceEqDiff,Nat.reduceAdd,Nat.reduceMul,Nat.reduceLeDiff,Nat.reduceLT,Nat.reduceBEq,reduceCtorEq]|((first|((try refine zah ?_);apply zak)|(apply zai;intro _));(solve|exact(hnm)|(refine CallOK.le (hnm) ?_;exact zM)|fail);try case hn=>rfl)|refine zab ?_|refine zac (fun hb=> ?_) (fun hb=> ?_)|(refine And.intro ?_ ?_;exact zI)|refine And.intro (fun hg=> ?_) (fun hg=> ?_)|exact zC|fail)
     exact⟨zan,zas⟩
theorem zly (K:Cl) (h:K.busy=false):CallOK Tryz.prog 12 [.f K.at] (fun r o=>r=[.agg ((⟨0,0,0,0, .empty⟩:Req).enc.map RO.d),rb false]∧o=[]):=by
 refine zal zat mixed (T:=Ty) (n:=18) Tryz.func12 (c:=Tryz.f12.body.getD .skip) rfl Tryz.results12 Tryz.ntmps12 Tryz.call12 ?_
 simp only[Tryz.f12,Option.getD]
 repeat'(first|(with_reducible first|refine zaa _ _ ?_|refine zad ?_|refine zae ?_)|rw[zaf]|simp only[h,zY,Int.reduceEq,Int.reduceBEq,Int.reduceBNe,Nat.reduceSub,Nat.reduceEqDiff,Nat.reduceAdd,Nat.reduceMul,Nat.reduceLeDiff,Nat.reduceLT,Nat.reduceBEq,reduceCtorEq]|refine zab ?_|refine zac (fun hb=> ?_) (fun hb=> ?_)|(refine And.intro ?_ ?_;exact zI)|refine And.intro (fun hg=> ?_) (fun hg=> ?_)|exact zC|fail)
theorem zio (K:Cl) (h:K.busy=true):CallOK Tryz.prog 12 [.f K.at] (fun r o=>r=[.agg (K.out.enc.map RO.d),rb true]∧o=[]):=by
 refine zal zat mixed (T:=Ty) (n:=18) Tryz.func12 (c:=Tryz.f12.body.getD .skip) rfl Tryz.results12 Tryz.ntmps12 Tryz.call12 ?_
 simp only[Tryz.f12,Option.getD]
 repeat'(first|(with_reducible first|refine zaa _ _ ?_|refine zad ?_|refine zae ?_)|rw[zaf]|simp only[h,zY,Int.reduceEq,Int.reduceBEq,Int.reduceBNe,Nat.reduceSub,Nat.reduceEqDiff,Nat.reduceAdd,Nat.reduceMul,Nat.reduceLeDiff,Nat.reduceLT,Nat.reduceBEq,reduceCtorEq]|refine zab ?_|refine zac (fun hb=> ?_) (fun hb=> ?_)|(refine And.intro ?_ ?_;exact zI)|refine And.intro (fun hg=> ?_) (fun hg=> ?_)|exact zC|fail)
abbrev sendsC (K:Cl):List D:=[iD K.turn, .sl (packB K.out).length (packB K.out)]
theorem zgi (K:Cl) (now:Int) (hr:K.out.ok) (hm:Req.may K.out=true):
  CallOK Tryz.prog 37 [.obj K.ro, .f (ai now)] (fun r o=>r=[.one (.own 2 1 (sendsC K) false)]∧o=[({K with sent:=true,last:=now}:Cl).ro]):=by
 refine CallOK.leR ?_
 refine zal zat mixed (T:=Ty) (n:=30) Tryz.func37 (c:=Tryz.f37.body.getD .skip) rfl Tryz.results37 Tryz.ntmps37 Tryz.call37 ?_
 simp only[Tryz.f37,Option.getD]
 have hp:=zfA K.out hr hm
 repeat'(first|(with_reducible first|refine zaa _ _ ?_|refine zad ?_|refine zae ?_)|rw[zaf]|simp only[List.take_length,zY,Int.reduceEq,Int.reduceBEq,Int.reduceBNe,Nat.reduceSub,Nat.reduceEqDiff,Nat.reduceAdd,Nat.reduceMul,Nat.reduceLeDiff,Nat.reduceLT,Nat.reduceBEq,reduceCtorEq]|((first|((try refine zah ?_);apply zak)|(apply zai;intro _));(solve|exact(hp)|(refine CallOK.le (hp) ?_;exact zM)|fail);try case hn=>rfl)|refine zab ?_|refine zac (fun hb=> ?_) (fun hb=> ?_)|(refine And.intro ?_ ?_;exact zI)|refine And.intro (fun hg=> ?_) (fun hg=> ?_)|exact zC|fail)
 exact⟨rfl,zan,zas⟩
def againQ (K:Cl) (now:Int):Cl:={K with turn:=(K.turn+1) % K.c.replicas,sent:=true,last:=now}
end Go.Proofs.YtiegkabcgokhkaaGreat
