import Derived.Test.YtniafckaafcpbaaGreatVR
namespace Go.Proofs.YtniafckaafcpbaaGreat
open Go.Pk
set_option maxRecDepth 100000
set_option linter.unusedSimpArgs false
set_option linter.unusedVariables false
def NmS (s:St):Prop:=(∀k∈s.locks,k.name.size<2^62)∧∀m∈s.memos,∀g∈m.reply.held,g.name.size<2^62
theorem zhT {s:St} (hn:NmS s) (h:greatB s=false):Small s:=by
 unfold greatB at h
 split at h
 ·cases h
 ·rename_i h1
  split at h
  ·cases h
  ·rename_i h2
   simp only[Bool.or_eq_true,decide_eq_true_eq,not_or]at h1
   have h2':s.locks.any bigL=false:=by simpa using h2
   rw[List.any_eq_false]at h2' h
   refine⟨by omega,by omega,by omega,fun k hk=>⟨?_,hn.1 k hk⟩,fun m hm=>⟨?_,hn.2 m hm⟩⟩
   ·have:=h2' k hk
    unfold bigL at this
    simp only[Bool.or_eq_true,decide_eq_true_eq,not_or]at this
    omega
   ·have:=h m hm
    unfold bigM at this
    simp only[decide_eq_true_eq]at this
    omega
set_option maxHeartbeats 8000000 in
theorem zje (s:St) (hn:NmS s) (q:Req) (hro:q.ok) (time lease:Int):
  CallOK Tryz.prog 4 [.f (stAV s), .f (.agg (q.enc.map C.d)), .f (ai time), .f (ai lease)] (fun r o=>r=[rb true]∧o=[]):=by
 refine zak zaA mixed (T:=Ty) (n:=75) Tryz.func4 (c:=Tryz.f4.body.getD .skip) rfl Tryz.results4 Tryz.ntmps4 Tryz.call4 ?_
 simp only[Tryz.f4,Option.getD]
 have haw:=zlI
 have hgr:=zlF s
 have hH:High=2305843009213693952:=rfl
 cases hg:(greatB s||decide ((q.name.size:Int)>300))
 ·have hgf:greatB s=false:=by cases h:greatB s;rfl;rw[h]at hg;cases hg
  have hq3:decide ((q.name.size:Int)>300)=false:=by rw[hgf]at hg;simpa using hg
  have hsm:=zhT hn hgf
  rw[hgf]at hgr
  have hri:=zir s hsm
  have hrr:=zgE s hsm
  have hea:=zjY s hsm
  cases he:earlyB s
  ·rw[he]at hea
   repeat'(first|(with_reducible first|refine zaa _ _ ?_|refine zae ?_|refine zaf ?_)|rw[zad]|simp only[hq3,bne_self_eq_false,zY,Int.reduceEq,Int.reduceBEq,Int.reduceBNe,Nat.reduceSub,Nat.reduceEqDiff,Nat.reduceAdd,Nat.reduceMul,Nat.reduceLeDiff,Nat.reduceLT,Nat.reduceBEq,reduceCtorEq]|((first|((try refine zai ?_);apply zaj)|(apply zah;intro _));(solve|exact(haw)|exact(hgr)|exact(hri)|exact(hrr)|exact(hea)|(refine CallOK.le (haw) ?_;exact zM)|(refine CallOK.le (hgr) ?_;exact zM)|(refine CallOK.le (hri) ?_;exact zM)|(refine CallOK.le (hrr) ?_;exact zM)|(refine CallOK.le (hea) ?_;exact zM)|fail);try case hn=>rfl)|refine zab ?_|refine zac (fun hb=> ?_) (fun hb=> ?_)|(refine And.intro ?_ ?_;exact zI)|refine And.intro (fun hg=> ?_) (fun hg=> ?_)|exact zC|fail)
  ·rw[he]at hea
   unfold earlyB at he
   simp only[Bool.and_eq_true,decide_eq_true_eq]at he
   obtain⟨⟨e1,e2⟩,e3⟩:=he
   have hr:=zdZ.1 e1
   have had:=zfo s hsm hr time lease
   have hra:=zij s hsm hr time lease
   obtain⟨r1,r2,r3,r4,r5⟩:=zdB hr time lease (by omega)
   have hsv:=zin _ (zbj r1)
   have hap:=ziq s hsm hr q hro (fun hm=>zcV hr hm (by omega) (by omega))
   have hrp:=zll s hsm hr q hro (fun hm=>zhV hr hm (by omega) (by omega)) (fun hm=>zcV hr hm (by omega) (by omega))
   have hd:=zeE hr q (by omega) (by omega)
   have hrx:=zjg hr hsm (q:=q) (by omega) (by omega)
   generalize advanceP s time lease=t at*
   generalize applyP s q=U at*
   have hsu:=zin U.1 (zbj hd.rt)
   have hsr:=zfj U.2.1 hrx
   repeat'(first|(with_reducible first|refine zaa _ _ ?_|refine zae ?_|refine zaf ?_)|rw[zad]|simp only[hq3,bne_self_eq_false,beq_self_eq_true,zY,Int.reduceEq,Int.reduceBEq,Int.reduceBNe,Nat.reduceSub,Nat.reduceEqDiff,Nat.reduceAdd,Nat.reduceMul,Nat.reduceLeDiff,Nat.reduceLT,Nat.reduceBEq,reduceCtorEq]|((first|((try refine zai ?_);apply zaj)|(apply zah;intro _));(solve|exact(haw)|exact(hgr)|exact(hri)|exact(hrr)|exact(hea)|exact(had)|exact(hra)|exact(hsv)|exact(hap)|exact(hrp)|exact(hsu)|exact(hsr)|(refine CallOK.le (haw) ?_;exact zM)|(refine CallOK.le (hgr) ?_;exact zM)|(refine CallOK.le (hri) ?_;exact zM)|(refine CallOK.le (hrr) ?_;exact zM)|(refine CallOK.le (hea) ?_;exact zM)|(refine CallOK.le (had) ?_;exact zM)|(refine CallOK.le (hra) ?_;exact zM)|(refine CallOK.le (hsv) ?_;exact zM)|(refine CallOK.le (hap) ?_;exact zM)|(refine CallOK.le (hrp) ?_;exact zM)|(refine CallOK.le (hsu) ?_;exact zM)|(refine CallOK.le (hsr) ?_;exact zM)|fail);try case hn=>rfl)|refine zab ?_|refine zac (fun hb=> ?_) (fun hb=> ?_)|(refine And.intro ?_ ?_;exact zI)|refine And.intro (fun hg=> ?_) (fun hg=> ?_)|exact zC|fail)
 ·repeat'(first|(with_reducible first|refine zaa _ _ ?_|refine zae ?_|refine zaf ?_)|rw[zad]|simp only[hg,zY,Int.reduceEq,Int.reduceBEq,Int.reduceBNe,Nat.reduceSub,Nat.reduceEqDiff,Nat.reduceAdd,Nat.reduceMul,Nat.reduceLeDiff,Nat.reduceLT,Nat.reduceBEq,reduceCtorEq]|((first|((try refine zai ?_);apply zaj)|(apply zah;intro _));(solve|exact(haw)|exact(hgr)|(refine CallOK.le (haw) ?_;exact zM)|(refine CallOK.le (hgr) ?_;exact zM)|fail);try case hn=>rfl)|refine zab ?_|refine zac (fun hb=> ?_) (fun hb=> ?_)|(refine And.intro ?_ ?_;exact zI)|refine And.intro (fun hg=> ?_) (fun hg=> ?_)|exact zC|fail)
end Go.Proofs.YtniafckaafcpbaaGreat
