import Derived.Test.YtiegkabcgokhkaaGreatSD
import Derived.Test.YtiegkabcgokhkaaGreatOH
namespace Go.Proofs.YtiegkabcgokhkaaGreat
open Go.Pk
set_option maxRecDepth 100000
set_option linter.unusedSimpArgs false
set_option linter.unusedVariables false
theorem zdG (m:Memo) (h:answerB m=true):CallOK Tryz.prog 18 [.f (ai m.client), .f (ai m.seq), .f (.agg (replyD m.reply))] (fun x o=>x=[.one (.d (.sl (packAI m).length (bytesE (packAI m))))]∧o=[]):=by
 refine CallOK.nil ((zlA m h).mono ?_)
 rintro r o ⟨rfl,rfl⟩
 refine⟨⟨?_,trivial⟩,rfl⟩
 show roLe _ _
 simp[roLe]
theorem zcd:LeaseOk conf0:=⟨by decide,by decide⟩
def kq1:Cl:={newC conf0 0 with asks:=[⟨3,0,nmA⟩]}
def kq2:Cl:=goQ kq1 0 1 0 .empty
def kq3:Cl:=takeQ kq2 ⟨0,4,0,[]⟩
def kq4:Cl:=goQ kq3 0 3 4 nmA
def kOp (held:List Grant):Cl:=⟨conf0,0,4,held,49,[],false,⟨0,2,3,4,nmA⟩,0,true,0,2,0⟩
def rp4 (held:List Grant):Reply:=⟨0,4,0,held⟩
theorem zm0 (n:Int) (h:1≤n∧n≤7):mayP 3 n nmA=true:=by
 rcases(show n=1∨n=2∨n=3∨n=4∨n=5∨n=6∨n=7 by omega)with rfl|rfl|rfl|rfl|rfl|rfl|rfl<;>kernel_rfl
set_option maxHeartbeats 2000000 in
theorem ziO (held:List Grant) (hh:replyB (rp4 held)=true):CallP Tryz.prog 24 [.f (asl held.length (grantsE held))] [] (kOp held).ro:=by
 refine CallP.leR (rfs:=[]) (l:=(kOp held).ro.set 15 (.own 3 (kOp held).asks.length (cmsE (kOp held).asks) false)) ?_ zan (by simp[rosB,roB])
 refine zfR zat mixed (T:=Ty) (n:=35) Tryz.func24 (c:=Tryz.f24.body.getD .skip) rfl Tryz.results24 Tryz.ntmps24 Tryz.call24 ?_
 simp only[Tryz.f24,Option.getD]
 have hc:=zfx
 have hnw:=znb conf0 0 zgf (by decide)
 have hak:=zku (newC conf0 0) 3 nmA (by decide) (by decide)
 rw[show askQ (newC conf0 0) 3 nmA=(kq1,0) from by
  unfold askQ
  rw[if_neg (by simp[askOk,zmg]),if_neg (by simp[newC])]
  rfl]at hak
 have hs1:=zin kq1 0 (by decide) rfl (by decide) rfl (by decide) (by decide)
 rw[if_pos (by decide),if_pos (by decide),show goQ {kq1 with asks:=dwA kq1.asks} 0 1 0 .empty=kq2 from rfl]at hs1
 obtain⟨b1,eb1⟩:∃b,b=packAI ⟨0,1,rp4 []⟩:=⟨_,rfl⟩
 have hb1:CallOK Tryz.prog 18 [.f (ai 0), .f (ai 1), .f (.agg [di 0,di 4,di 0, .d (.sl 0 [])])] (fun x o=>x=[.one (.d (.sl b1.length (bytesE b1)))]∧o=[]):=by
  rw[eb1];exact zdG ⟨0,1,rp4 []⟩ (by kernel_rfl)
 have ht1:=zeq kq2 ⟨0,1,rp4 []⟩ b1 (by kernel_rfl) eb1 rfl (by decide) zcd (by decide) (fun h=>absurd h (by decide)) rfl rfl
 rw[show takeQ kq2 (rp4 [])=kq3 from rfl]at ht1
 have hs2:=zgh kq3 0 ⟨3,0,nmA⟩ [] (by decide) rfl rfl (by decide) rfl (by decide) (by decide) (zm0 4 (by decide))
 rw[show goQ kq3 0 (⟨3,0,nmA⟩:Cm).kind kq3.session (⟨3,0,nmA⟩:Cm).name=kq4 from rfl]at hs2
 have hm2:answerB ⟨0,2,rp4 held⟩=true:=by
  unfold answerB
  rw[hh];rfl
 obtain⟨b2,eb2⟩:∃b,b=packAI ⟨0,2,rp4 held⟩:=⟨_,rfl⟩
 have hb2:CallOK Tryz.prog 18 [.f (ai 0), .f (ai 2), .f (.agg [di 0,di 4,di 0, .d (.sl held.length (grantsE held))])] (fun x o=>x=[.one (.d (.sl b2.length (bytesE b2)))]∧o=[]):=by
  rw[eb2];exact zdG ⟨0,2,rp4 held⟩ hm2
 have ht2:=zeq kq4 ⟨0,2,rp4 held⟩ b2 hm2 eb2 rfl (by decide) zcd (by decide) (fun _ _=>by simp[kq4,goQ,kq3,takeQ,kq2,kq1,openedQ]) rfl rfl
 rw[show takeQ kq4 (rp4 held)=kOp held from rfl]at ht2
 have g0:((0:Int) !=0)=false:=rfl
 repeat'(first|(with_reducible first|refine zaa _ _ ?_|refine zad ?_|refine zae ?_)|rw[zaf]|simp only[g0,zY,Int.reduceEq,Int.reduceBEq,Int.reduceBNe,Nat.reduceSub,Nat.reduceEqDiff,Nat.reduceAdd,Nat.reduceMul,Nat.reduceLeDiff,Nat.reduceLT,Nat.reduceBEq,reduceCtorEq]|((first|((try refine zah ?_);apply zak)|(apply zai;intro _));(solve|exact(hc)|(refine CallOK.le (hc) ?_;exact zM)|fail);try case hn=>rfl)|refine zei (hnw) ?_|(refine zei (CallP.le (hnw) ?_) ?_;focus(simp[argsLe,aLe,csLe,cLe]<;>fail))|refine zab ?_|refine zac (fun hb=> ?_) (fun hb=> ?_)|(refine And.intro ?_ ?_;exact zI)|refine And.intro (fun hg=> ?_) (fun hg=> ?_)|exact zC|fail)
 refine zah ?_
 refine zaG (mv:= ?mv1) (lent:= ?le1) (x:= ?x1) (ass:= ?ass1) ?ha1 (hak) ?hr1 rfl ?hs1 ?hb1 ?hc1
 case ha1=>(try simp only[zY,Int.reduceEq,Int.reduceBEq,Int.reduceBNe,nmA,Nat.reduceSub,Nat.reduceEqDiff,Nat.reduceAdd,Nat.reduceMul,Nat.reduceLeDiff,Nat.reduceLT,Nat.reduceBEq,reduceCtorEq]);exact rfl
 case hr1=>simp[rosA,roA,nmA]
 case hs1=>simp[argsLe,aLe,csLe,cLe,nmA]
 case hb1=>(try simp only[zB,scM,nmA,Nat.reduceSub,Nat.reduceEqDiff,Nat.reduceAdd,Nat.reduceMul,Nat.reduceLeDiff,Nat.reduceLT,Nat.reduceBEq,reduceCtorEq]);repeat'(first|rfl|trivial|omega|with_reducible refine And.intro ?_ ?_)
 show aops _ _ _ _ _ _ _ _
 repeat'(first|(with_reducible first|refine zaa _ _ ?_|refine zad ?_|refine zae ?_)|rw[zaf]|simp only[g0,zY,Int.reduceEq,Int.reduceBEq,Int.reduceBNe,Nat.reduceSub,Nat.reduceEqDiff,Nat.reduceAdd,Nat.reduceMul,Nat.reduceLeDiff,Nat.reduceLT,Nat.reduceBEq,reduceCtorEq]|refine zab ?_|refine zac (fun hb=> ?_) (fun hb=> ?_)|(refine And.intro ?_ ?_;exact zI)|refine And.intro (fun hg=> ?_) (fun hg=> ?_)|exact zC|fail)
 refine zaG (mv:= ?mv2) (lent:= ?le2) (x:= ?x2) (ass:= ?ass2) ?ha2 (hs1) ?hr2 rfl ?hs2 ?hb2 ?hc2
 case ha2=>(try simp only[zY,Int.reduceEq,Int.reduceBEq,Int.reduceBNe,Nat.reduceSub,Nat.reduceEqDiff,Nat.reduceAdd,Nat.reduceMul,Nat.reduceLeDiff,Nat.reduceLT,Nat.reduceBEq,reduceCtorEq]);exact rfl
 case hr2=>simp[rosA,roA]
 case hs2=>simp[argsLe,aLe,csLe,cLe]
 case hb2=>(try simp only[zB,scM,Nat.reduceSub,Nat.reduceEqDiff,Nat.reduceAdd,Nat.reduceMul,Nat.reduceLeDiff,Nat.reduceLT,Nat.reduceBEq,reduceCtorEq]);repeat'(first|rfl|trivial|omega|with_reducible refine And.intro ?_ ?_)
 show aops _ _ _ _ _ _ _ _
 repeat'(first|(with_reducible first|refine zaa _ _ ?_|refine zad ?_|refine zae ?_)|rw[zaf]|simp only[zY,Int.reduceEq,Int.reduceBEq,Int.reduceBNe,Nat.reduceSub,Nat.reduceEqDiff,Nat.reduceAdd,Nat.reduceMul,Nat.reduceLeDiff,Nat.reduceLT,Nat.reduceBEq,reduceCtorEq]|((first|((try refine zah ?_);apply zak)|(apply zai;intro _));(solve|exact(hb1)|(refine CallOK.le (hb1) ?_;exact zM)|fail);try case hn=>rfl)|refine zab ?_|refine zac (fun hb=> ?_) (fun hb=> ?_)|(refine And.intro ?_ ?_;exact zI)|refine And.intro (fun hg=> ?_) (fun hg=> ?_)|exact zC|fail)
 refine zaG (mv:= ?mv3) (lent:= ?le3) (x:= ?x3) (ass:= ?ass3) ?ha3 (ht1) ?hr3 rfl ?hs3 ?hb3 ?hc3
 case ha3=>(try simp only[zY,Int.reduceEq,Int.reduceBEq,Int.reduceBNe,Nat.reduceSub,Nat.reduceEqDiff,Nat.reduceAdd,Nat.reduceMul,Nat.reduceLeDiff,Nat.reduceLT,Nat.reduceBEq,reduceCtorEq]);exact rfl
 case hr3=>simp[rosA,roA]
 case hs3=>simp[argsLe,aLe,csLe,cLe]
 case hb3=>(try simp only[zB,scM,Nat.reduceSub,Nat.reduceEqDiff,Nat.reduceAdd,Nat.reduceMul,Nat.reduceLeDiff,Nat.reduceLT,Nat.reduceBEq,reduceCtorEq]);repeat'(first|rfl|trivial|omega|with_reducible refine And.intro ?_ ?_)
 show aops _ _ _ _ _ _ _ _
 repeat'(first|(with_reducible first|refine zaa _ _ ?_|refine zad ?_|refine zae ?_)|rw[zaf]|simp only[zY,Int.reduceEq,Int.reduceBEq,Int.reduceBNe,Nat.reduceSub,Nat.reduceEqDiff,Nat.reduceAdd,Nat.reduceMul,Nat.reduceLeDiff,Nat.reduceLT,Nat.reduceBEq,reduceCtorEq]|refine zab ?_|refine zac (fun hb=> ?_) (fun hb=> ?_)|(refine And.intro ?_ ?_;exact zI)|refine And.intro (fun hg=> ?_) (fun hg=> ?_)|exact zC|fail)
 refine zaG (mv:= ?mv4) (lent:= ?le4) (x:= ?x4) (ass:= ?ass4) ?ha4 (hs2) ?hr4 rfl ?hs4 ?hb4 ?hc4
 case ha4=>(try simp only[zY,Int.reduceEq,Int.reduceBEq,Int.reduceBNe,Nat.reduceSub,Nat.reduceEqDiff,Nat.reduceAdd,Nat.reduceMul,Nat.reduceLeDiff,Nat.reduceLT,Nat.reduceBEq,reduceCtorEq]);exact rfl
 case hr4=>simp[rosA,roA]
 case hs4=>simp[argsLe,aLe,csLe,cLe]
 case hb4=>(try simp only[zB,scM,Nat.reduceSub,Nat.reduceEqDiff,Nat.reduceAdd,Nat.reduceMul,Nat.reduceLeDiff,Nat.reduceLT,Nat.reduceBEq,reduceCtorEq]);repeat'(first|rfl|trivial|omega|with_reducible refine And.intro ?_ ?_)
 show aops _ _ _ _ _ _ _ _
 repeat'(first|(with_reducible first|refine zaa _ _ ?_|refine zad ?_|refine zae ?_)|rw[zaf]|simp only[zY,Int.reduceEq,Int.reduceBEq,Int.reduceBNe,Nat.reduceSub,Nat.reduceEqDiff,Nat.reduceAdd,Nat.reduceMul,Nat.reduceLeDiff,Nat.reduceLT,Nat.reduceBEq,reduceCtorEq]|((first|((try refine zah ?_);apply zak)|(apply zai;intro _));(solve|exact(hb2)|(refine CallOK.le (hb2) ?_;exact zM)|fail);try case hn=>rfl)|refine zab ?_|refine zac (fun hb=> ?_) (fun hb=> ?_)|(refine And.intro ?_ ?_;exact zI)|refine And.intro (fun hg=> ?_) (fun hg=> ?_)|exact zC|fail)
 refine zaG (mv:= ?mv5) (lent:= ?le5) (x:= ?x5) (ass:= ?ass5) ?ha5 (ht2) ?hr5 rfl ?hs5 ?hb5 ?hc5
 case ha5=>(try simp only[zY,Int.reduceEq,Int.reduceBEq,Int.reduceBNe,Nat.reduceSub,Nat.reduceEqDiff,Nat.reduceAdd,Nat.reduceMul,Nat.reduceLeDiff,Nat.reduceLT,Nat.reduceBEq,reduceCtorEq]);exact rfl
 case hr5=>simp[rosA,roA]
 case hs5=>simp[argsLe,aLe,csLe,cLe]
 case hb5=>(try simp only[zB,scM,Nat.reduceSub,Nat.reduceEqDiff,Nat.reduceAdd,Nat.reduceMul,Nat.reduceLeDiff,Nat.reduceLT,Nat.reduceBEq,reduceCtorEq]);repeat'(first|rfl|trivial|omega|with_reducible refine And.intro ?_ ?_)
 show aops _ _ _ _ _ _ _ _
 repeat'(first|(with_reducible first|refine zaa _ _ ?_|refine zad ?_|refine zae ?_)|rw[zaf]|simp only[zc4,zfQ,closeP,closeP1,List.set_cons_succ,List.set_cons_zero,zY,Int.reduceEq,Int.reduceBEq,Int.reduceBNe,Nat.reduceSub,Nat.reduceEqDiff,Nat.reduceAdd,Nat.reduceMul,Nat.reduceLeDiff,Nat.reduceLT,Nat.reduceBEq,reduceCtorEq]|refine zab ?_|refine zac (fun hb=> ?_) (fun hb=> ?_)|(refine And.intro ?_ ?_;exact zI)|refine And.intro (fun hg=> ?_) (fun hg=> ?_)|exact zC|fail)
end Go.Proofs.YtiegkabcgokhkaaGreat
