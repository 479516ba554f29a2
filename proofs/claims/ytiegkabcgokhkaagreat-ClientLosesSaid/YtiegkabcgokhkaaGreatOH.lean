import Derived.Test.YtiegkabcgokhkaaGreatOG
import Derived.Test.YtiegkabcgokhkaaGreatOE
namespace Go.Proofs.YtiegkabcgokhkaaGreat
open Go.Pk
set_option maxRecDepth 100000
set_option linter.unusedSimpArgs false
set_option linter.unusedVariables false
def nmA:ByteArray:=⟨#[97]⟩
theorem zmg:nameP nmA=true:=by kernel_rfl
theorem zgf:ConfOk conf0:=by
 have:=zlk (ns:=[]) (by simp)
 exact this
abbrev rq (id:Int):Req:=⟨id,1,1,0, .empty⟩
def kAsk (c:Conf) (id:Int):Cli:=⟨c,id,0,0,[⟨3,0,nmA⟩],false,⟨0,0,0,0, .empty⟩,0,false,0,0,id % c.replicas⟩
def kOpen (c:Conf) (id:Int):Cli:=⟨c,id,0,0,[⟨3,0,nmA⟩],true,rq id,0,true,0,1,id % c.replicas⟩
theorem zm1 (c:Conf) (id:Int):askP (newK c id) 3 nmA=(kAsk c id,0):=by
 unfold askP
 rw[if_neg (by simp[askOk,zmg]),if_neg (by simp[newK])]
 rfl
theorem zlp (c:Conf) (id:Int):openP (kAsk c id) 0=kOpen c id:=rfl
theorem zfx:CallOK Tryz.prog 11 [.f (al 0 [])] (fun r o=>r=[.agg (conf0.enc.map RO.d)]∧o=[]):=
 zmT [] (by simp) (by simp)
set_option maxHeartbeats 2000000 in
theorem zcW:CallOK Tryz.prog 9 [] (fun r o=>r=[rb true]∧o=[]):=by
 refine zal zat mixed (T:=Ty) (n:=69) Tryz.func9 (c:=Tryz.f9.body.getD .skip) rfl Tryz.results9 Tryz.ntmps9 Tryz.call9 ?_
 simp only[Tryz.f9,Option.getD]
 have hc:=zfx
 have hnw:=znP conf0 2 zgf (by decide)
 have hnb:=zm2 conf0 3 zgf (by decide)
 have hak:=znQ (newK conf0 2) 3 nmA (by decide) (by decide)
 rw[zm1]at hak
 have hop:=zm6 (kAsk conf0 2) 0 ⟨3,0,nmA⟩ [] (by decide) rfl rfl (by decide) rfl rfl (by decide) (by decide)
 rw[zlp]at hop
 have hou:=zm4 (kOpen conf0 2) rfl
 have has:=zm3 (kOpen conf0 2) (by decide)
 repeat'(first|(with_reducible first|refine zaa _ _ ?_|refine zad ?_|refine zae ?_)|rw[zaf]|simp only[zY,Int.reduceEq,Int.reduceBEq,Int.reduceBNe,Nat.reduceSub,Nat.reduceEqDiff,Nat.reduceAdd,Nat.reduceMul,Nat.reduceLeDiff,Nat.reduceLT,Nat.reduceBEq,reduceCtorEq]|((first|((try refine zah ?_);apply zak)|(apply zai;intro _));(solve|exact(hc)|exact(hnb)|(refine CallOK.le (hc) ?_;exact zM)|(refine CallOK.le (hnb) ?_;exact zM)|fail);try case hn=>rfl)|refine zei (hnw) ?_|(refine zei (CallP.le (hnw) ?_) ?_;focus(simp[argsLe,aLe,csLe,cLe]<;>fail))|refine zab ?_|refine zac (fun hb=> ?_) (fun hb=> ?_)|(refine And.intro ?_ ?_;exact zI)|refine And.intro (fun hg=> ?_) (fun hg=> ?_)|exact zC|fail)
 refine zaG (mv:= ?mv1) (lent:= ?le1) (x:= ?x1) (ass:= ?ass1) ?ha1 (hak) ?hr1 rfl ?hs1 ?hb1 ?hc1
 case ha1=>(try simp only[zY,Int.reduceEq,Int.reduceBEq,Int.reduceBNe,nmA,Nat.reduceSub,Nat.reduceEqDiff,Nat.reduceAdd,Nat.reduceMul,Nat.reduceLeDiff,Nat.reduceLT,Nat.reduceBEq,reduceCtorEq]);exact rfl
 case hr1=>simp[rosA,roA,nmA]
 case hs1=>simp[argsLe,aLe,csLe,cLe,nmA]
 case hb1=>(try simp only[zB,scM,nmA,Nat.reduceSub,Nat.reduceEqDiff,Nat.reduceAdd,Nat.reduceMul,Nat.reduceLeDiff,Nat.reduceLT,Nat.reduceBEq,reduceCtorEq]);repeat'(first|rfl|trivial|omega|with_reducible refine And.intro ?_ ?_)
 show aops _ _ _ _ _ _ _ _
 repeat'(first|(with_reducible first|refine zaa _ _ ?_|refine zad ?_|refine zae ?_)|rw[zaf]|simp only[zY,Int.reduceEq,Int.reduceBEq,Int.reduceBNe,Nat.reduceSub,Nat.reduceEqDiff,Nat.reduceAdd,Nat.reduceMul,Nat.reduceLeDiff,Nat.reduceLT,Nat.reduceBEq,reduceCtorEq]|refine zab ?_|refine zac (fun hb=> ?_) (fun hb=> ?_)|(refine And.intro ?_ ?_;exact zI)|refine And.intro (fun hg=> ?_) (fun hg=> ?_)|exact zC|fail)
 refine zaG (mv:= ?mv2) (lent:= ?le2) (x:= ?x2) (ass:= ?ass2) ?ha2 (hop) ?hr2 rfl ?hs2 ?hb2 ?hc2
 case ha2=>(try simp only[zY,Int.reduceEq,Int.reduceBEq,Int.reduceBNe,Nat.reduceSub,Nat.reduceEqDiff,Nat.reduceAdd,Nat.reduceMul,Nat.reduceLeDiff,Nat.reduceLT,Nat.reduceBEq,reduceCtorEq]);exact rfl
 case hr2=>simp[rosA,roA]
 case hs2=>simp[argsLe,aLe,csLe,cLe]
 case hb2=>(try simp only[zB,scM,Nat.reduceSub,Nat.reduceEqDiff,Nat.reduceAdd,Nat.reduceMul,Nat.reduceLeDiff,Nat.reduceLT,Nat.reduceBEq,reduceCtorEq]);repeat'(first|rfl|trivial|omega|with_reducible refine And.intro ?_ ?_)
 show aops _ _ _ _ _ _ _ _
 have g1:((kOpen conf0 2).turn==2)=true:=rfl
 have g2:((kOpen conf0 2).out.client==2)=true:=rfl
 have g3:((kOpen conf0 2).out.seq==1)=true:=rfl
 have g4:((kOpen conf0 2).out.kind==1)=true:=rfl
 have g5:((kOpen conf0 2).out.session==0)=true:=rfl
 have g6:((kOpen conf0 2).out.name.toList==ByteArray.empty.toList)=true:=by simp[kOpen]
 have g7:((((kOpen conf0 2).asks.length:Nat):Int)==1)=true:=rfl
 repeat'(first|(with_reducible first|refine zaa _ _ ?_|refine zad ?_|refine zae ?_)|rw[zaf]|simp only[g1,g2,g3,g4,g5,g6,g7,zaz,zY,Int.reduceEq,Int.reduceBEq,Int.reduceBNe,Nat.reduceSub,Nat.reduceEqDiff,Nat.reduceAdd,Nat.reduceMul,Nat.reduceLeDiff,Nat.reduceLT,Nat.reduceBEq,reduceCtorEq]|((first|((try refine zah ?_);apply zak)|(apply zai;intro _));(solve|exact(hou)|exact(has)|(refine CallOK.le (hou) ?_;exact zM)|(refine CallOK.le (has) ?_;exact zM)|fail);try case hn=>rfl)|refine zab ?_|refine zac (fun hb=> ?_) (fun hb=> ?_)|(refine And.intro ?_ ?_;exact zI)|refine And.intro (fun hg=> ?_) (fun hg=> ?_)|exact zC|fail)
 rfl
end Go.Proofs.YtiegkabcgokhkaaGreat
