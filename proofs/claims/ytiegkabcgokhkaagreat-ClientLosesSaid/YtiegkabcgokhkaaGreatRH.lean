import Derived.Test.YtiegkabcgokhkaaGreatRG
import Derived.Test.YtiegkabcgokhkaaGreatOG
namespace Go.Proofs.YtiegkabcgokhkaaGreat
open Go.Pk
set_option maxRecDepth 100000
set_option linter.unusedSimpArgs false
set_option linter.unusedVariables false
abbrev req0:Req:=⟨0,0,0,0, .empty⟩
def dCmd (bs:List Int) (p:Int):Cm×Int×Int:=
 if(dByte bs p).2.2≠0 then(⟨0,0, .empty⟩,0,(dByte bs p).2.2)else
 let s:=dNum bs (dByte bs p).2.1
 if s.2.2≠0 then(⟨0,0, .empty⟩,0,s.2.2)else
 let a:=dText bs s.2.1 12
 if a.2.2≠0 then(⟨0,0, .empty⟩,0,a.2.2)else
 if mayP (dByte bs p).1 s.1 a.1=false then(⟨0,0, .empty⟩,0,4)else(⟨(dByte bs p).1,s.1,a.1⟩,a.2.1,0)
def dReq (bs:List Int) (p:Int):Req×Int×Int:=
 if(dByte bs p).2.2≠0 then(req0,0,(dByte bs p).2.2)else
 let s:=dNum bs (dByte bs p).2.1
 if s.2.2≠0 then(req0,0,s.2.2)else
 let c:=dCmd bs s.2.1
 if c.2.2≠0 then(req0,0,c.2.2)else
 if Req.may ⟨(dByte bs p).1,s.1,c.1.kind,c.1.session,c.1.name⟩=false then(req0,0,4)else(⟨(dByte bs p).1,s.1,c.1.kind,c.1.session,c.1.name⟩,c.2.1,0)
theorem zlF:CallOK Tryz.prog 67 [.f (ai 0)] (fun r o=>r=[]∧o=[]):=by
 refine zal zat mixed (T:=Ty) (n:=6) Tryz.func67 (c:=Tryz.f67.body.getD .skip) rfl Tryz.results67 Tryz.ntmps67 Tryz.call67 ?_
 simp only[Tryz.f67,Option.getD]
 repeat'(first|(with_reducible first|refine zaa _ _ ?_|refine zad ?_|refine zae ?_)|rw[zaf]|simp only[zY,Int.reduceEq,Int.reduceBEq,Int.reduceBNe,Nat.reduceSub,Nat.reduceEqDiff,Nat.reduceAdd,Nat.reduceMul,Nat.reduceLeDiff,Nat.reduceLT,Nat.reduceBEq,reduceCtorEq]|refine zab ?_|refine zac (fun hb=> ?_) (fun hb=> ?_)|(refine And.intro ?_ ?_;exact zI)|refine And.intro (fun hg=> ?_) (fun hg=> ?_)|exact zC|fail)
theorem zlG (bs:List Int) (p:Int) (h:BsOk bs) (hp:i64 p) (h0:(dByte bs p).2.2=0):
  CallOK Tryz.prog 60 [.obj (rdr bs.length (bytesE bs) p)] (fun r o=>r=[ri (dByte bs p).1]∧o=[rdr bs.length (bytesE bs) (dByte bs p).2.1]):=by
 refine zal zat mixed (T:=Ty) (n:=26) Tryz.func60 (c:=Tryz.f60.body.getD .skip) rfl Tryz.results60 Tryz.ntmps60 Tryz.call60 ?_
 simp only[Tryz.f60,Option.getD]
 have h1:=zdM bs p h hp
 rw[h0]at h1
 repeat'(first|(with_reducible first|refine zaa _ _ ?_|refine zad ?_|refine zae ?_)|rw[zaf]|simp only[zY,Int.reduceEq,Int.reduceBEq,Int.reduceBNe,Nat.reduceSub,Nat.reduceEqDiff,Nat.reduceAdd,Nat.reduceMul,Nat.reduceLeDiff,Nat.reduceLT,Nat.reduceBEq,reduceCtorEq]|((first|((try refine zah ?_);apply zak)|(apply zai;intro _));(solve|exact(h1)|exact(zlF)|(refine CallOK.le (h1) ?_;exact zM)|(refine CallOK.le (zlF) ?_;exact zM)|fail);try case hn=>rfl)|refine zab ?_|refine zac (fun hb=> ?_) (fun hb=> ?_)|(refine And.intro ?_ ?_;exact zI)|refine And.intro (fun hg=> ?_) (fun hg=> ?_)|exact zC|fail)
end Go.Proofs.YtiegkabcgokhkaaGreat
